/- Models and proofs. Conditions: none. -/
import Derived.Test.YtigggfnchamobaaGreatDoorZCMe1
import Derived.Maps.RangeRun
set_option linter.unusedVariables false
set_option linter.unusedSimpArgs false
set_option maxHeartbeats 4000000
set_option maxRecDepth 20000
section
namespace Go.Sx
theorem dW {X R:Type} {step:X->(X->Option R)->Option R} {K:Option R} (N:Nat) (F:Nat->X) (hstep:∀(k:Nat) ag,k<N->step (F k) ag=ag (F (k+1))) (hend:∀ag,step (F N) ag=K):∀fuel,N<fuel->bG step fuel (F 0)=K:=by
 have key:∀(d a fuel:Nat),a+d=N->d<fuel->bG step fuel (F a)=K:=by
  intro d
  induction d with
  |zero=>
   intro a fuel ha hf
   obtain rfl:a=N:=by omega
   obtain⟨f,rfl⟩:∃f,fuel=f+1:=⟨fuel - 1,by omega⟩
   exact hend _
  |succ d ih=>
   intro a fuel ha hf
   obtain⟨f,rfl⟩:∃f,fuel=f+1:=⟨fuel - 1,by omega⟩
   show step (F a) (bG step f)=K
   rw[hstep a _ (by omega)]
   exact ih (a+1) f (by omega) (by omega)
 exact fun fuel hf=>key N 0 fuel (by omega) hf
theorem AQ {X R:Type} {step:X->(X->Option R)->Option R} {K:X->Option R} (N:Nat) (I:Nat->X->Prop) (hstep:∀(k:Nat) x ag,k<N->I k x->∃x',I (k+1) x'∧step x ag=ag x') (hend:∀x ag,I N x->step x ag=K x):∀fuel x,I 0 x->N<fuel->∃x',I N x'∧bG step fuel x=K x':=by
 have key:∀(d a fuel:Nat) (x:X),a+d=N->d<fuel->I a x->∃x',I N x'∧bG step fuel x=K x':=by
  intro d
  induction d with
  |zero=>
   intro a fuel x ha hf hI
   obtain rfl:a=N:=by omega
   obtain⟨f,rfl⟩:∃f,fuel=f+1:=⟨fuel - 1,by omega⟩
   exact⟨x,hI,hend _ _ hI⟩
  |succ d ih=>
   intro a fuel x ha hf hI
   obtain⟨f,rfl⟩:∃f,fuel=f+1:=⟨fuel - 1,by omega⟩
   obtain⟨x',hI',hs⟩:=hstep a x (bG step f) (by omega) hI
   obtain⟨x2,h1,h2⟩:=ih (a+1) f x' (by omega) (by omega) hI'
   exact⟨x2,h1,by rw[<-h2];exact hs⟩
 exact fun fuel x hI hf=>key N 0 fuel x (by omega) hf hI
def xM (q:Nat->Bool):Nat->Bool
 |0=>false
 |k+1=>xM q k||q k
theorem JP {q:Nat->Bool}:∀{k:Nat},xM q k=true↔∃i,i<k∧q i=true
 |0=>by simp[xM]
 | k + 1 => by
  simp only[xM,Bool.or_eq_true,JP (k:=k)]
  constructor
  ·rintro(⟨i,h1,h2⟩|h)
   ·exact⟨i,by omega,h2⟩
   ·exact⟨k,by omega,h⟩
  ·rintro⟨i,h1,h2⟩
   by_cases e:i=k
   ·subst e;exact .inr h2
   ·exact .inl ⟨i,by omega,h2⟩
def kS (p:Nat->Bool):Nat->Nat
 |0=>0
 |k+1=>if p k then kS p k ||| 2^k else kS p k
theorem Ki (p:Nat->Bool):∀k,kS p k<2^k
 |0=>by simp[kS]
 |k+1=>by
  have h:=Ki p k
  simp only[kS]
  split
  ·exact Nat.or_lt_two_pow (by omega) (Nat.pow_lt_pow_right (by omega) (by omega))
  ·omega
theorem vA (p:Nat->Bool) (j:Nat):∀k,(kS p k).testBit j=(decide (j<k)&&p j)
 |0=>by simp[kS]
 | k + 1 => by
  have h:=vA p j k
  simp only[kS]
  by_cases e:j=k
  ·subst e
   cases hp:p j<;>simp[h,hp]
  ·have e2:decide (j<k+1)=decide (j<k):=decide_eq_decide.2 (by omega)
   have e3:¬k=j:=fun h=>e h.symm
   split
   ·rw[Nat.testBit_or,h,Nat.testBit_two_pow,e2];simp[e3]
   ·rw[h,e2]
end Go.Sx
end
section
set_option linter.unusedSectionVars false
namespace Go.Sx
open Go.RowKit
section defs
variable {κ ν:Type} [DecidableEq κ]
def AS (ek:κ->Value) (ev:ν->Value):Nat->List (κ×ν)->List MapEntry
 |_,[]=>[]
 |i,x::xs=>⟨ek x.1,ev x.2,i⟩::AS ek ev (i+1) xs
def k_ (k:κ):List (κ×ν)->Option ν
 | []=>none
 |x::xs=>if k=x.1 then some x.2 else k_ k xs
def zT (k:κ) (v:ν):List (κ×ν)->List (κ×ν)
 | []=>[(k,v)]
 |x::xs=>if k=x.1 then(k,v)::xs else x::zT k v xs
def OE (ev:ν->Value) (k:κ):Nat->List (κ×ν)->Option (Nat×Value)
 |_,[]=>none
 |i,x::xs=>if k=x.1 then some (i,ev x.2)else OE ev k (i+1) xs
theorem IB (ev:ν->Value) (k:κ):∀(i:Nat) (l:List (κ×ν)),(OE ev k i l).map (·.2)=(k_ k l).map ev
 |_,[]=>rfl
 |i,x::xs=>by
  simp only[OE,k_]
  split
  ·rfl
  ·exact IB ev k (i+1) xs
theorem Gn (ek:κ->Value) (ev:ν->Value):∀(i:Nat) (l:List (κ×ν)) (x:κ×ν),AS ek ev i (l++[x])=AS ek ev i l++[⟨ek x.1,ev x.2,i+l.length⟩]
 |i,[],x=>rfl
 |i,y::ys,x=>by
  simp only[List.cons_append,AS,Gn ek ev (i+1) ys x,List.length_cons]
  rw[show i+1+ys.length=i+(ys.length+1) by omega]
theorem DT (k:κ) (v:ν):∀l:List (κ×ν),k_ k l=none->zT k v l=l++[(k,v)]
 | [],_=>rfl
 | x :: xs, h => by
  simp only[k_]at h
  split at h
  ·cases h
  ·rename_i hne
   simp only[zT,if_neg hne,DT k v xs h,List.cons_append]
theorem Ni (ek:κ->Value) (ev:ν->Value) (k:κ) (v:ν):∀(i0 i:Nat) (l:List (κ×ν)) (j:Nat) (u:Value),OE ev k i l=some (j,u)->
  i<=j∧((AS ek ev i l)[j - i]?).map (·.key)=some (ek k)∧AS ek ev i (zT k v l)=(AS ek ev i l).modify (j - i) (fun e=>{e with key:=ek k,val:=ev v})∧(zT k v l).length=l.length
 |_,i,[],j,u,h=>by simp[OE]at h
 | i0, i, x :: xs, j, u, h => by
  simp only[OE]at h
  split at h
  ·rename_i he
   simp only[Option.some.injEq,Prod.mk.injEq]at h
   obtain⟨rfl,_⟩:=h
   simp[AS,zT,he]
  ·rename_i hne
   obtain⟨h1,h2,h3,h4⟩:=Ni ek ev k v i0 (i+1) xs j u h
   have hj:j - i=(j - (i+1))+1:=by omega
   refine⟨by omega,?_,?_,?_⟩
   ·rw[hj];simpa [AS]using h2
   ·simp only[zT,if_neg hne,AS]
    rw[hj,List.modify_succ_cons,h3]
   ·simp[zT,hne,h4]
end defs
structure Fi (P:Program) (kt:TypeId) {κ:Type} [DecidableEq κ] (ek:κ->Value):Prop where
 chk:∀b k w,(Instr.checkKey b 10000 kt (ek k)).run P w = .ok () w
 find:∀{ν:Type} (ev:ν->Value) (k:κ) (l:List (κ×ν)) w,(Instr.findKey kt (ek k) (AS ek ev 0 l)).run P w = .ok (OE ev k 0 l) w
 same:∀k,Instr.sameBits 10000 (ek k) (ek k)=true
def Mp {κ ν:Type} (ek:κ->Value) (ev:ν->Value) (r:Nat) (l:List (κ×ν)):aW where
 p w F:=F r∧w.heap[r]? = some (.map (AS ek ev 0 l).toArray l.length)
 mono:=fun⟨h1,h2⟩ h=>by
  obtain⟨h3,h4⟩:=h r h1 (Array.getElem?_eq_some_iff.1 h2).1
  exact⟨h3,by rw[h4];exact h2⟩
section
variable {P:Program} {rd:Option Nat} {c:s_} {n:Sz} {σ:Fr} {M L:List aW} {Q:Exit->Act->World->Prop} {ops:Array Oper} {rest:List Oper}
variable {d:Option Tmp} {ty:TypeId} {pos:String} {aft:Array Edge} {g:Option (Nat×Bool)}
theorem St.push {w:World} (t:St c M L w) (o:Obj) {m:aW} (hm:m.p (w.alloc o) (fun k=>k=w.heap.size)):St c (m::M) L (w.alloc o):=by
 have e:Ic w (w.alloc o):=(Below.refl _ _).alloc (Nat.le_refl _) _
 obtain⟨ho,F,hF,hL⟩:=t
 have hb:∀k,k<w.heap.size->(w.alloc o).heap[k]? = w.heap[k]? := e.block
 refine⟨ho.trans e,fun i k=>match i with|0=>k=w.heap.size|i+1=>F i k,⟨?_,?_,?_⟩,fun f hf=> ?_⟩
 ·intro i m' hm'
  cases i with
  |zero=>simp at hm';subst hm';exact hm
  |succ i=>exact aW.same (hF.res i m' (by simpa using hm')) (fun _ h=>h) (fun k _ hl=>hb k hl)
 ·intro i k hk
  cases i with
  |zero=>subst hk;exact⟨.inl ho.size,by simp⟩
  |succ i=>exact⟨(hF.rng i k hk).1,Nat.lt_of_lt_of_le (hF.rng i k hk).2 e.size⟩
 ·intro i j k hi hj
  cases i with
  |zero=>
   cases j with
   |zero=>rfl
   |succ j=>have:=(hF.rng j k hj).2;simp only at hi;omega
  |succ i=>
   cases j with
   |zero=>have:=(hF.rng i k hi).2;simp only at hj;omega
   |succ j=>exact congrArg (· + 1) (hF.dis i j k hi hj)
 ·exact f.mono (hL f hf) fun k hk hl=>⟨⟨hk.1,fun i hi=>by
   cases i with
   |zero=>simp only at hi;omega
   |succ i=>exact hk.2 i hi⟩,hb k hl⟩
variable {κ ν:Type} [DecidableEq κ] {ek:κ->Value} {ev:ν->Value}
theorem aM.makeMap (ek:κ->Value) (ev:ν->Value) {T:TypeId}:aM P c n σ M L ⟨d,.makeMap T none,ty,pos,aft,g⟩ (fun r:Nat=> .map (some r)) (fun r=>Mp ek ev r []::M) (fun _=>L):=fun a w s t=>by
 have hrun:(execOp a.eval ⟨d,.makeMap T none,ty,pos,aft,g⟩).run P w = .ok (.value (.map (some w.heap.size))) (w.alloc (.map #[] 0)):=by
  simp[execOp,Instr.makeMap]
 simp only[Oper.wp,hrun,Oper.upon]
 exact⟨w.heap.size,rfl,t.push _ ⟨rfl,heap_alloc_new w _⟩⟩
theorem Mo [cD P] {T kt vt:TypeId} {s1 s2 s3 s4:Nat} {z zv:Value} {dv:TypeDesc} {w:World} {r:Nat} {l:List (κ×ν)} {F:Nat->Prop} (hk:Fi P kt ek) (hM:(Mp ek ev r l).p w F)
  (hT:cD.tab P T=some ⟨.map kt vt,s1,s2,z⟩) (hV:cD.tab P vt=some ⟨dv,s3,s4,zv⟩) (k:κ) (b:Bool):
  (Instr.lookup T (.map (some r)) (ek k) b).run P w = .ok (if b then .tuple #[((k_ k l).map ev).getD zv,.bool (k_ k l).isSome]else((k_ k l).map ev).getD zv) w:=by
 have hg:(getObj r).run P w = .ok (.map (AS ek ev 0 l).toArray l.length) w:=by
  simp[getObj,Sem.run,hM.2]
 have hf:=hk.find ev k l w
 have hfg:=IB ev k 0 l
 simp only[Instr.lookup]
 simp[(cD.ok hT).run_und w,hg,hk.chk,hf]
 cases hfd:OE ev k 0 l with
 |none=>
  rw[hfd]at hfg
  have:k_ k l=none:=by cases h:k_ k l<;>simp[h]at hfg ⊢
  simp[this,(cD.ok hV).run_zero w]
 | some x =>
  rw[hfd]at hfg
  obtain⟨v,hv,hx⟩:∃v,k_ k l=some v∧ev v=x.2:=by
   cases h:k_ k l with
   |none=>simp[h]at hfg
   |some v=>simp[h]at hfg;exact⟨v,rfl,hfg.symm⟩
  simp[hv,hx]
theorem JM [cD P] (j:Nat) {T kt vt:TypeId} {s1 s2 s3 s4:Nat} {z zv:Value} {dv:TypeDesc} {x y:Operand} {r:Nat} {l:List (κ×ν)} (k:κ) {b:Bool} (hk:Fi P kt ek) (hx:Go.Sx.ev σ x=some (.map (some r))) (hy:Go.Sx.ev σ y=some (ek k)) (hf:M[j]? = some (Mp ek ev r l))
  (hT:cD.tab P T=some ⟨.map kt vt,s1,s2,z⟩) (hV:cD.tab P vt=some ⟨dv,s3,s4,zv⟩) {u:Value} (hu:((k_ k l).map ev).getD zv=u):
  Y P c n σ M L ⟨d,.lookup T x y b,ty,pos,aft,g⟩ (if b then .tuple #[u,.bool (k_ k l).isSome]else u):=fun a w s t=>by
 obtain⟨F,hF⟩:=t.res hf
 subst hu
 simp[execOp,s.eval hx,s.eval hy,Mo hk hF hT hV]
theorem AU {w:World} {r:Nat} {es:Array MapEntry} {k:Nat} (h:w.heap[r]? = some (.map es k)) (o:Obj):(setObj r o).run P w = .ok () {w with heap:=w.heap.setIfInBounds r o}:=by
 simp[setObj,Sem.run,h]
theorem St.setMap {w:World} (t:St c M L w) {j r:Nat} {l l':List (κ×ν)} (hf:M[j]? = some (Mp ek ev r l)) (o:Obj) (ho:o = .map (AS ek ev 0 l').toArray l'.length):
  St c (M.set j (Mp ek ev r l')) L {w with heap:=w.heap.setIfInBounds r o}:=
 t.upd hf rfl rfl rfl (by simp) fun F hF _=>⟨fun k _ hk=>by
   rw[Array.getElem?_setIfInBounds_ne (fun e=>hk (by subst e;exact hF.1))],F,⟨hF.1,by
    rw[Array.getElem?_setIfInBounds_self_of_lt (Array.getElem?_eq_some_iff.1 hF.2).1,ho]⟩,fun _ h=> .inl h⟩
theorem Jo [cD P] (j:Nat) {T kt vt:TypeId} {s1 s2:Nat} {z:Value} {x y v:Operand} {r:Nat} {l:List (κ×ν)} (k:κ) (nv:ν) (hk:Fi P kt ek) (hx:Go.Sx.ev σ x=some (.map (some r))) (hy:Go.Sx.ev σ y=some (ek k)) (hv:Go.Sx.ev σ v=some (ev nv)) (hf:M[j]? = some (Mp ek ev r l))
  (hT:cD.tab P T=some ⟨.map kt vt,s1,s2,z⟩) (h:J c n σ (M.set j (Mp ek ev r (zT k nv l))) L (wpList P ops Q rest)):
  J c n σ M L (wpList P ops Q (⟨none,.mapUpdate T x y v,ty,pos,aft,none⟩::rest)):=fun a w s t=>by
 refine kT rfl ?_
 obtain⟨F,hF⟩:=t.res hf
 have hg:(getObj r).run P w = .ok (.map (AS ek ev 0 l).toArray l.length) w:=by
  simp[getObj,Sem.run,hF.2]
 have hfd:=hk.find ev k l w
 have hfg:=IB ev k 0 l
 have hrun:∃o:Obj,(execOp a.eval ⟨none,.mapUpdate T x y v,ty,pos,aft,none⟩).run P w = .ok .skip {w with heap:=w.heap.setIfInBounds r o}∧o = .map (AS ek ev 0 (zT k nv l)).toArray (zT k nv l).length:=by
  simp only[execOp,s.eval hx,s.eval hy,s.eval hv,Instr.mapUpdate]
  cases hfn:OE ev k 0 l with
  |none=>
   rw[hfn]at hfg hfd
   have hn:k_ k l=none:=by cases h:k_ k l<;>simp[h]at hfg ⊢
   refine⟨.map (AS ek ev 0 l++[(⟨ek k,ev nv,l.length⟩:MapEntry)]).toArray (l.length+1),by simp[(cD.ok hT).run_und w,hg,hk.chk,hfd,AU hF.2],?_⟩
   rw[DT k nv l hn,Gn];simp
  | some q =>
   obtain⟨i,u⟩:=q
   rw[hfn]at hfd
   obtain⟨_,h2,h3,h4⟩:=Ni ek ev k nv 0 0 l i u hfn
   rw[Nat.sub_zero]at h2 h3
   have hkey:(((AS ek ev 0 l).toArray[i]?).map (·.key)).getD (ek k)=ek k:=by
    rw[List.getElem?_toArray,h2];rfl
   refine⟨.map ((AS ek ev 0 l).toArray.modify i fun e=>{e with key:=ek k,val:=ev nv}) l.length,?_,?_⟩
   ·have hst:(Instr.keyThatStays (ek k) (ek k)).run P w = .ok (ek k) w:=by simp[Instr.keyThatStays,hk.same k]
    have hkey':(Option.map (fun x=>x.key) (AS ek ev 0 l)[i]?).getD (ek k)=ek k:=by rw[h2];rfl
    simp[(cD.ok hT).run_und w,hg,hk.chk,hfd,hkey',hst,AU hF.2]
   ·rw[h3,h4];simp
 obtain⟨o,hr,ho⟩:=hrun
 simp only[Oper.wp,hr,Oper.upon]
 exact h _ _ s (t.setMap hf o ho)
end
end Go.Sx
end
section
set_option linter.unusedSectionVars false
namespace Go.Sx
open Go.RowKit Go.ChangeMaps
def It (b m len:Nat) (seen:List Nat):aW where
 p w F:=F b∧w.heap[b]? = some (.mapIter (some m) len seen.toArray len)
 mono:=fun⟨h1,h2⟩ h=>by
  obtain⟨h3,h4⟩:=h b h1 (Array.getElem?_eq_some_iff.1 h2).1
  exact⟨h3,by rw[h4];exact h2⟩
section
variable {κ ν:Type} [DecidableEq κ] {ek:κ->Value} {ev:ν->Value} {R:Type}
theorem IQ (ek:κ->Value) (ev:ν->Value):∀(k:Nat) (l:List (κ×ν)) (e:MapEntry),e∈AS ek ev k l->∃i kv,l[i]? = some kv∧e=⟨ek kv.1,ev kv.2,k+i⟩
 |_,[],e,h=>by simp[AS]at h
 | k, x :: xs, e, h => by
  rcases List.mem_cons.1 h with rfl|h
  ·exact⟨0,x,rfl,rfl⟩
  ·obtain⟨i,kv,h1,h2⟩:=IQ ek ev (k+1) xs e h
   exact⟨i+1,kv,h1,by rw[h2,show k+1+i=k+(i+1) by omega]⟩
theorem IN (ek:κ->Value) (ev:ν->Value):∀(k:Nat) (l:List (κ×ν)) (i:Nat) (kv:κ×ν),l[i]? = some kv->(⟨ek kv.1,ev kv.2,k+i⟩:MapEntry)∈AS ek ev k l
 |_,[],i,kv,h=>by simp at h
 |k,x::xs,0,kv,h=>by simp at h;subst h;exact List.mem_cons_self
 |k,x::xs,i+1,kv,h=>by
  have:=IN ek ev (k+1) xs i kv (by simpa using h)
  rw[show k+1+i=k+(i+1) by omega]at this
  exact List.mem_cons_of_mem _ this
theorem Kn (ek:κ->Value) (ev:ν->Value):∀(k:Nat) (l:List (κ×ν)),(AS ek ev k l).map (·.born)=List.range' k l.length
 |_,[]=>rfl
 |k,x::xs=>by simp[AS,Kn ek ev (k+1) xs,List.range'_succ]
def GU (step:κ×ν->Option R->Option R) (K:Option R) (l:List (κ×ν)):Option R:=l.foldr step K
def rem (l:List (κ×ν)) (seen:List Nat):List (κ×ν):=((List.range l.length).filter (fun i=> !seen.contains i)).filterMap (fun i=>l[i]?)
theorem HM:∀l:List (κ×ν),(List.range l.length).filterMap (fun i=>l[i]?)=l
 | []=>rfl
 |x::xs=>by
  rw[List.length_cons,List.range_succ_eq_map,List.filterMap_cons]
  simp only[List.getElem?_cons_zero,List.filterMap_map]
  congr 1
  have:=HM xs
  simpa [Function.comp_def]using this
theorem UF (l:List (κ×ν)):rem l []=l:=by
 unfold rem
 rw[List.filter_eq_self.2 (by simp),HM]
theorem RQ {l:List (κ×ν)} {seen:List Nat} {i:Nat} {kv:κ×ν} (hi:l[i]? = some kv) (hs:i∉seen):∃l1 l2,rem l seen=l1++kv::l2∧rem l (seen++[i])=l1++l2:=by
 have hlt:=aX hi
 have hmem:i∈(List.range l.length).filter (fun i=> !seen.contains i):=by simp[hlt,hs]
 obtain⟨A,B,hAB⟩:=List.append_of_mem hmem
 have hnd:((List.range l.length).filter (fun i=> !seen.contains i)).Nodup:=List.Pairwise.filter _ List.nodup_range
 rw[hAB]at hnd
 have hA:i∉A:=fun h=>by
  have:=(List.nodup_append.1 hnd).2.2 i h i List.mem_cons_self
  exact this rfl
 have hB:i∉B:=fun h=>by
  have:=(List.nodup_cons.1 (List.nodup_append.1 hnd).2.1).1
  exact this h
 refine⟨A.filterMap (fun i=>l[i]?),B.filterMap (fun i=>l[i]?),?_,?_⟩
 ·unfold rem
  rw[hAB,List.filterMap_append,List.filterMap_cons,hi]
 ·unfold rem
  have e:(List.range l.length).filter (fun j=> !(seen++[i]).contains j)=((List.range l.length).filter (fun j=> !seen.contains j)).filter (fun j=>decide (j≠i)):=by
   rw[List.filter_filter]
   apply List.filter_congr
   intro j _
   rw[Bool.eq_iff_iff]
   simp[and_comm]
  rw[e,hAB,List.filter_append,List.filter_cons]
  have fA:A.filter (fun j=>decide (j≠i))=A:=List.filter_eq_self.2 (fun j hj=>by simp;rintro rfl;exact hA hj)
  have fB:B.filter (fun j=>decide (j≠i))=B:=List.filter_eq_self.2 (fun j hj=>by simp;rintro rfl;exact hB hj)
  rw[fA,fB,List.filterMap_append.symm]
  simp
theorem HK {step:κ×ν->Option R->Option R} (hc:∀a b x,step a (step b x)=step b (step a x)) (K:Option R) (kv:κ×ν) (l2:List (κ×ν)):∀l1:List (κ×ν),GU step K (l1++kv::l2)=step kv (GU step K (l1++l2))
 | []=>rfl
 |x::xs=>by
  have:=HK hc K kv l2 xs
  unfold GU at this ⊢
  rw[List.cons_append,List.cons_append,List.foldr_cons,List.foldr_cons,this,hc]
end
section
variable {P:Program} {rd:Option Nat} {c:s_} {n:Sz} {σ σ':Fr} {M L M' L':List aW} {Q:Exit->Act->World->Prop} {ops:Array Oper} {rest:List Oper}
variable {d:Option Tmp} {ty:TypeId} {pos:String} {aft:Array Edge} {g:Option (Nat×Bool)}
variable {κ ν:Type} [DecidableEq κ] {ek:κ->Value} {ev:ν->Value} {R:Type}
theorem aM.range [cD P] (j:Nat) {T kt vt:TypeId} {s1 s2:Nat} {z:Value} {x:Operand} {m:Nat} {l:List (κ×ν)} (hx:Go.Sx.ev σ x=some (.map (some m))) (hf:M[j]? = some (Mp ek ev m l)) (hT:cD.tab P T=some ⟨.map kt vt,s1,s2,z⟩):
  aM P c n σ M L ⟨d,.range T x,ty,pos,aft,g⟩ (fun b:Nat=> .pointer (some ⟨b,0,none⟩)) (fun b=>It b m l.length []::M) (fun _=>L):=fun a w s t=>by
 obtain⟨F,hF⟩:=t.res hf
 have hrun:(execOp a.eval ⟨d,.range T x,ty,pos,aft,g⟩).run P w = .ok (.value (.pointer (some ⟨w.heap.size,0,none⟩))) (w.alloc (.mapIter (some m) l.length #[] l.length)):=by
  simp[execOp,s.eval hx,run_range_map w T kt vt m _ _ (cD.ok hT).und hF.2]
 simp only[Oper.wp,hrun,Oper.upon]
 exact⟨w.heap.size,rfl,t.push _ ⟨rfl,heap_alloc_new w _⟩⟩
def CX (ek:κ->Value) (ev:ν->Value) (l:List (κ×ν)):Option Nat->Value
 |none=> .tuple #[.bool false]
 |some i=>match l[i]? with
  |some kv=> .tuple #[.bool true,ek kv.1,ev kv.2]
  |none=>undef
def WP (len:Nat) (seen:List Nat):Option Nat->Prop
 |none=>∀i,i<len->i∈seen
 |some i=>i<len∧i∉seen
def Ny (M:List aW) (ji b m len:Nat) (seen:List Nat):Option Nat->List aW
 |none=>M
 |some i=>M.set ji (It b m len (seen++[i]))
theorem St.pureL {w:World} {p:Prop} (hp:p) (t:St c M L w):St c M (Vz p::L) w:=by
 obtain⟨ho,F,hF,hL⟩:=t
 refine⟨ho,F,hF,fun f hf=> ?_⟩
 rcases List.mem_cons.1 hf with rfl|hf
 ·exact hp
 ·exact hL f hf
theorem aM.next (jm ji:Nat) {x:Operand} {b m:Nat} {l:List (κ×ν)} {seen:List Nat} (hx:Go.Sx.ev σ x=some (.pointer (some ⟨b,0,none⟩))) (hf:M[jm]? = some (Mp ek ev m l)) (hi:M[ji]? = some (It b m l.length seen)):
  aM P c n σ M L ⟨d,.next x false,ty,pos,aft,g⟩ (CX ek ev l) (Ny M ji b m l.length seen) (fun o=>Vz (WP l.length seen o)::L):=fun a w s t=>by
 obtain⟨F,hF⟩:=t.res hf
 obtain⟨G,hG⟩:=t.res hi
 have hold:∀e∈(AS ek ev 0 l).toArray.toList,e.born<l.length:=fun e he=>by
  obtain⟨i,kv,h1,h2⟩:=IQ ek ev 0 l e (by simpa using he)
  rw[h2];have:=aX h1;simp;omega
 rcases run_next_at (P:=P) w ty b m l.length l.length seen.toArray (AS ek ev 0 l).toArray l.length hG.2 hF.2 hold (Nat.le_refl _)with⟨h0,hr⟩|⟨e,he,w1,hw1,hr⟩
 ·have hrun:(execOp a.eval ⟨d,.next x false,ty,pos,aft,g⟩).run P w = .ok (.value (.tuple #[.bool false])) w:=by
   simp[execOp,s.eval hx,hr]
  simp only[Oper.wp,hrun,Oper.upon]
  refine⟨none,rfl,t.pureL fun i hi'=> ?_⟩
  obtain⟨kv,hkv⟩:∃kv,l[i]? = some kv:=⟨_,List.getElem?_eq_getElem hi'⟩
  have:=all_seen _ _ h0 _ (by simpa using IN ek ev 0 l i kv hkv)
  simpa using this
 ·have hml:=_root_.Go.mem_left he
  obtain⟨i,kv,h1,h2⟩:=IQ ek ev 0 l e (by simpa using hml.1)
  subst h2
  rw[Nat.zero_add]at hr hml
  have hrun:(execOp a.eval ⟨d,.next x false,ty,pos,aft,g⟩).run P w = .ok (.value (.tuple #[.bool true,ek kv.1,ev kv.2])) (setBlock w1 b (.mapIter (some m) l.length (seen.toArray.push i) l.length)):=by
   simp[execOp,s.eval hx,hr]
  simp only[Oper.wp,hrun,Oper.upon]
  have t1:St c M L w1:=by
   rcases hw1 with rfl|rfl
   ·exact t
   ·exact t.ext ((Below.refl _ _).drew)
  refine⟨some i,by simp[CX,h1],St.pureL ⟨aX h1,by simpa using hml.2⟩ ?_⟩
  refine t1.upd hi rfl rfl rfl (by simp[setBlock]) fun F hF _=>⟨fun k _ hk=> ?_,F,⟨hF.1,?_⟩,fun _ h=> .inl h⟩
  ·simp only[setBlock]
   rw[Array.getElem?_setIfInBounds_ne (fun e=>hk (by subst e;exact hF.1))]
  ·simp only[setBlock]
   rw[Array.getElem?_setIfInBounds_self_of_lt (Array.getElem?_eq_some_iff.1 hF.2).1]
   simp
theorem aM.entry (jm ji:Nat) {x:Operand} {b m i:Nat} {l:List (κ×ν)} {seen:List Nat} {kv:κ×ν} (hkv:l[i]? = some kv) (hx:Go.Sx.ev σ x=some (.pointer (some ⟨b,0,none⟩))) (hf:M[jm]? = some (Mp ek ev m l)) (hi:M[ji]? = some (It b m l.length (seen++[i]))):
  aM P c n σ M L ⟨d,.entry x,ty,pos,aft,g⟩ (fun _:Unit=> .tuple #[ek kv.1,ev kv.2]) (fun _=>M) (fun _=>L):=fun a w s t=>by
 obtain⟨F,hF⟩:=t.res hf
 obtain⟨G,hG⟩:=t.res hi
 have he:=IN ek ev 0 l i kv hkv
 rw[Nat.zero_add]at he
 have hn:((AS ek ev 0 l).toArray.toList.map (·.born)).Nodup:=by
  simp only[Kn];exact List.nodup_range'
 have hr:=run_entry_at (P:=P) w b m l.length seen.toArray (AS ek ev 0 l).toArray l.length ⟨ek kv.1,ev kv.2,i⟩ (by rw[hG.2];simp) hF.2 (by simpa using he) hn
 have hrun:(execOp a.eval ⟨d,.entry x,ty,pos,aft,g⟩).run P w = .ok (.value (.tuple #[ek kv.1,ev kv.2])) w:=by
  simp[execOp,s.eval hx,hr]
 simp only[Oper.wp,hrun,Oper.upon]
 exact⟨(),by first|rfl|trivial,t⟩
theorem SR {G:Act->World->Prop} (σ':Fr) (M' L':List aW) (hs:uJ σ σ') (hM:aK M M') (hL:aA [] L L') (h:J c n σ' M' L' G):J c n σ M L G:=fun a w s t=>h a w (s.weak hs) (t.weakE hM hL)
theorem Lo {kt:TypeId} {d:TypeDesc} (hu:P.underlying kt=some d) (chk:∀b k w,(Instr.checkKey b 10000 kt (ek k)).run P w = .ok () w) (now:∀a b,Instr.sameNow d (ek a) (ek b)=none)
  (eq:∀a b w,(Op.equal kt (ek a) (ek b)).run P w = .ok (decide (a=b)) w) (same:∀k,Instr.sameBits 10000 (ek k) (ek k)=true):Fi P kt ek:=by
 refine⟨chk,fun {ν'} ev' k l w=> ?_,same⟩
 have ask:∀(l:List (κ×ν')) (i:Nat),(Instr.findAsking kt (ek k) (AS ek ev' i l) i).run P w = .ok (OE ev' k i l) w:=by
  intro l
  induction l with
  |nil=>intro i;simp[AS,OE,Instr.findAsking]
  |cons x xs ih=>
   intro i
   simp only[AS,OE,Instr.findAsking]
   simp[eq]
   by_cases h:k=x.1
   ·simp[h]
   ·simp[h,ih]
 unfold Instr.findKey
 cases l with
 |nil=>simp[AS,OE,Instr.findNow,run_underlying hu w]
 |cons x xs=>
  have h1:Instr.findNow d (ek k) (AS ek ev' 0 (x::xs)) 0=none:=by simp[AS,Instr.findNow,now]
  simp[run_underlying hu w,h1,ask]
def PI {R:Type} (c:s_) (n:Sz) (σ:Fr) (M L:List aW) (x:Option R) (r:R) (a:Act) (w:World):Prop:=x=some r∧BE n σ a∧St c M L w
theorem Ln {R:Type} {x:Option R} {r:R} (h:x=some r) (hs:uJ σ' σ) (hM:aK M' M) (hL:aA [] L' L):J c n σ' M' L' (PI c n σ M L x r):=fun _ _ s t=>⟨h,s.weak hs,t.weakE hM hL⟩
theorem Oa (step:κ×ν->Option R->Option R) {K:Option R} {r:R} (jm ji:Nat) {b m:Nat} {l:List (κ×ν)} (hc:∀a b x,step a (step b x)=step b (step a x)) (h:GU step K l=some r)
  (hf:M[jm]? = some (Mp ek ev m l)) (hi:M[ji]? = some (It b m l.length [])) (hne:Nat.beq ji jm=false) {t0 t1 t2:Tmp} (hx:lk σ t0=some (.pointer (some ⟨b,0,none⟩))) (hd1:Nat.blt t1 n.sz=true) (hd2:Nat.blt t2 n.sz=true)
  {id ex:Nat} {y1 y2:TypeId} {q1 q2:String} {f1 f2:Array Edge} {body:Code}
  (round:∀(kv:κ×ν) (i:Nat) (seen:List Nat) (x:Option R),l[i]? = some kv->step kv x=some r->
   J c n ((t2,.bool true)::(t1,.tuple #[.bool true,ek kv.1,ev kv.2])::σ) (M.set ji (It b m l.length (seen++[i]))) L (body.wpr rd P (Exit.then (PI c n σ (M.set ji (It b m l.length (seen++[i]))) L x r) Q)))
  (fin:∀seen,K=some r->J c n ((t2,.bool false)::(t1,.tuple #[.bool false])::σ) (M.set ji (It b m l.length seen)) L (Q (.exit ex))):
  J c n σ M L ((Code.loop (Code.seq (Code.region id [⟨some t1,.next (.tmp t0) false,y1,q1,f1,none⟩,⟨some t2,.extract (.tmp t1) 0,y2,q2,f2,none⟩].toArray false) (Code.seq (Code.cond (.tmp t2) .skip (.exit ex)) body))).wpr rd P Q):=by
 have hjlt:=aX hi
 have hjm:jm≠ji:=fun e=>by subst e;simp at hne
 have hset:M.set ji (It b m l.length [])=M:=by
  apply List.ext_getElem?
  intro q
  by_cases eq:q=ji
  ·subst eq;rw[List.getElem?_set_self hjlt,hi]
  ·rw[List.getElem?_set_ne (Ne.symm eq)]
 refine Pz (X:=List Nat) (fun seen=>seen.Nodup∧(∀i∈seen,i<l.length)∧GU step K (rem l seen)=some r) (fun _=>σ) (fun seen=>M.set ji (It b m l.length seen)) (fun _=>L) (fun seen=>l.length - seen.length) [] ⟨List.nodup_nil,by simp,by rw[UF];exact h⟩ (uJ.refl _) (by rw[hset];exact aK.refl _) (fun _ h=>h) ?_
 rintro seen ⟨hnd,hlt,hrun⟩
 have hf':(M.set ji (It b m l.length seen))[jm]? = some (Mp ek ev m l):=by rw[List.getElem?_set_ne (Ne.symm hjm)];exact hf
 have hi':(M.set ji (It b m l.length seen))[ji]? = some (It b m l.length seen):=List.getElem?_set_self hjlt
 refine aL (aO (aG (aM.next jm ji (x:= .tmp t0) hx hf' hi') hd1 fun o=> ?_))
 refine Vw List.mem_cons_self fun ho=> ?_
 refine Vx (M':=Ny (M.set ji (It b m l.length seen)) ji b m l.length seen o) (L':=L) ?_ (uJ.refl _) (aK.refl _) (fun f hf=>List.mem_cons_of_mem _ hf)
 cases o with
 | none =>
  refine aB (bF (vs:=[.bool false]) (by simp[CX,lk,Go.Sx.ev]) rfl) hd2 (dY (xR (aL (wE (by simp[lk,Go.Sx.ev]) (nO (cX (cX ?_)))))))
  refine fin seen ?_
  have:rem l seen=[]:=by
   unfold rem
   rw[List.filter_eq_nil_iff.2 (fun i hi=>by simpa using ho i (by simpa using hi))]
   rfl
  rw[this]at hrun
  exact hrun
 | some i =>
  obtain⟨h1,h2⟩:=ho
  obtain⟨kv,hkv⟩:∃kv,l[i]? = some kv:=⟨_,List.getElem?_eq_getElem h1⟩
  have hval:CX ek ev l (some i) = .tuple #[.bool true,ek kv.1,ev kv.2]:=by simp[CX,hkv]
  obtain⟨l1,l2,e1,e2⟩:=RQ hkv h2
  have hstep:step kv (GU step K (rem l (seen++[i])))=some r:=by
   rw[e2,<-HK hc K kv l2 l1,<-e1];exact hrun
  have hMs:Ny (M.set ji (It b m l.length seen)) ji b m l.length seen (some i)=M.set ji (It b m l.length (seen++[i])):=by simp[Ny]
  rw[hval,hMs]
  refine aB (bF (vs:=[.bool true,ek kv.1,ev kv.2]) (by simp[lk,Go.Sx.ev]) rfl) hd2 (dY (xR (aL (If (by simp[lk,Go.Sx.ev]) (cU (xR ?_))))))
  refine PC (round kv i seen _ hkv hstep) fun a w hw=>Dp (fun e a' w' q=> ?_) hw
  cases e with
  | normal =>
   obtain⟨hx',hs',ht'⟩:=q
   refine⟨seen++[i],⟨?_,?_,hx'⟩,?_,hs',ht'⟩
   ·rw[List.nodup_append];exact⟨hnd,by simp,fun a ha b hb=>by simp at hb;subst hb;rintro rfl;exact h2 ha⟩
   ·intro j hj
    rcases List.mem_append.1 hj with hj|hj
    ·exact hlt j hj
    ·simp at hj;subst hj;exact h1
   ·have:seen.length<l.length:=by
     have hsub:(seen++[i]).length<=(List.range l.length).length:=by
      apply List.Nodup.length_le_of_subset
      ·rw[List.nodup_append];exact⟨hnd,by simp,fun a ha b hb=>by simp at hb;subst hb;rintro rfl;exact h2 ha⟩
      ·intro j hj
       rcases List.mem_append.1 hj with hj|hj
       ·simpa using hlt j hj
       ·simp at hj;subst hj;simpa using h1
     simp at hsub;omega
    simp;omega
  |exit id=>exact q
  |goto l=>exact q
  |ret=>exact q
  |panic ch=>exact q
  |outgrown=>exact q
end
end Go.Sx
end
section
namespace Go.Sx
open Go.RowKit
section
variable {P:Program} {rd:Option Nat} {c:s_} {n:Sz} {σ σ':Fr} {M L M' L':List aW} {Q:Exit->Act->World->Prop} {ops:Array Oper} {rest:List Oper} {K:Act->World->Prop} {G:Act->World->Prop}
variable {d:Option Tmp} {D:Nat} {ty:TypeId} {pos:String} {aft:Array Edge} {g:Option (Nat×Bool)}
variable {α β:Type} {e:dJ α} {r:d_ α}


def Cb (P:Program) (f:FuncId) (args:Array Value) (Min L:List aW) {A:Type} (ret:A->Value) (MO:A->List aW->List aW):Prop:=
 ∀c:s_,St c Min L c.w0->Calls P f args c.w0 fun e w'=>∃x:A,e = .returned (ret x)∧St c (MO x []) [] w'
theorem Cb.of {A:Type} {ret:A->Value} {MO:A->List aW->List aW} {f:FuncId} {fn:Func} {code:Code} {vs:List Value} {m:Nat} {Min:List aW}
  (hf:P.funcs[f]? = some fn) (hb:fn.body=some code) (hn:fn.ntmps=m) (hm:Nat.ble vs.length m=true)
  (h:∀c:s_,J c ⟨m,[]⟩ (uX 0 vs) Min L (code.wpr none P (fW P fn (Jz c ret MO (fun _ l=>l))))):Cb P f vs.toArray Min L ret MO:=fun c t=>by
 have hle:vs.length<=m:=by simpa using hm
 refine qU hf hb (h c _ _ ⟨rfl,by simp[hn,hle],?_⟩ t)
 intro t v hv
 obtain⟨_,h2⟩:=AO vs 0 t v hv
 rw[Nat.sub_zero]at h2
 have hlt:t<vs.length:=by
  rcases Nat.lt_or_ge t vs.length with h'|h'
  ·exact h'
  ·rw[List.getElem?_eq_none h']at h2;cases h2
 rw[Array.getElem?_append_left (by simpa using hlt)]
 simpa using h2
theorem PS {w w':World} {Min Mr M1:List aW} {F:Nat->Nat->Prop} {U:Nat->Prop} (ho:yK c.O c.w0 w) (hF:UY c w (Min++Mr) F) (hL:∀f∈L,f.p w (BD c F))
  (t:St ⟨w,U,fun k=>∃i,i<Min.length∧F i k⟩ M1 [] w'):St c (M1++Mr) L w':=by
 obtain⟨ho',F',hF',_⟩:=t
 have hsz:=ho'.size
 have hbl:∀k,k<w.heap.size->(∀i,i<Min.length->¬F i k)->w'.heap[k]? = w.heap[k]? := fun k hk hn=>ho'.block k hk (fun⟨i,hi,hF⟩=>hn i hi hF)
 have hmine:∀i k,F' i k->w.heap.size<=k∨∃j,j<Min.length∧F j k:=fun i k hk=>(hF'.rng i k hk).1
 refine⟨⟨ho'.os.trans ho.os,ho'.tape.trans ho.tape,ho'.output.trans ho.output,Nat.le_trans ho.size hsz,fun k hk hO=> ?_⟩,
  fun i k=>(i<M1.length∧F' i k)∨(M1.length<=i∧F (i - M1.length+Min.length) k),⟨?_,?_,?_⟩,fun f hf=> ?_⟩
 ·refine(hbl k (Nat.lt_of_lt_of_le hk ho.size) (fun i _ hFi=> ?_)).trans (ho.block k hk hO)
  rcases(hF.rng i k hFi).1 with h|h
  ·omega
  ·exact hO h
 ·intro i m hm
  by_cases hi:i<M1.length
  ·rw[List.getElem?_append_left hi]at hm
   exact aW.same (hF'.res i m hm) (fun k hk=> .inl ⟨hi,hk⟩) (fun _ _ _=>rfl)
  ·rw[List.getElem?_append_right (by omega)]at hm
   have hm':(Min++Mr)[i - M1.length+Min.length]? = some m:=by
    rw[List.getElem?_append_right (by omega),Nat.add_sub_cancel];exact hm
   exact aW.same (hF.res _ m hm') (fun k hk=> .inr ⟨by omega,hk⟩) (fun k hk hl=>hbl k hl (fun j hj hFj=>by have:=hF.dis _ _ k hFj hk;omega))
 ·rintro i k (⟨_,hk⟩|⟨_,hk⟩)
  ·refine⟨?_,(hF'.rng i k hk).2⟩
   rcases hmine i k hk with h|⟨j,_,h⟩
   ·exact .inl (Nat.le_trans ho.size h)
   ·exact(hF.rng j k h).1
  ·exact⟨(hF.rng _ k hk).1,Nat.lt_of_lt_of_le (hF.rng _ k hk).2 hsz⟩
 ·rintro i j k (⟨hi,h1⟩|⟨hi,h1⟩) (⟨hj,h2⟩|⟨hj,h2⟩)
  ·exact hF'.dis i j k h1 h2
  ·rcases hmine i k h1 with h|⟨q,hq,h⟩
   ·have:=(hF.rng _ k h2).2;omega
   ·have:=hF.dis _ _ k h h2;omega
  ·rcases hmine j k h2 with h|⟨q,hq,h⟩
   ·have:=(hF.rng _ k h1).2;omega
   ·have:=hF.dis _ _ k h h1;omega
  ·have:=hF.dis _ _ k h1 h2;omega
 ·refine f.mono (hL f hf) fun k hk hl=>⟨⟨hk.1,?_⟩,hbl k hl (fun i _=>hk.2 i)⟩
  rintro i (⟨_,h⟩|⟨_,h⟩)
  ·rcases hmine i k h with h'|⟨q,_,h'⟩
   ·omega
   ·exact hk.2 q h'
  ·exact hk.2 _ h
theorem Og {w:World} {Min Mr L0:List aW} {F:Nat->Nat->Prop} (hF:UY c w (Min++Mr) F) (hL:∀f∈L,f.p w (BD c F)) (hl:aA Mr L L0):
  St ⟨w,fun k=>∀i,i<Min.length->¬F i k,fun k=>∃i,i<Min.length∧F i k⟩ Min L0 w:=by
 refine⟨yK.refl _,fun i k=>i<Min.length∧F i k,⟨fun i m hm=> ?_,fun i k hk=>⟨.inr ⟨i,hk⟩,(hF.rng i k hk.2).2⟩,fun i j k h1 h2=>hF.dis i j k h1.2 h2.2⟩,fun f hf=> ?_⟩
 ·have hi:i<Min.length:=by
   rcases Nat.lt_or_ge i Min.length with h'|h'
   ·exact h'
   ·rw[List.getElem?_eq_none h']at hm;cases hm
  exact aW.same (hF.res i m (by rw[List.getElem?_append_left hi];exact hm)) (fun k hk=>⟨hi,hk⟩) (fun _ _ _=>rfl)
 ·refine hl f hf w (BD c F) (fun j k=>F (j+Min.length) k) _ hL (fun j m hj=> ?_) (fun k hk=> ?_) (fun j k hk=> ?_)
  ·exact hF.res _ m (by rw[List.getElem?_append_right (by omega),Nat.add_sub_cancel];exact hj)
  ·exact⟨.inl fun i _=>hk.2 i,fun i hi=>hk.2 i hi.2⟩
  ·exact⟨.inl fun i hi h=>by have:=hF.dis _ _ k h hk;omega,fun i hi=>by have:=hF.dis _ _ k hi.2 hk;omega⟩
theorem zE {A:Type} {ret:A->Value} {MO:A->List aW->List aW} {f:FuncId} {xs:List Operand} {vs:List Value} {ats:Array TypeId} {L0 Min Mr:List aW} (hb:aR P f)
  (hs:Cb P f vs.toArray Min L0 ret MO) (hx:xs.map (ev σ)=vs.map some) (hM:aK M (Min++Mr)) (hL:aA Mr L L0) (hMO:∀x l,MO x l=MO x []++l):
  aM P c n σ M L ⟨d,.call ⟨.value (.func f),xs.toArray,ats⟩,ty,pos,aft,g⟩ ret (fun x=>MO x Mr) (fun _=>L):=fun a w s t=>by
 have hrun:(execOp a.eval ⟨d,.call ⟨.value (.func f),xs.toArray,ats⟩,ty,pos,aft,g⟩).run P w = .ok (.enter f vs.toArray) w:=by
  have e:=Wx s hx
  simp[execOp,resolve,Act.eval,Deferred.ofValue,invoke,hb _ w,e]
 simp only[Oper.wp,hrun,Oper.upon]
 obtain⟨ho,F,hF,hLF⟩:=t.weak (L':=L) hM (fun _ h=>h)
 refine(hs _ (Og hF hLF hL)).mono ?_
 rintro e w' ⟨x,rfl,ht⟩
 refine⟨x,rfl,?_⟩
 rw[hMO]
 exact PS ho hF hLF ht

def SU {A B:Type} (c:s_) (C:A->Prop) (val:A->B->Value) (MI LI:A->B->List aW) (e:Ending) (w:World):Prop:=∃x y,C x∧e = .returned (val x y)∧St c (MI x y) (LI x y) w
theorem FX {fn:Func} {vs:List Value} {m:Nat} (hn:fn.ntmps=m) (hm:Nat.ble vs.length m=true):BE ⟨m,[]⟩ (uX 0 vs) {tmps:=vs.toArray++Array.replicate (fn.ntmps - vs.toArray.size) undef,defers:=[]}:=by
 have hle:vs.length<=m:=by simpa using hm
 refine⟨rfl,by simp[hn,hle],?_⟩
 intro t v hv
 obtain⟨_,h2⟩:=AO vs 0 t v hv
 rw[Nat.sub_zero]at h2
 have hlt:t<vs.length:=by
  rcases Nat.lt_or_ge t vs.length with h'|h'
  ·exact h'
  ·rw[List.getElem?_eq_none h']at h2;cases h2
 rw[Array.getElem?_append_left (by simpa using hlt)]
 simpa using h2
structure tO (P:Program) (c:s_) (n:Sz) (σ:Fr) (M L:List aW) (o:Oper) (f:FuncId) (vs:List Value):Prop where
 run:∀a w,BE n σ a->St c M L w->(execOp a.eval o).run P w = .ok (.enter f vs.toArray) w
theorem tO.fn {f:FuncId} {xs:List Operand} {vs:List Value} {ats:Array TypeId} (hb:aR P f) (hx:xs.map (ev σ)=vs.map some):tO P c n σ M L ⟨d,.call ⟨.value (.func f),xs.toArray,ats⟩,ty,pos,aft,g⟩ f vs:=⟨fun a w s _=>by
 have e:=Wx s hx
 simp[execOp,resolve,Act.eval,Deferred.ofValue,invoke,hb _ w,e]⟩
theorem NZ {f:FuncId} {t:Tmp} {xs:List Operand} {us cs vs:List Value} {ats:Array TypeId} (hb:aR P f) (ht:lk σ t=some (.func (.func f) #[] cs.toArray)) (hx:xs.map (ev σ)=us.map some) (hv:us++cs=vs):tO P c n σ M L ⟨d,.call ⟨.value (.tmp t),xs.toArray,ats⟩,ty,pos,aft,g⟩ f vs:=⟨fun a w s _=>by
 have e:=Wx s hx
 have e2:a.eval (.tmp t) = .func (.func f) #[] cs.toArray:=s.eval (x:= .tmp t) ht
 subst hv
 simp[execOp,resolve,e2,Deferred.ofValue,invoke,hb _ w,e]⟩

def CI (P:Program) (c:s_) (n:Sz) (σ:Fr) (M L:List aW) (fn:Func) (v:Value):Prop:=∀a w,BE n σ a->St c M L w->(results fn a.tmps).run P w = .ok v w
variable {fn:Func}
theorem CI.r0 (hres:fn.results = #[]):CI P c n σ M L fn (.tuple #[]):=fun a w _ _=>by simp[results,hres]
theorem CI.r1 {r1:ResultVar} {v1:Value} (hres:fn.results = #[r1]) (h1:RV P c n σ M L r1 v1):CI P c n σ M L fn v1:=fun a w s t=>by
 have:=h1 a w s t
 simp only[wZ,hres]
 simp[this]
theorem CI.r2 {r1 r2:ResultVar} {v1 v2:Value} (hres:fn.results = #[r1,r2]) (h1:RV P c n σ M L r1 v1) (h2:RV P c n σ M L r2 v2):CI P c n σ M L fn (.tuple #[v1,v2]):=fun a w s t=>by
 have h1:=h1 a w s t
 have h2:=h2 a w s t
 simp only[wZ,hres]
 simp[h1,h2]
theorem uR {A B:Type} {m:Sz} {v:Value} {ex:Exit} {C:A->Prop} {val:A->B->Value} {MI LI:A->B->List aW} (x:A) (y:B) (hC:C x) (hex:ex = .ret∨ex = .normal) (hr:CI P c m σ' M L fn v) (hv:v=val x y) (hM:aK M (MI x y)) (hL:aA [] L (LI x y)) (hds:m.ds=[]:=by rfl):
  J c m σ' M L (fW P fn (SU c C val MI LI) ex):=fun a w s t=>by
 exact body_end hex (s.defers.trans hds) (hr a w s t) ⟨x,y,hC,by rw[hv],t.weakE hM hL⟩
end
end Go.Sx
end
section
namespace Go.Sx
open Go.RowKit
section
variable {P:Program} {rd:Option Nat} {c:s_} {n:Sz} {σ σ':Fr} {M L M' L':List aW} {Q:Exit->Act->World->Prop} {ops:Array Oper} {rest:List Oper} {K:Act->World->Prop} {G:Act->World->Prop}
variable {d:Option Tmp} {D:Nat} {ty:TypeId} {pos:String} {aft:Array Edge} {g:Option (Nat×Bool)}
variable {α β:Type} {e:dJ α} {r:d_ α}
theorem JH (i:Nat) {k:Int} {vs:List Value} {xss:List (List α)} (hf:M[i]? = some (jG e vs xss)) (h:0<=k∧k<xss.length):
  rI M L (Ar e (at' vs k) (at' xss k)::M.set i (jG e (vs.set k.toNat (.slice none 0 0)) (xss.set k.toNat []))) L:=fun c w t=>by
 obtain⟨ho,F,hF,hL⟩:=t
 obtain⟨hlen,G,g1,g2,g3⟩:=hF.res i _ hf
 have hkl:k.toNat<vs.length:=by omega
 have hlt:i<M.length:=(List.getElem?_eq_some_iff.1 hf).1
 have hrow:=g1 k.toNat _ _ (jL h.1 (by omega)) (jL h.1 h.2)
 refine⟨ho,fun j q=>match j with|0=>G k.toNat q|j+1=>(j=i∧∃j',j'≠k.toNat∧G j' q)∨(j≠i∧F j q),⟨?_,?_,?_⟩,fun f hf=> ?_⟩
 ·intro j m hm
  cases j with
  |zero=>simp at hm;subst hm;exact hrow
  | succ j =>
   rw[List.getElem?_cons_succ]at hm
   by_cases ej:j=i
   ·subst ej
    rw[List.getElem?_set_self hlt]at hm
    cases hm
    refine⟨by simp[hlen],fun j' q=>j'≠k.toNat∧G j' q,fun j' v xs hv hx=> ?_,fun j' q hq=> .inl ⟨rfl,j',hq⟩,fun j1 j2 q h1 h2=>g3 _ _ q h1.2 h2.2⟩
    by_cases e2:j'=k.toNat
    ·subst e2
     rw[List.getElem?_set_self hkl]at hv
     rw[List.getElem?_set_self (by omega)]at hx
     cases hv;cases hx
     exact⟨by simp,rfl,.inl ⟨rfl,rfl⟩⟩
    ·rw[List.getElem?_set_ne (Ne.symm e2)]at hv hx
     exact aW.same (f:=Ar e v xs) (g1 j' v xs hv hx) (fun q hq=>⟨e2,hq⟩) (fun _ _ _=>rfl)
   ·rw[List.getElem?_set_ne (Ne.symm ej)]at hm
    exact aW.same (hF.res j m hm) (fun q hq=> .inr ⟨ej,hq⟩) (fun _ _ _=>rfl)
 ·intro j q hq
  cases j with
  |zero=>exact hF.rng i q (g2 _ q hq)
  |succ j=>
   rcases hq with⟨_,j',_,hq⟩|⟨_,hq⟩
   ·exact hF.rng i q (g2 _ q hq)
   ·exact hF.rng j q hq
 ·intro j1 j2 q h1 h2
  cases j1 with
  | zero =>
   cases j2 with
   |zero=>rfl
   |succ j2=>
    rcases h2 with⟨_,j',hne,h2⟩|⟨hne,h2⟩
    ·exact absurd (g3 _ _ q h2 h1) hne
    ·exact absurd (hF.dis _ _ q h2 (g2 _ q h1)) hne
  | succ j1 =>
   cases j2 with
   |zero=>
    rcases h1 with⟨_,j',hne,h1⟩|⟨hne,h1⟩
    ·exact absurd (g3 _ _ q h1 h2) hne
    ·exact absurd (hF.dis _ _ q h1 (g2 _ q h2)) hne
   |succ j2=>
    congr 1
    rcases h1 with⟨e1,j',_,h1⟩|⟨e1,h1⟩<;>rcases h2 with⟨e2,j'',_,h2⟩|⟨e2,h2⟩
    ·rw[e1,e2]
    ·exact absurd (hF.dis _ _ q h2 (g2 _ q h1)) e2
    ·exact absurd (hF.dis _ _ q h1 (g2 _ q h2)) e1
    ·exact hF.dis _ _ q h1 h2
 ·refine aW.same (hL f hf) (fun q hq=>⟨hq.1,fun j hj=> ?_⟩) (fun _ _ _=>rfl)
  cases j with
  |zero=>exact hq.2 i (g2 _ q hj)
  |succ j=>
   rcases hj with⟨_,j',_,hj⟩|⟨_,hj⟩
   ·exact hq.2 i (g2 _ q hj)
   ·exact hq.2 j hj
theorem JE (i j:Nat) {u:Value} {k:Int} {vs:List Value} {xss:List (List α)} {ys:List α} (hij:Nat.beq i j=false) (hf:M[i]? = some (jG e (vs.set k.toNat (.slice none 0 0)) (xss.set k.toNat []))) (hg:M[j]? = some (Ar e u ys)) (h:0<=k∧k<(xss.set k.toNat []).length):
  rI M L ((M.set i (jG e (vs.set k.toNat u) (xss.set k.toNat ys))).eraseIdx j) L:=by
 have:=uT (L:=L) i j hij hf hg h
 rwa[List.set_set,List.set_set]at this

theorem Hn {α:Type} [Inhabited α] (l:List α) {j k:Int} (y:α) (h:j.toNat≠k.toNat):at' (l.set j.toNat y) k=at' l k:=by
 rw[at',at',List.getD_eq_getElem?_getD,List.getD_eq_getElem?_getD,List.getElem?_set_ne h]
theorem vX [cD P] (i:Nat) {r:d_ α} (hfit:e.Fits r) {x y:Operand} {u u0:Value} {k j:Int} {vs:List Value} {xss:List (List α)} {ys ys0:List α} {T E:TypeId} {s1 s2 s3 s4:Nat} {z z':Value} {dE:TypeDesc} (hx:ev σ x=some (at' vs k)) (hy:ev σ y=some u) (hf:M[i]? = some (jG e (vs.set j.toNat u0) (xss.set j.toNat ys0))) (hg:aC M L (Sl r u ys))
  (hT:cD.tab P T=some ⟨.slice E,s1,s2,z⟩) (hE:cD.tab P E=some ⟨dE,s3,s4,z'⟩) (h3:e.sz=s3) (h4:Nat.ble s4 1024=true) (h0:0<=k∧k<xss.length) (hl:((at' xss k).length:Int)+ys.length<=1099511627) (hz:z'.cells.size=s3) (hne:j.toNat≠k.toNat):
  aM P c n σ M L ⟨d,.call ⟨.builtin .append,#[x,y],#[T,T]⟩,ty,pos,aft,g⟩ (fun v':Value=>v') (fun v'=>M.set i (jG e ((vs.set j.toNat u0).set k.toNat v') ((xss.set j.toNat ys0).set k.toNat (at' xss k++ys)))) (fun _=>L):=by
 have ex:at' (xss.set j.toNat ys0) k=at' xss k:=Hn _ _ hne
 have:=oW (P:=P) (c:=c) (n:=n) (σ:=σ) (M:=M) (L:=L) (d:=d) (ty:=ty) (pos:=pos) (aft:=aft) (g:=g) (x:=x) (y:=y) (u:=u) (k:=k) (vs:=vs.set j.toNat u0) (xss:=xss.set j.toNat ys0) (ys:=ys) i hfit (by rw[Hn _ _ hne];exact hx) hy hf hg hT hE h3 h4 (by simpa using h0) (by rw[ex];exact hl) hz
 rwa[ex]at this
theorem zD (q:Nat) {vs:List Value} {xss:List (List α)} {k j:Int} {u u2:Value} (hr:M[q]? = some (jG e ((vs.set k.toNat u).set j.toNat u2) xss)) (hne:k.toNat≠j.toNat) (h:0<=k∧k<xss.length):∀c w,St c M L w->Go.Sx.one u=true:=fun c w t=>by
 obtain⟨S,hl,G',g1,_⟩:=t.res hr
 have hlt:k.toNat<vs.length:=by simp at hl;omega
 obtain⟨_,_,hh⟩:=g1 k.toNat u _ (by rw[List.getElem?_set_ne (Ne.symm hne),List.getElem?_set_self hlt]) (List.getElem?_eq_getElem (by omega))
 rcases hh with⟨hu,_⟩|⟨b,off,cap,T,cur,hu,_⟩<;>(rw[hu];rfl)
theorem MF {A:Type} {val:A->Value} {M' L':A->List aW} {op:Op} (ho:aM P c n σ M L ⟨none,op,ty,pos,aft,none⟩ val M' L') (h:∀x,J c n σ (M' x) (L' x) (wpList P ops Q rest)):
  J c n σ M L (wpList P ops Q (⟨none,op,ty,pos,aft,none⟩::rest)):=fun a w s t=>
 kT rfl (Gq (lO (fun a' w' ⟨x,he,ht⟩=>by subst he;exact h x _ w' s ht) (ho a w s t)))

end
end Go.Sx
end
section
namespace Go.Sx
open Go.RowKit
section
variable {P:Program} {rd:Option Nat} {c:s_} {n:Sz} {σ σ':Fr} {M L M' L':List aW} {Q:Exit->Act->World->Prop} {ops:Array Oper} {rest:List Oper} {K:Act->World->Prop} {G:Act->World->Prop}
variable {d:Option Tmp} {D:Nat} {ty:TypeId} {pos:String} {aft:Array Edge} {g:Option (Nat×Bool)}
variable {α β:Type} {e:dJ α} {r:d_ α}
theorem Ju [cD P] (j:Nat) {T:TypeId} {s2:Nat} {z:Value} {dT:TypeDesc} {x y:Operand} {v u:Value} {i:Int} {xs:List α} (yv:α) (hx:ev σ x=some (Bm v (i.toNat*1))) (hy:ev σ y=some u) (hu:e.enc yv=[u]) (h1u:one u=true)
  (hf:M[j]? = some (Ar e v xs)) (hT:cD.tab P T=some ⟨dT,1,s2,z⟩) (hq:e.sz=1) (h0:0<=i) (h1:i<xs.length):
  aM P c n σ M L ⟨none,.store T x y,ty,pos,aft,none⟩ (fun _:Unit=>undef) (fun _=>M.set j (Ar e v (xs.set i.toNat yv))) (fun _=>L):=fun a w s t=>by
 obtain⟨F,hF⟩:=t.res hf
 have hi:i.toNat<xs.length:=by omega
 have hget:xs[i.toNat]? = some xs[i.toNat]:=List.getElem?_eq_getElem hi
 have hne:xs≠[]:=by intro e;subst e;simp at hi
 obtain⟨p,hp⟩:∃p,e.enc xs[i.toNat]=[p]:=List.length_eq_one_iff.1 ((e.len _).trans hq)
 have hcell:=Av.cell hF hget (j:=0) (u:=p) (by rw[hp];rfl)
 rw[hq,Nat.add_zero,Nat.mul_one]at hcell
 rw[Nat.mul_one]at hx
 have hfree:=Jk hF hne i.toNat
 have hrun:(execOp a.eval ⟨none,.store T x y,ty,pos,aft,none⟩).run P w = .ok .skip (w.setCell (GN v i.toNat) u):=by
  simp only[execOp,s.eval hx,s.eval hy,Bm]
  simp[zX (cD.ok hT) rfl h1u hcell hfree]
 simp only[Oper.wp,hrun,Oper.upon]
 refine⟨(),trivial,t.upd hf rfl rfl rfl (by simp[World.setCell]) fun F hF _=> ?_⟩
 obtain⟨hl,h1,hh⟩:=hF
 rcases hh with⟨_,hh⟩|⟨b,off,cap,T',cur,hv,hFb,hb,hk,hc,ht⟩
 ·exact absurd hh hne
 ·subst hv
  have ha:GN (.slice (some ⟨b,off,none⟩) xs.length cap) i.toNat=⟨b,off+i.toNat,none⟩:=by simp[GN,dR]
  rw[ha]
  refine⟨fun k _ hk'=>Below.heap_setCell _ _ _ _ (fun e=>hk' (by simp only at e;subst e;exact hFb)),F,⟨by simpa using hl,?_,.inr ⟨b,off,cap,T',cur.setIfInBounds (off+i.toNat) u,by simp,hFb,?_,by simpa using hk,by simpa using hc,?_⟩⟩,fun _ h=> .inl h⟩
  ·rw[tW hq hu,List.all_eq_true]
   intro q hq'
   rcases List.mem_or_eq_of_mem_set hq' with h'|h'
   ·exact List.all_eq_true.1 h1 q h'
   ·rw[h'];exact h1u
  ·simp[World.setCell,Array.getElem?_modify,hb]
  ·rw[tW hq hu,<-ht,Array.toList_setIfInBounds,List.length_set,<-take_set]
   congr 1
   rw[List.drop_set,if_neg (by omega),Nat.add_sub_cancel_left]
theorem Jt [cD P] (i:Nat) {T T':TypeId} {s2:Nat} {z:Value} {dT:TypeDesc} {x y:Operand} {b o:Nat} {cs:List Value} {v:Value} (hx:ev σ x=some (.pointer (some ⟨b,o,none⟩)))
  (hy:ev σ y=some v) (hv:one v=true) (hM:M[i]? = some (bO b cs T')) (hT:cD.tab P T=some ⟨dT,1,s2,z⟩) (ho:Nat.blt o cs.length=true):
  aM P c n σ M L ⟨none,.store T x y,ty,pos,aft,none⟩ (fun _:Unit=>undef) (fun _=>M.set i (bO b (cs.set o v) T')) (fun _=>L):=fun a w s t=>by
 obtain⟨F,hF⟩:=t.res hM
 have hlt:o<cs.length:=by simpa [Nat.blt_eq]using ho
 have hrun:(execOp a.eval ⟨none,.store T x y,ty,pos,aft,none⟩).run P w = .ok .skip (w.setCell ⟨b,o,none⟩ v):=by
  simp[execOp,s.eval hx,s.eval hy,zX (cD.ok hT) rfl hv (bO.cell hF (List.getElem?_eq_getElem hlt)) (Jl hF o)]
 simp only[Oper.wp,hrun,Oper.upon]
 exact⟨(),trivial,t.store hM v⟩
theorem rS [cD P] (i:Nat) {T T':TypeId} {s2:Nat} {z:Value} {dT:TypeDesc} {x y:Operand} {b:Nat} {cs vs:List Value} (hx:ev σ x=some (.pointer (some ⟨b,0,none⟩)))
  (hy:ev σ y=some (.agg vs.toArray)) (hv:vs.all one=true) (hM:M[i]? = some (bO b cs T')) (hT:cD.tab P T=some ⟨dT,vs.length,s2,z⟩) (hl:Nat.beq vs.length cs.length=true):
  aM P c n σ M L ⟨none,.store T x y,ty,pos,aft,none⟩ (fun _:Unit=>undef) (fun _=>M.set i (bO b vs T')) (fun _=>L):=fun a w s t=>by
 obtain⟨F,hF⟩:=t.res hM
 have hlen:vs.length=cs.length:=Nat.eq_of_beq_eq_true hl
 have hone:∀v∈vs,v.oneCell'=true:=fun v hvm=>mQ (by simpa using List.all_eq_true.1 hv v hvm)
 obtain⟨iT,hiT,hsz,_,_⟩:=(cD.ok hT).info
 have hst:=run_storeVar_row (P:=P) w b T' T cs.toArray vs.toArray hF.2 (by simp[hiT,hsz]) (by simp[hlen]) (by simpa using hone)
 have hrun:(execOp a.eval ⟨none,.store T x y,ty,pos,aft,none⟩).run P w = .ok .skip (w.setRow b vs.toArray):=by
  simp[execOp,s.eval hx,s.eval hy,Instr.storeAt,Instr.sureAddr,hst]
 simp only[Oper.wp,hrun,Oper.upon]
 exact⟨(),trivial,t.fill hM⟩
theorem yB [cD P] (j q:Nat) {T:TypeId} {s2:Nat} {z:Value} {dT:TypeDesc} {x y:Operand} {v u:Value} {i:Int} {vs vs':List Value} {xss:List (List α)} (h:0<=i∧i<xss.length) (hx:ev σ x=some (Bm v (i.toNat*1))) (hy:ev σ y=some u)
  (hf:M[j]? = some (Ar dJ.raw v vs)) (hr:M[q]? = some (jG e vs' xss)) (hl:vs'.length=vs.length) (h1u:one u=true) (hT:cD.tab P T=some ⟨dT,1,s2,z⟩):
  aM P c n σ M L ⟨none,.store T x y,ty,pos,aft,none⟩ (fun _:Unit=>undef) (fun _=>M.set j (Ar dJ.raw v (vs.set i.toNat u))) (fun _=>L):=fun a w s t=>by
 have hlen:vs'.length=xss.length:=by obtain⟨_,h⟩:=t.res hr;exact h.1
 exact Ju j u hx hy rfl h1u hf hT rfl h.1 (by omega) a w s t
section
variable {l:List Oper} {m:List Nat} {k0:Nat} {H Bs:List (Nat×List aW×List aW)} {rs:List Nat}
theorem rR {A:Type} {val:A->Value} {M' L':A->List aW} {i:Nat} {op:Op}
  (hi:l[i]? = some ⟨none,op,ty,pos,aft,none⟩) (hk:Nat.blt i k0=true) (hl:dM op=true) (ho:aM P c n σ M L ⟨none,op,ty,pos,aft,none⟩ val M' L')
  (hB:∀x,aF (before m i) (M' x) (L' x) Bs) (h:∀x,JR c n σ (M' x) (L' x) ((i,M,L)::H) Bs (RW P l.toArray Q (before m) (cH l) k0 rs)):
  JR c n σ M L H Bs (RW P l.toArray Q (before m) (cH l) k0 (i::rs)):=fun a w X Y s t hX hY=>by
 have hi':l.toArray[i]? = some ⟨none,op,ty,pos,aft,none⟩:=by simpa using hi
 simp only[RW,hi']
 rw[if_pos (by simp[Region.wanted])]
 refine .inr (.inr ⟨by simpa [Nat.blt_eq]using hk,by simp[cH,hi,hl],lO ?_ (ho a w s t)⟩)
 rintro a' w' ⟨x,rfl,ht⟩
 exact⟨(hB x).use ht hY,h x _ w' _ Y s ht ⟨rfl,t,hX⟩ hY⟩
end

theorem Hj {A B:Type} {f:FuncId} {fn:Func} {code:Code} {vs:List Value} {m:Nat} {op:Op} (C:A->Prop) (val:A->B->Value) (MI LI:A->B->List aW) (he:tO P c n σ M L ⟨d,op,ty,pos,aft,g⟩ f vs) (hf:P.funcs[f]? = some fn) (hb:fn.body=some code) (hn:fn.ntmps=m) (hm:Nat.ble vs.length m=true)
  (h1:J c ⟨m,[]⟩ (uX 0 vs) M L (code.wpr none P (fW P fn (SU c C val MI LI)))):
  aM P c n σ M L ⟨d,op,ty,pos,aft,g⟩ (fun x:{p:A×B // C p.1}=>val x.1.1 x.1.2) (fun x=>MI x.1.1 x.1.2) (fun x=>LI x.1.1 x.1.2):=fun a w s t=>by
 have hrun:=he.run a w s t
 simp only[Oper.wp,hrun,Oper.upon]
 refine(qU hf hb (h1 _ w (FX hn hm) t)).mono ?_
 rintro e w' ⟨x,y,hC,rfl,ht⟩
 exact⟨⟨(x,y),hC⟩,rfl,ht⟩
theorem yA {A B:Type} {f:FuncId} {fn:Func} {code:Code} {vs:List Value} {m:Nat} {op:Op} (C:A->Prop) (val:A->B->Value) (MI LI:A->B->List aW) (he:tO P c n σ M L ⟨some D,op,ty,pos,aft,none⟩ f vs) (hf:P.funcs[f]? = some fn) (hb:fn.body=some code) (hn:fn.ntmps=m) (hm:Nat.ble vs.length m=true) (hD:Nat.blt D n.sz=true)
  (h1:J c ⟨m,[]⟩ (uX 0 vs) M L (code.wpr none P (fW P fn (SU c C val MI LI)))) (h2:∀a b,C a->J c n ((D,val a b)::σ) (MI a b) (LI a b) (wpList P ops Q rest)):J c n σ M L (wpList P ops Q (⟨some D,op,ty,pos,aft,none⟩::rest)):=
 aG (Hj C val MI LI he hf hb hn hm h1) hD fun⟨⟨a,b⟩,hC⟩=>h2 a b hC
section
variable {l:List Oper} {mm:List Nat} {k0:Nat} {H Bs:List (Nat×List aW×List aW)} {rs:List Nat}
theorem MH {A B:Type} {i:Nat} {f:FuncId} {fn:Func} {code:Code} {vs:List Value} {m:Nat} {op:Op} (C:A->Prop) (val:A->B->Value) (MI LI:A->B->List aW) (hi:l[i]? = some ⟨some D,op,ty,pos,aft,none⟩) (hk:Nat.blt i k0=true) (hl:dM op=true) (he:tO P c n σ M L ⟨some D,op,ty,pos,aft,none⟩ f vs) (hf:P.funcs[f]? = some fn) (hb:fn.body=some code) (hn:fn.ntmps=m) (hm:Nat.ble vs.length m=true) (hD:Nat.blt D n.sz=true)
  (hB:∀a b,aF (before mm i) (MI a b) (LI a b) Bs) (h1:J c ⟨m,[]⟩ (uX 0 vs) M L (code.wpr none P (fW P fn (SU c C val MI LI)))) (h2:∀a b,C a->JR c n ((D,val a b)::σ) (MI a b) (LI a b) ((i,M,L)::H) Bs (RW P l.toArray Q (before mm) (cH l) k0 rs)):
  JR c n σ M L H Bs (RW P l.toArray Q (before mm) (cH l) k0 (i::rs)):=
 JR.loud hi hk hl (Hj C val MI LI he hf hb hn hm h1) hD (fun _=>hB _ _) fun⟨⟨a,b⟩,hC⟩=>h2 a b hC
end

theorem Bi [cD P] {T E:TypeId} {k s1 s2 s3 s4:Nat} {z z':Value} {dE:TypeDesc} {x y:Operand} {v:Value} {o:Nat} {i:Int} (hx:ev σ x=some (Bm v o)) (hy:ev σ y=some (.int .i64 i))
  (hT:cD.tab P T=some ⟨.array k E,s1,s2,z⟩) (hE:cD.tab P E=some ⟨dE,s3,s4,z'⟩) (_h3:(s3==0)=false) (h:0<=i∧i<(k:Int)):
  Y P c n σ M L ⟨d,.indexAddr T x y,ty,pos,aft,g⟩ (Bm v (o+i.toNat*s3)):=fun a w s t=>by
 simp[execOp,s.eval hx,s.eval hy,Instr.indexAt,asIntOf,(cD.ok hT).run_und w,h,Instr.sureAddr,Bm,(cD.ok hE).run_size w,EK]
theorem bQ {x:Operand} {b o:Nat} (hx:ev σ x=some (.pointer (some ⟨b,o,none⟩))):Y P c n σ M L ⟨d,.nilCheck x,ty,pos,aft,g⟩ (.pointer (some ⟨b,o,none⟩)):=fun a w s t=>by
 simp[execOp,s.eval hx]

theorem Jv [cD P] [Inhabited α] (j:Nat) {T:TypeId} {s2 k o q:Nat} {z:Value} {dT:TypeDesc} {x y:Operand} {v u:Value} {us:List Value} {i:Int} {xs:List α} (yv:α) (h:0<=i∧i<xs.length) (hx:ev σ x=some (Bm v (i.toNat*q+o))) (hy:ev σ y=some u)
  (hf:M[j]? = some (Ar e v xs)) (hq:e.sz=q) (hu:u.cells=us.toArray) (hk:us.length=k) (ho:Nat.ble (o+k) q=true) (hyv:e.enc yv=(e.enc (at' xs i)).take o++us++(e.enc (at' xs i)).drop (o+k)) (h1u:us.all one=true) (hT:cD.tab P T=some ⟨dT,k,s2,z⟩):
  aM P c n σ M L ⟨none,.store T x y,ty,pos,aft,none⟩ (fun _:Unit=>undef) (fun _=>M.set j (Ar e v (xs.set i.toNat yv))) (fun _=>L):=fun a w s t=>by
 subst hq hk
 have hok:o+us.length<=e.sz:=by simpa using ho
 have hi:i.toNat<xs.length:=by omega
 have t0:=t
 obtain⟨hoo,FF,hO,hLL⟩:=t0
 obtain⟨h0,hone,hh⟩:=hO.res j _ hf
 rcases hh with⟨_,rfl⟩|⟨b,off,cap,T',cur,rfl,hFb,hbk,hcp,hc,ht⟩
 ·simp at hi
 -- the parts of the row
 obtain⟨l,x0,tl,hxs,hl⟩:∃l x0 tl,xs=l++x0::tl∧l.length=i.toNat:=⟨xs.take i.toNat,xs[i.toNat],xs.drop (i.toNat+1),by rw[List.getElem_cons_drop,List.take_append_drop],by simp;omega⟩
 have hat:at' xs i=x0:=by
  rw[at',List.getD_eq_getElem?_getD,<-hl,hxs,List.getElem?_append_right (Nat.le_refl _)];simp
 rw[hat]at hyv
 have eE:=e.len x0
 have eA:(cellsOf e l).length=i.toNat*e.sz:=by rw[dH,hl]
 have hcells:cellsOf e xs=cellsOf e l++(e.enc x0++cellsOf e tl):=by rw[hxs];simp[cellsOf]
 have hset:cellsOf e (xs.set i.toNat yv)=cellsOf e l++(e.enc yv++cellsOf e tl):=by
  have:xs.set i.toNat yv=l++yv::tl:=by rw[hxs,<-hl,List.set_append_right _ _ (Nat.le_refl _)];simp
  rw[this];simp[cellsOf]
 have hmul:xs.length*e.sz<=cap*e.sz:=Nat.mul_le_mul_right _ hcp
 obtain⟨Hd,R,hcur,hH⟩:∃Hd R,cur.toList=Hd++(cellsOf e l++(e.enc x0++(cellsOf e tl++R)))∧Hd.length=off:=by
  refine⟨cur.toList.take off,(cur.toList.drop off).drop (xs.length*e.sz),?_,by simp;omega⟩
  have e1:cellsOf e l++(e.enc x0++(cellsOf e tl++(cur.toList.drop off).drop (xs.length*e.sz)))=cur.toList.drop off:=by
   have:cellsOf e l++(e.enc x0++(cellsOf e tl++(cur.toList.drop off).drop (xs.length*e.sz)))=cellsOf e xs++(cur.toList.drop off).drop (xs.length*e.sz):=by rw[hcells];simp
   rw[this,<-ht,List.take_append_drop]
  rw[e1,List.take_append_drop]
 have hsize:cur.size=cur.toList.length:=by simp
 have hp1:cur.toList.take (off+(i.toNat*e.sz+o))=Hd++(cellsOf e l++(e.enc x0).take o):=by
  have:cur.toList=(Hd++(cellsOf e l++(e.enc x0).take o))++((e.enc x0).drop o++(cellsOf e tl++R)):=by
   rw[hcur,List.append_assoc,List.append_assoc,<-List.append_assoc ((e.enc x0).take o),List.take_append_drop]
  rw[this]
  exact List.take_left' (by simp[hH,eA,eE];omega)
 have hp2:cur.toList.drop (off+(i.toNat*e.sz+o)+us.length)=(e.enc x0).drop (o+us.length)++(cellsOf e tl++R):=by
  have:cur.toList=(Hd++(cellsOf e l++(e.enc x0).take (o+us.length)))++((e.enc x0).drop (o+us.length)++(cellsOf e tl++R)):=by
   rw[hcur,List.append_assoc,List.append_assoc,<-List.append_assoc ((e.enc x0).take (o+us.length)),List.take_append_drop]
  rw[this]
  exact List.drop_left' (by simp[hH,eA,eE];omega)
 have hbound:(i.toNat+1)*e.sz<=xs.length*e.sz:=Nat.mul_le_mul_right _ (by omega)
 have hb2:(i.toNat+1)*e.sz=i.toNat*e.sz+e.sz:=by rw[Nat.add_mul,Nat.one_mul]
 have hfit:off+(i.toNat*e.sz+o)+0+us.length<=cur.size:=by omega
 have hst:=run_storeCells_at P b (off+(i.toNat*e.sz+o)) T' us 0 cur w hbk hfit (fun u hu=>mQ (List.all_eq_true.1 h1u u hu))
 simp only[Nat.add_zero]at hst
 have hsz:(cD.ok hT).run_size w=(cD.ok hT).run_size w:=rfl
 have hrun:(execOp a.eval ⟨none,.store T x y,ty,pos,aft,none⟩).run P w = .ok .skip (w.setRow b (cur.toList.take (off+(i.toNat*e.sz+o))++us++cur.toList.drop (off+(i.toNat*e.sz+o)+us.length)).toArray):=by
  simp[execOp,s.eval hx,s.eval hy,Bm,GN,Instr.storeAt,Instr.sureAddr,storeVar,hu,(cD.ok hT).run_size w,dR,hst]
 simp only[Oper.wp,hrun,Oper.upon]
 refine⟨(),trivial,?_⟩
 refine EH hoo hO hLL hf rfl rfl rfl (by simp) (fun k _ hk'=>setRow_other w b k _ (fun e=>hk' (by subst e;exact hFb))) (F':=FF j) ?_ (fun k hk=> .inl hk)
 have hlen2:(e.enc yv).length=e.sz:=e.len yv
 refine⟨by simpa using h0,?_,.inr ⟨b,off,cap,T',_,by simp,hFb,setRow_heap w b _ _ T' _ hbk,by simpa using hcp,?_,?_⟩⟩
 ·rw[hset]
  rw[hcells]at hone
  simp only[List.all_append,Bool.and_eq_true]at hone ⊢
  refine⟨hone.1,?_,hone.2.2⟩
  rw[hyv]
  simp only[List.all_append,Bool.and_eq_true]
  refine⟨⟨List.all_eq_true.2 fun u hu=>List.all_eq_true.1 hone.2.1 u (List.mem_of_mem_take hu),h1u⟩,List.all_eq_true.2 fun u hu=>List.all_eq_true.1 hone.2.1 u (List.mem_of_mem_drop hu)⟩
 ·simp only[List.size_toArray,List.length_append,List.length_take,List.length_drop]
  omega
 ·show((cur.toList.take _++us++cur.toList.drop _).drop off).take ((xs.set i.toNat yv).length*e.sz)=_
  rw[hp1,hp2,hset,hyv,List.length_set]
  have e3:(Hd++(cellsOf e l++(e.enc x0).take o)++us++((e.enc x0).drop (o+us.length)++(cellsOf e tl++R)))=Hd++((cellsOf e l++(((e.enc x0).take o++us++(e.enc x0).drop (o+us.length))++cellsOf e tl))++R):=by simp
  rw[e3,<-hH,List.drop_left]
  refine List.take_left' ?_
  have hT2:(cellsOf e tl).length=tl.length*e.sz:=dH e tl
  have hxl:xs.length=i.toNat+1+tl.length:=by rw[hxs,<-hl];simp;omega
  rw[hyv]at hlen2
  rw[List.length_append,List.length_append,hlen2,eA,hT2,hxl,Nat.add_mul,Nat.add_mul,Nat.one_mul]
  omega
end
end Go.Sx
end
section
namespace Go.Sx
open Go.RowKit
def XG (D:Nat):aW where
 p w F:=F D∧w.heap[D]? = some (.deferred (some []))
 mono:=fun⟨h1,h2⟩ h=>by
  obtain⟨h3,h4⟩:=h D h1 (Array.getElem?_eq_some_iff.1 h2).1
  exact⟨h3,by rw[h4];exact h2⟩
structure PN where
 n:Nat
 σ:Fr
 ps:Array Tmp
 assign:Code
 body:Code
 D:Nat
def Lp (l:Nat) (R:PN) (st:LoopState) (pend:Option Code):aW where
 p w F:=F l∧∃(fn:FuncId) (tmps:Array Value),tmps.size=R.n∧(∀t v,lk R.σ t=some v->tmps[t]? = some v)∧
  w.heap[l]? = some (.loop {state:=st,pending:=pend,fn:=fn,tmps:=tmps,params:=R.ps,assign:=R.assign,body:=R.body,defers:=R.D})
 mono:=fun⟨h1,fn,tmps,h2,h3,h4⟩ h=>by
  obtain⟨h5,h6⟩:=h l h1 (Array.getElem?_eq_some_iff.1 h4).1
  exact⟨h5,fn,tmps,h2,h3,by rw[h6];exact h4⟩
def Rn (D:Nat):Deferred:={target:= .collected D,args:= #[]}
def kG (l:Nat):Value:= .func (.yield l) #[] #[]
section
variable {P:Program} {rd:Option Nat} {c:s_} {n m:Sz} {σ σ':Fr} {M L:List aW} {Q:Exit->Act->World->Prop} {K G:Act->World->Prop}
theorem St.putLp {w:World} {l i:Nat} {R:PN} {st st':LoopState} {pend pend':Option Code} (t:St c M L w) (hi:M[i]? = some (Lp l R st pend)) {r:Loop} (hr:w.heap[l]? = some (.loop r)):
  St c (M.set i (Lp l R st' pend')) L (w.putObj l (.loop {r with state:=st',pending:=pend'})):=by
 refine t.upd hi rfl rfl rfl (by simp) fun F hF _=>⟨fun k _ hk=> ?_,F,?_,fun _ h=> .inl h⟩
 ·exact World.putObj_heap_other (fun e=>hk (by subst e;exact hF.1))
 ·obtain⟨h1,fn,tmps,h2,h3,h4⟩:=hF
  rw[h4]at hr
  cases hr
  exact⟨h1,fn,tmps,h2,h3,World.putObj_heap_same (Array.getElem?_eq_some_iff.1 h4).1⟩
def PO (P:Program) (n:Sz) (σ:Fr) (l D:Nat) (Q:Exit->Act->World->Prop) (e:Ending) (w:World):Prop:=
 ∀a,BE ⟨n.sz,Rn D::n.ds⟩ σ a->rangePost (FR none) 0 P l Q a e w
theorem Jp {g:Operand} {ps:Array Tmp} {assign body:Code} {f:FuncId} {fn:Func} {code:Code} {cs:List Value} {k:Nat} (hb:aR P f) (hx:ev σ g=some (.func (.func f) #[] cs.toArray)) (hf:P.funcs[f]? = some fn) (hbd:fn.body=some code) (hn:fn.ntmps=k) (hm:Nat.ble (cs.length+1) k=true)
  (h:∀l D,J c ⟨k,[]⟩ (uX 0 (kG l::cs)) (Lp l ⟨n.sz,σ,ps,assign,body,D⟩ .ready none::XG D::M) L (code.wpr none P (fW P fn (PO P n σ l D Q)))):
  J c n σ M L ((Code.rangeFunc g ps assign body).wpr none P Q):=fun a w s t=>by
 refine wpIn_rangeFunc fun fn' _=> ?_
 have hev:a.eval g = .func (.func f) #[] cs.toArray:=s.eval hx
 let W:World:=(w.alloc (.deferred (some []))).alloc (.loop {state:= .ready,pending:=none,fn:=fn',tmps:=a.tmps,params:=ps,assign:=assign,body:=body,defers:=w.heap.size})
 refine⟨_,_,_,{target:= .fn (.func f) cs.toArray,args:= #[kG (w.heap.size+1)]},W,f,(kG (w.heap.size+1)::cs).toArray,W,run_enterLoop_outer fn' a.tmps ps assign body,?_,fun _ _=>trivial,?_,(fun hc=>by cases hc),?_⟩
 ·have hc:∀v,a.eval (.const v)=v:=fun _=>rfl
  simp[resolve,hev,hc,Deferred.ofValue,kG,W]
 ·simp[invoke,hb _ _,kG]
 ·have t1:St c (XG w.heap.size::M) L (w.alloc (.deferred (some []))):=t.push _ ⟨rfl,heap_alloc_new w _⟩
  have t2:St c (Lp (w.heap.size+1) ⟨n.sz,σ,ps,assign,body,w.heap.size⟩ .ready none::XG w.heap.size::M) L ((w.alloc (.deferred (some []))).alloc (.loop {state:= .ready,pending:=none,fn:=fn',tmps:=a.tmps,params:=ps,assign:=assign,body:=body,defers:=w.heap.size})):=by
   have:=t1.push (.loop {state:= .ready,pending:=none,fn:=fn',tmps:=a.tmps,params:=ps,assign:=assign,body:=body,defers:=w.heap.size}) (m:=Lp (w.heap.size+1) ⟨n.sz,σ,ps,assign,body,w.heap.size⟩ .ready none)
    ⟨by simp,fn',a.tmps,s.size,s.slot,by rw[<-World.size_alloc w (.deferred (some []))];exact heap_alloc_new _ _⟩
   exact this
  refine Na ((qU hf hbd (h (w.heap.size+1) w.heap.size _ _ (FX hn (by simpa using hm)) t2)).mono ?_)
  intro e w' he
  exact he _ ⟨by simp[Rn,s.defers],s.size,s.slot⟩
theorem Ff {fn:Func} {ex:Exit} {v:Value} {l D i:Nat} {R:PN} (hex:ex = .ret∨ex = .normal) (hi:M[i]? = some (Lp l R .ready none)) (hr:CI P c m σ' M L fn v) (h:J c ⟨n.sz,Rn D::n.ds⟩ σ (M.set i (Lp l R .exhausted none)) L (Q .normal)) (hds:m.ds=[]:=by rfl):
  J c m σ' M L (fW P fn (PO P n σ l D Q) ex):=fun a w s t=>by
 refine body_end hex (s.defers.trans hds) (hr a w s t) fun a' s'=> ?_
 obtain⟨F,h1,fn',tmps,h2,h3,h4⟩:=t.res hi
 exact⟨none,_,run_endLoop h4 (by simp),h a' _ s' (t.putLp hi h4)⟩
theorem MG {fn:Func} {ex:Exit} {v:Value} {l D i:Nat} {R:PN} (hex:ex = .ret∨ex = .normal) (hi:M[i]? = some (Lp l R .done (some .ret))) (hr:CI P c m σ' M L fn v) (h:J c ⟨n.sz,Rn D::n.ds⟩ σ (M.set i (Lp l R .exhausted (some .ret))) L (Q .ret)) (hds:m.ds=[]:=by rfl):
  J c m σ' M L (fW P fn (PO P n σ l D Q) ex):=fun a w s t=>by
 refine body_end hex (s.defers.trans hds) (hr a w s t) fun a' s'=> ?_
 obtain⟨F,h1,fn',tmps,h2,h3,h4⟩:=t.res hi
 exact⟨some .ret,_,run_endLoop h4 (by simp),wpIn_ret (h a' _ s' (t.putLp hi h4))⟩
def Pp (P:Program) (l:Nat) (G:Act->World->Prop) (a:Act) (w:World):Prop:=∃w',(Instr.beginRound l).run P w = .ok () w'∧G a w'
theorem CE {l i:Nat} {R:PN} {pend:Option Code} (hi:M[i]? = some (Lp l R .ready pend)) (h:J c n σ (M.set i (Lp l R .busy pend)) L G):J c n σ M L (Pp P l G):=fun a w s t=>by
 obtain⟨F,h1,fn',tmps,h2,h3,h4⟩:=t.res hi
 exact⟨_,run_beginRound h4 rfl,h a _ s (t.putLp hi h4)⟩
def PP (n:Sz) (σ:Fr) (d:Nat) (K:Act->World->Prop) (e:Ending) (w:World):Prop:=∃v,e = .returned v∧∀a,BE n ((d,v)::σ) a->K a w
theorem vN {l i d:Nat} {R:PN} {pend:Option Code} (hi:M[i]? = some (Lp l R .busy pend)) (h:J c m ((d,.bool true)::σ') (M.set i (Lp l R .ready none)) L K):J c n σ M L (roundPost P l (PP m σ' d K) .normal):=fun a w s t=>by
 obtain⟨F,h1,fn',tmps,h2,h3,h4⟩:=t.res hi
 exact⟨_,_,run_endRound none h4,_,rfl,fun a' s'=>h a' _ s' (t.putLp hi h4)⟩
theorem Jq {l i d:Nat} {R:PN} {pend:Option Code} (hi:M[i]? = some (Lp l R .busy pend)) (h:J c m ((d,.bool false)::σ') (M.set i (Lp l R .done (some .ret))) L K):J c n σ M L (roundPost P l (PP m σ' d K) .ret):=fun a w s t=>by
 obtain⟨F,h1,fn',tmps,h2,h3,h4⟩:=t.res hi
 exact⟨_,_,run_endRound (some .ret) h4,_,rfl,fun a' s'=>h a' _ s' (t.putLp hi h4)⟩
def Cp:List Tmp->List Value->Fr->Fr
 |t::ts,v::vs,σ=>Cp ts vs ((t,v)::σ)
 |_,_,σ=>σ
theorem FW:∀(ps:List Tmp) (vs:List Value) (tmps:Array Value) (σ:Fr) (k:Nat),tmps.size=k->ps.all (fun t=>Nat.blt t k)=true->(∀t v,lk σ t=some v->tmps[t]? = some v)->
  ((ps.zip vs).foldl (fun tmps (x:Tmp×Value)=>tmps.setIfInBounds x.1 x.2) tmps).size=k∧∀t v,lk (Cp ps vs σ) t=some v->((ps.zip vs).foldl (fun tmps (x:Tmp×Value)=>tmps.setIfInBounds x.1 x.2) tmps)[t]? = some v
 | [],_,tmps,σ,k,h1,_,h3=>by simpa [Cp]using ⟨h1,h3⟩
 |_::_,[],tmps,σ,k,h1,_,h3=>by simpa [Cp]using ⟨h1,h3⟩
 | p :: ps, x :: vs, tmps, σ, k, h1, h2, h3 => by
  simp only[List.all_cons,Bool.and_eq_true]at h2
  have hp:p<k:=by simpa [Nat.blt_eq]using h2.1
  simp only[List.zip_cons_cons,List.foldl_cons,Cp]
  refine FW ps vs _ _ k (by simp[h1]) h2.2 fun t v hv=> ?_
  simp only[lk]at hv
  by_cases e:t=p
  ·subst e
   simp at hv
   subst hv
   simp[h1,hp]
  ·rw[lC e]at hv
   simp only[cond_false]at hv
   rw[Array.getElem?_setIfInBounds_ne (Ne.symm e)]
   exact h3 t v hv
theorem SS {ops:Array Oper} {rest:List Oper} {t:Tmp} {xs:List Operand} {us:List Value} {ats:Array TypeId} {d:Nat} {ty:TypeId} {pos:String} {aft:Array Edge} {l i:Nat} {R:PN} {ps:List Tmp} (ht:lk σ t=some (kG l)) (hx:xs.map (ev σ)=us.map some) (hi:M[i]? = some (Lp l R .ready none)) (hps:R.ps=ps.toArray) (hlen:us.length=ps.length) (hall:ps.all (fun t=>Nat.blt t R.n)=true) (hd:Nat.blt d n.sz=true)
  (h:J c ⟨R.n,[]⟩ (Cp ps us R.σ) M L (R.assign.wpr (some l) P (Exit.then (Pp P l (R.body.wpr (some l) P (roundPost P l (PP n σ d (wpList P ops Q rest))))) (fun _ _ _=>False)))):
  J c n σ M L (wpList P ops Q (⟨some d,.call ⟨.value (.tmp t),xs.toArray,ats⟩,ty,pos,aft,none⟩::rest)):=fun a w s tt=>by
 obtain⟨F,h1,fn',tmps,h2,h3,h4⟩:=tt.res hi
 have e:=Wx s hx
 have e2:a.eval (.tmp t)=kG l:=s.eval (x:= .tmp t) ht
 have hy:=run_yield (P:=P) (args:=us.toArray) h4 (by simp[hps,hlen])
 have hrun:(execOp a.eval ⟨some d,.call ⟨.value (.tmp t),xs.toArray,ats⟩,ty,pos,aft,none⟩).run P w=(Instr.yield l us.toArray).run P w:=by
  simp[execOp,resolve,e2,kG,Deferred.ofValue,invoke,e]
 unfold wpList
 rw[if_pos (show Region.wanted _ _=true from rfl)]
 refine .inr ⟨_,_,_,_,_,_,hrun.trans hy,?_⟩
 refine RoundIn.mono (R:=PP n σ d (wpList P ops Q rest)) (roundIn_of_wpIn (F:=FR none) trivial ?_) ?_
 ·obtain⟨f1,f2⟩:=FW ps us tmps R.σ R.n h2 hall h3
  have:=h {tmps:=(ps.zip us).foldl (fun tmps (x:Tmp×Value)=>tmps.setIfInBounds x.1 x.2) tmps,defers:=[]} w ⟨rfl,f1,f2⟩ tt
  simp only[hps,List.zip_toArray,List.foldl_toArray]
  exact this
 ·rintro e w'' ⟨v,rfl,hv⟩
  exact⟨v,rfl,hv _ (s.put d v hd)⟩
theorem Ig {g:Operand} {ps:Array Tmp} {assign body:Code} {f:FuncId} {fn:Func} {code:Code} {cs:List Value} {k:Nat} (hb:aR P f) (hx:ev σ g=some (.func (.func f) #[] cs.toArray)) (hf:P.funcs[f]? = some fn) (hbd:fn.body=some code) (hn:fn.ntmps=k) (hm:Nat.ble (cs.length+1) k=true)
  (h:∀(l D:Nat) (R:PN),R.n=n.sz∧R.σ=σ∧R.ps=ps∧R.assign=assign∧R.body=body->J c ⟨k,[]⟩ (uX 0 (kG l::cs)) (Lp l R .ready none::XG D::M) L (code.wpr none P (fW P fn (PO P n σ l D Q)))):
  J c n σ M L ((Code.rangeFunc g ps assign body).wpr none P Q):=Jp hb hx hf hbd hn hm fun l D=>h l D _ ⟨rfl,rfl,rfl,rfl,rfl⟩
theorem Ax {ops:Array Oper} {rest:List Oper} {t:Tmp} {xs:List Operand} {us:List Value} {ats:Array TypeId} {d:Nat} {ty:TypeId} {pos:String} {aft:Array Edge} {l i k:Nat} {R:PN} {ps:List Tmp} {σR:Fr} {assign body:Code} (hR:R.n=k∧R.σ=σR∧R.ps=ps.toArray∧R.assign=assign∧R.body=body) (ht:lk σ t=some (kG l)) (hx:xs.map (ev σ)=us.map some) (hi:M[i]? = some (Lp l R .ready none)) (hlen:us.length=ps.length) (hall:ps.all (fun t=>Nat.blt t k)=true) (hd:Nat.blt d n.sz=true)
  (h:J c ⟨k,[]⟩ (Cp ps us σR) M L (assign.wpr (some l) P (Exit.then (Pp P l (body.wpr (some l) P (roundPost P l (PP n σ d (wpList P ops Q rest))))) (fun _ _ _=>False)))):
  J c n σ M L (wpList P ops Q (⟨some d,.call ⟨.value (.tmp t),xs.toArray,ats⟩,ty,pos,aft,none⟩::rest)):=by
 obtain⟨rfl,rfl,h3,rfl,rfl⟩:=hR
 exact SS ht hx hi h3 hlen hall hd h
end
end Go.Sx
end
section
namespace Go.Sx
open Go.RowKit
def uO (Ds:List Nat):List Deferred:=Ds.map Rn
def xL (Ds:List Nat):aW where
 p w F:=Ds.Nodup∧∀D∈Ds,F D∧w.heap[D]? = some (.deferred (some []))
 mono:=fun⟨h1,h2⟩ h=>⟨h1,fun D hD=>by
  obtain⟨h3,h4⟩:=h D (h2 D hD).1 (Array.getElem?_eq_some_iff.1 (h2 D hD).2).1
  exact⟨h3,by rw[h4];exact(h2 D hD).2⟩⟩
section
variable {P:Program} {rd:Option Nat} {c:s_} {n m:Sz} {σ σ':Fr} {M L:List aW} {Q:Exit->Act->World->Prop} {K G:Act->World->Prop}
theorem AC:rI M L (xL []::M) L:=rI.add fun _=>⟨List.nodup_nil,by simp⟩
theorem JG (i j:Nat) {D:Nat} {Ds:List Nat} (hij:i≠j) (hf:M[i]? = some (xL Ds)) (hg:M[j]? = some (XG D)):rI M L ((M.set i (xL (D::Ds))).eraseIdx j) L:=fun c w t=>
 t.merge i j hij hf hg (by
  rintro w F1 F2 ⟨h1,h2⟩ ⟨h3,h4⟩ hd
  refine⟨List.nodup_cons.2 ⟨fun hm=>hd D (h2 D hm).1 h3,h1⟩,fun E hE=> ?_⟩
  rcases List.mem_cons.1 hE with rfl|hE
  ·exact⟨.inr h3,h4⟩
  ·exact⟨.inl (h2 E hE).1,(h2 E hE).2⟩)
theorem tP {g:Operand} {ps:Array Tmp} {assign body:Code} {f:FuncId} {fn:Func} {code:Code} {cs:List Value} {k i s:Nat} (Ds:List Nat) (hi:M[i]? = some (xL Ds)) (hb:aR P f) (hx:ev σ g=some (.func (.func f) #[] cs.toArray)) (hf:P.funcs[f]? = some fn) (hbd:fn.body=some code) (hn:fn.ntmps=k) (hm:Nat.ble (cs.length+1) k=true)
  (h:∀(l D:Nat) (R:PN),R.n=s∧R.σ=σ∧R.ps=ps∧R.assign=assign∧R.body=body->J c ⟨k,[]⟩ (uX 0 (kG l::cs)) (Lp l R .ready none::M.set i (xL (D::Ds))) L (code.wpr none P (fW P fn (PO P ⟨s,uO Ds⟩ σ l D Q)))):
  J c ⟨s,uO Ds⟩ σ M L ((Code.rangeFunc g ps assign body).wpr none P Q):=Ig hb hx hf hbd hn hm fun l D R hR=>
 jJ (JG (i+2) 1 (by omega) hi rfl) (h l D R hR)
theorem gE {fn:Func} {R:Ending->World->Prop} {ex:Exit} {i k:Nat} (hex:ex = .ret∨ex = .normal):∀{Ds:List Nat} {M:List aW},M[i]? = some (xL Ds)->J c ⟨k,[]⟩ σ (M.set i (xL [])) L (fW P fn R ex)->J c ⟨k,uO Ds⟩ σ M L (fW P fn R ex)
 | [], M, hi, h => by
  have:M.set i (xL [])=M:=by
   apply List.ext_getElem?
   intro j
   by_cases e:i=j
   ·subst e
    rw[hi]
    simp[(List.getElem?_eq_some_iff.1 hi).1]
   ·simp[List.getElem?_set_ne e]
  rw[this]at h
  exact h
 | D :: Ds, M, hi, h => fun a w s t => by
  obtain⟨F,h1,h2⟩:=t.res hi
  have t':St c (M.set i (xL Ds)) L (w.putObj D (.deferred none)):=by
   refine t.upd hi rfl rfl rfl (by simp) fun F hF _=>⟨fun k _ hk=> ?_,F,?_,fun _ h=> .inl h⟩
   ·exact World.putObj_heap_other (fun e=>hk (e▸(hF.2 D (by simp)).1))
   ·obtain⟨hn,hF⟩:=hF
    refine⟨(List.nodup_cons.1 hn).2,fun E hE=>⟨(hF E (by simp[hE])).1,?_⟩⟩
    rw[World.putObj_heap_other (fun e=>(List.nodup_cons.1 hn).1 (by subst e;exact hE))]
    exact(hF E (by simp[hE])).2
  refine Oo hex s.defers (h2 D (by simp)).2 ?_
  have hi':(M.set i (xL Ds))[i]? = some (xL Ds):=by simp[(List.getElem?_eq_some_iff.1 hi).1]
  have:=gE hex hi' (by rw[List.set_set];exact h) {tmps:=a.tmps,defers:=uO Ds} _ ⟨rfl,s.size,s.slot⟩ t'
  rcases hex with rfl|rfl<;>exact this
def XK {A B:Type} (c:s_) (nI:A->B->Sz) (C:A->Prop) (σI:A->B->Fr) (MI LI:A->B->List aW) (a:Act) (w:World):Prop:=∃x y,C x∧BE (nI x y) (σI x y) a∧St c (MI x y) (LI x y) w
theorem vW {A B:Type} {x:Code} (nI:A->B->Sz) (C:A->Prop) (σI:A->B->Fr) (MI LI:A->B->List aW) (h1:J c n σ M L (x.wpr rd P (Exit.then (XK c nI C σI MI LI) Q))) (h2:∀a b,C a->J c (nI a b) (σI a b) (MI a b) (LI a b) K):
  J c n σ M L (x.wpr rd P (Exit.then K Q)):=fun a w s t=>Dp (fun e a' w' q=>by
 cases e with
 |normal=>obtain⟨z,y,hC,hs,ht⟩:=q;exact h2 z y hC a' w' hs ht
 |exit id=>exact q
 |goto l=>exact q
 |ret=>exact q
 |panic ch=>exact q
 |outgrown=>exact q) (h1 a w s t)
theorem lS {A B:Type} {nI:A->B->Sz} {C:A->Prop} {σI:A->B->Fr} {MI LI:A->B->List aW} (x:A) (y:B) (hn:n=nI x y) (hC:C x) (hs:uJ σ (σI x y)) (hM:aK M (MI x y)) (hL:aA [] L (LI x y)):J c n σ M L (XK c nI C σI MI LI):=
 fun _ _ s t=>⟨x,y,hC,hn▸s.weak hs,t.weakE hM hL⟩
def XJ {A B R:Type} (c:s_) (nI:A->B->Sz) (step:A->(A->Option R)->Option R) (r:R) (σI:A->B->Fr) (MI LI:A->B->List aW) (k:Nat) (a:Act) (w:World):Prop:=
 ∃x y,bG step k x=some r∧BE (nI x y) (σI x y) a∧St c (MI x y) (LI x y) w
theorem ME {A B R:Type} {body:Code} (nI:A->B->Sz) (step:A->(A->Option R)->Option R) {r:R} {fuel:Nat} (σI:A->B->Fr) (MI LI:A->B->List aW) (a0:A) (b0:B) (hn0:n=nI a0 b0) (h:bG step fuel a0=some r)
  (hs:uJ σ (σI a0 b0)) (hM:aK M (MI a0 b0)) (hL:aA [] L (LI a0 b0))
  (round:∀k a b,step a (bG step k)=some r->J c (nI a b) (σI a b) (MI a b) (LI a b) (body.wpr rd P (Exit.then (XJ c nI step r σI MI LI k) Q))):J c n σ M L ((Code.loop body).wpr rd P Q):=by
 subst hn0
 intro a w s t b k cs hro hb hr
 have key:∀m x y a w,bG step m x=some r->BE (nI x y) (σI x y) a->St c (MI x y) (LI x y) w->
   ∃e a' w',Q e a' w'∧ArrivesIn (Machine.fenced P (FR rd)) P (lone (b.atR a (.code body :: .inLoop body::k)) cs w) b k cs e a' w':=by
  intro m
  induction m with
  |zero=>intro x y a w hC;cases hC
  | succ m ih =>
   intro x y a w hC hs ht
   obtain⟨e,a₁,w₁,hq,harr⟩:=round m x y hC a w hs ht b (.inLoop body::k) cs hro hb hr
   cases e with
   |normal=>
    obtain⟨x',y',hCy,hsy,hty⟩:=hq
    obtain⟨e₂,a₂,w₂,hq₂,harr₂⟩:=ih x' y' a₁ w₁ hCy hsy hty
    exact⟨e₂,a₂,w₂,hq₂,.of_steps (StepsIn.trans harr (.one (fenced_calm hb hr rfl) stepR_inLoop)) harr₂⟩
   |exit id=>exact⟨_,a₁,w₁,hq,.pass (x:= .inLoop body) rfl (fun _ _=> .inl (by simp)) harr⟩
   |goto l=>exact⟨_,a₁,w₁,hq,.pass (x:= .inLoop body) rfl (fun _ _=> .inl (by simp)) harr⟩
   |ret=>exact⟨_,a₁,w₁,hq,.pass (x:= .inLoop body) rfl (fun _ _=> .inl (by simp)) harr⟩
   |panic ch=>exact⟨_,a₁,w₁,hq,.pass (x:= .inLoop body) rfl (fun _ _=> .inl (by simp)) harr⟩
   |outgrown=>exact⟨_,a₁,w₁,hq,.pass (x:= .inLoop body) rfl (fun _ _=> .inl (by simp)) harr⟩
 obtain⟨e,a',w',hq,harr⟩:=key fuel a0 b0 a w h (s.weak hs) (t.weakE hM hL)
 exact⟨e,a',w',hq,.of_steps (.one (fenced_calm hb hr rfl) stepR_loop) harr⟩
theorem Jn {A B R:Type} {nI:A->B->Sz} {step:A->(A->Option R)->Option R} {r:R} {k:Nat} {σI:A->B->Fr} {MI LI:A->B->List aW} (x:A) (y:B) (hn:n=nI x y) (h:bG step k x=some r) (hs:uJ σ (σI x y)) (hM:aK M (MI x y)) (hL:aA [] L (LI x y)):
  J c n σ M L (XJ c nI step r σI MI LI k):=fun _ _ s t=>⟨x,y,h,hn▸s.weak hs,t.weakE hM hL⟩
end
end Go.Sx
end
section
namespace Go.Sx
open Go.RowKit
def Gb (b:Nat) (cs:List Value):aW where
 p w S:=S b∧∃T,w.heap[b]? = some (.cells cs.toArray T (0,0))
 mono:=fun⟨h1,T,h2⟩ h=>by
  obtain⟨h3,h4⟩:=h b h1 (Array.getElem?_eq_some_iff.1 h2).1
  exact⟨h3,T,by rw[h4];exact h2⟩
section
variable {P:Program} {c:s_} {n:Sz} {σ:Fr} {M L:List aW} {d:Option Tmp} {ty:TypeId} {pos:String} {aft:Array Edge} {g:Option (Nat×Bool)} {α:Type} {e:dJ α}
theorem JL [cD P] {T E:TypeId} {ki:IntKind} {k s1 s2 s3 s4:Nat} {z z':Value} {dE:TypeDesc} {x y:Operand} {b:Nat} {i:Int} (hx:ev σ x=some (.pointer (some ⟨b,0,none⟩))) (hy:ev σ y=some (.int ki i))
  (hT:cD.tab P T=some ⟨.array k E,s1,s2,z⟩) (hE:cD.tab P E=some ⟨dE,s3,s4,z'⟩) (h3:(s3==0)=false) (h:0<=i∧i<(k:Int)):
  Y P c n σ M L ⟨d,.indexAddr T x y,ty,pos,aft,g⟩ (.pointer (some ⟨b,i.toNat*s3,none⟩)):=fun a w s t=>by
 have hne:s3≠0:=by simpa using h3
 simp[execOp,s.eval hx,s.eval hy,Instr.indexAt,asIntOf,(cD.ok hT).run_und w,h,Instr.sureAddr,(cD.ok hE).run_size w,hne,dR]
theorem Oi [cD P] [Inhabited α] {T:TypeId} {s2:Nat} {z:Value} {dT:TypeDesc} {x:Operand} {b k:Nat} {i:Int} {xs:List α} {u:Value} (hx:ev σ x=some (.pointer (some ⟨b,i.toNat*1,none⟩)))
  (hM:aC M L (Gb b (cellsOf e xs))) (hT:cD.tab P T=some ⟨dT,1,s2,z⟩) (hd:uU dT=false) (hq:e.sz=1) (hu:(e.enc (at' xs i))=[u]) (h:(0<=i∧i<(k:Int))∧xs.length=k):
  Y P c n σ M L ⟨d,.load T x,ty,pos,aft,g⟩ u:=fun a w s t=>by
 obtain⟨F,hF1,T',hF2⟩:=hM.st t
 have hF:(bO b (cellsOf e xs) T').p w F:=⟨hF1,hF2⟩
 have hg:=tC e xs i.toNat (at' xs i) (jL h.1.1 (by omega)) 0 u (by rw[hu];rfl)
 rw[hq,Nat.add_zero]at hg
 rw[Nat.mul_one]at hx hg
 simp[execOp,s.eval hx,vC (cD.ok hT) hd (bO.cell hF hg)]
end
end Go.Sx
end
section
namespace Go.Sx
section
variable {P:Program} {M L:List aW} {α β γ:Type} {r:d_ α} {s:d_ γ} {q:d_ β}
def d_.Deep (r:d_ α) (q:d_ β) (f:α->Value×List β):Prop:=∀{w S es x},r.R w S es x->Ik q w S (f x).1 (f x).2
theorem AB (q:d_ β):(d_.sl q).Deep q (fun x=>x):=fun h=>h.2
theorem Oe {f:α->Value×List β} (h:r.Deep q f):(r.pair s).Deep q (fun x=>f x.1):=by
 rintro w S es x ⟨c1,c2,rfl,h1,_⟩
 exact h h1
theorem Bh {f:α->Value×List β} (h:r.Deep q f):(s.pair r).Deep q (fun x=>f x.2):=by
 rintro w S es x ⟨c1,c2,rfl,_,h1⟩
 exact h h1
theorem tB [Inhabited α] {v:Value} {xs:List α} {i:Int} {f:α->Value×List β} (h:aC M L (Sl r v xs)) (hd:r.Deep q f) (h0:0<=i) (h1:i<xs.length):aC M L (Sl q (f (at' xs i)).1 (f (at' xs i)).2):=h.mono fun {w U} hs=>by
 obtain⟨es,hr,_⟩:=sl_cell hs (jL h0 h1)
 exact hd hr
def FG (s:ByteArray):List Int:=s.data.toList.map fun b=>(b.toNat:Int)
theorem zI [cD P] {c:s_} {n:Sz} {σ:Fr} {d:Option Tmp} {ty:TypeId} {pos:String} {aft:Array Edge} {g:Option (Nat×Bool)} {T:TypeId} {s1 s2:Nat} {z:Value} {x y:Operand} {s:ByteArray} {xs:List Int} {k:IntKind} {i:Int} (hx:ev σ x=some (.string s)) (hy:ev σ y=some (.int k i)) (hT:cD.tab P T=some ⟨.string,s1,s2,z⟩) (hb:FG s=xs) (h:0<=i∧i<xs.length):
  Y P c n σ M L ⟨d,.index T x y,ty,pos,aft,g⟩ (.int .u8 (at' xs i)):=fun a w st t=>by
 subst hb
 obtain⟨h0,h1⟩:=h
 obtain⟨j,rfl⟩:∃j:Nat,i=(j:Int):=⟨i.toNat,by omega⟩
 have hl:j<s.data.toList.length:=by unfold FG at h1;simp at h1 ⊢;omega
 have hj:j<s.size:=by have:=Lib.size_eq s;simp at hl;omega
 have hg:s[j]? = some (s.data.toList[j]):=by
  rw[getElem?_pos s j hj];rfl
 have ha:at' (FG s) (j:Int)=((s.data.toList[j]).toNat:Int):=by
  unfold at' FG
  simp[List.getD_eq_getElem?_getD,List.getElem?_eq_getElem hl]
 rw[ha]
 simp[execOp,st.eval hx,st.eval hy,Instr.index,asIntOf,(cD.ok hT).run_und w,hg]
theorem LA [cD P] {c:s_} {n:Sz} {σ:Fr} {d:Option Tmp} {ty:TypeId} {pos:String} {aft:Array Edge} {g:Option (Nat×Bool)} {T E:TypeId} {s1 s2 s3 s4 m b:Nat} {z z':Value} {dE:TypeDesc} {x hi:Operand} {k:Int} (hx:ev σ x=some (.pointer (some ⟨b,0,none⟩))) (hhi:ev σ hi=some (.int .i64 k))
  (hT:cD.tab P T=some ⟨.array m E,s1,s2,z⟩) (hE:cD.tab P E=some ⟨dE,s3,s4,z'⟩) {q:Int} (h:0<=k∧k<=((m:Nat):Int)∧k<=q):Y P c n σ M L ⟨d,.slice T x none (some hi) none,ty,pos,aft,g⟩ (.slice (some ⟨b,0,none⟩) k.toNat m):=fun a w s t=>by
 have h1:0<=k∧k<=(m:Int):=⟨h.1,h.2.1⟩
 simp[execOp,s.eval hx,s.eval hhi,Instr.sliceAt,Instr.slice,(cD.ok hT).run_und w,Instr.sliceBounds,Instr.sliceBound,asIntOf,(cD.ok hE).run_size w,h1,asAddr,Addr.add,Instr.sureAddr]
theorem PG {e:dJ α} {i b T m:Nat} {k:Int} {xs:List α} (hM:M[i]? = some (bO b (cellsOf e xs) T)) (hfit:e.Fits r) (h:0<=k∧k<=((m:Nat):Int)∧k<=(xs.length:Int)) (hmax:m<=9223372036854775807):aC M L (Sl r (.slice (some ⟨b,0,none⟩) k.toNat m) (xs.take k.toNat)):=fun w S T U hL hM' hS hT=>by
 have hB:=hM' i _ hM
 have hl:(xs.take k.toNat).length=k.toNat:=by simp;omega
 refine⟨some ⟨b,0,none⟩,m,by rw[hl],by rw[hl];omega,.inr ⟨b,0,rfl,hT _ _ hB.1,fun j x hx=> ?_⟩⟩
 have hx':xs[j]? = some x:=by
  rw[List.getElem?_take]at hx
  split at hx
  ·exact hx
  ·cases hx
 obtain⟨hsz,he,hr,_⟩:=hfit
 refine⟨e.enc x,fun q u hu=> ?_,hr⟩
 have hc:=tC e xs _ _ hx' _ _ hu
 rw[hsz,Nat.zero_add]
 exact bO.cell hB hc
def d_.All (r:d_ α) (n:Nat) (g:α->List Value):Prop:=r.sz=n∧∀{w S es x},r.R w S es x->es=g x
theorem Lv {e:dJ α} (h:e.Fits r):r.All e.sz e.enc:=⟨h.1,h.2.1⟩
theorem Lw (q:d_ β):(d_.sl q).All 1 (fun x=>[x.1]):=⟨rfl,fun h=>h.1⟩
theorem Ij {n m:Nat} {f:α->List Value} {g:γ->List Value} (h:r.All n f) (k:s.All m g):(r.pair s).All (n+m) (fun x=>f x.1++g x.2):=⟨by show r.sz+s.sz=_;rw[h.1,k.1],by
 rintro w S es x ⟨c1,c2,rfl,h1,h2⟩
 rw[h.2 h1,k.2 h2]⟩
theorem Lz [cD P] [Inhabited α] {c:s_} {n:Sz} {σ:Fr} {d:Option Tmp} {ty:TypeId} {pos:String} {aft:Array Edge} {g:Option (Nat×Bool)} {T:TypeId} {s2 q m:Nat} {z:Value} {dT:TypeDesc} {x:Operand} {v:Value} {i:Int} {xs:List α} {cs:List Value} {f:α->List Value} (hx:ev σ x=some (Bm v (i.toNat*q))) (hf:aC M L (Sl r v xs)) (hD:r.All m f) (hcs:f (at' xs i)=cs)
  (hT:cD.tab P T=some ⟨dT,cs.length,s2,z⟩) (hd:uU dT=true) (hq:m=q) (h:0<=i∧i<xs.length):Y P c n σ M L ⟨d,.load T x,ty,pos,aft,g⟩ (.agg cs.toArray):=fun a w s t=>by
 obtain⟨h0,h1⟩:=h
 obtain⟨S,h⟩:=hf.st t
 obtain⟨es,hr,hes⟩:=sl_cell h (jL h0 h1)
 have:=hD.2 hr
 subst this hcs
 rw[hD.1,hq]at hes
 have:=xZ (w:=w) (A:=GN v (i.toNat*q)) (cs:=f (at' xs i)) (cD.ok hT) hd rfl (fun j u hu=>by rw[EK];exact hes j u hu)
 simp[execOp,s.eval hx,Bm,this]
end
end Go.Sx
end
section
namespace Go.Sx
open Go.RowKit
section
variable {P:Program} {c:s_} {n:Sz} {σ:Fr} {M L:List aW} {d:Option Tmp} {ty:TypeId} {pos:String} {aft:Array Edge} {g:Option (Nat×Bool)}
theorem SY {t:TypeId} {x:Operand} {k:IntKind} {p m:Int} (hx:ev σ x=some (.int k p)) (hm:(if k.signed then -1 else k.max)=m):Y P c n σ M L ⟨d,.unOp .xor t x,ty,pos,aft,g⟩ (.int k (Tj k m p)):=fun a w s _=>by
 subst hm
 simp[execOp,s.eval hx,Op.unary,Op.intBits,Tj]
def XN (v:Value) (m:Nat):Prop:=∃a cap,v = .slice a m cap∧(m=0∨∃b off,a=some ⟨b,off,none⟩)
theorem Know.len {α:Type} {r:d_ α} {v:Value} {xs:List α} (hf:aC M L (Sl r v xs)):∀c w,St c M L w->XN v xs.length:=fun c w t=>by
 obtain⟨S,a',cap,hv,_,h⟩:=hf.st t
 exact⟨a',cap,hv,h.imp (fun h=>by simp[h]) fun⟨b,off,e,_⟩=>⟨b,off,e⟩⟩
theorem yN [cD P] {T E:TypeId} {s1 s2 s3 s4 m:Nat} {z z':Value} {dE:TypeDesc} {x y:Operand} {v:Value} {i:Int} (hx:ev σ x=some v) (hy:ev σ y=some (.int .i64 i)) (hv:XN v m)
  (hT:cD.tab P T=some ⟨.slice E,s1,s2,z⟩) (hE:cD.tab P E=some ⟨dE,s3,s4,z'⟩) (h:0<=i∧i<(m:Int)):Y P c n σ M L ⟨d,.indexAddr T x y,ty,pos,aft,g⟩ (Bm v (i.toNat*s3)):=fun a w st t=>by
 obtain⟨a',cap,rfl,hv⟩:=hv
 obtain⟨h0,h1⟩:=h
 rcases hv with rfl|⟨b,off,rfl⟩
 ·omega
 ·simp[execOp,st.eval hx,st.eval hy,DZ w (cD.ok hT) rfl (cD.ok hE) b off _ cap i h0 h1]
theorem Fl [cD P] (i:Nat) {T T':TypeId} {s2 m o b:Nat} {z:Value} {dT:TypeDesc} {x y:Operand} {cs cs' us:List Value} {u:Value} (hx:ev σ x=some (.pointer (some ⟨b,o,none⟩))) (hy:ev σ y=some u) (hu:u.cells=us.toArray) (hm:us.length=m)
  (h1:us.all one=true) (hM:M[i]? = some (bO b cs T')) (hT:cD.tab P T=some ⟨dT,m,s2,z⟩) (ho:Nat.ble (o+m) cs.length=true) (hcs:cs.take o++us++cs.drop (o+m)=cs'):
  aM P c n σ M L ⟨none,.store T x y,ty,pos,aft,none⟩ (fun _:Unit=>undef) (fun _=>M.set i (bO b cs' T')) (fun _=>L):=fun a w s t=>by
 subst hm hcs
 obtain⟨F,hF⟩:=t.res hM
 have ho':o+us.length<=cs.length:=by simpa using ho
 have hst:=run_storeCells_at P b o T' us 0 cs.toArray w hF.2 (by simp;omega) (fun u hu=>mQ (List.all_eq_true.1 h1 u hu))
 simp only[Nat.add_zero]at hst
 have hrun:(execOp a.eval ⟨none,.store T x y,ty,pos,aft,none⟩).run P w = .ok .skip (w.setRow b (cs.take o++us++cs.drop (o+us.length)).toArray):=by
  simp[execOp,s.eval hx,s.eval hy,Instr.storeAt,Instr.sureAddr,storeVar,hu,(cD.ok hT).run_size w,hst]
 simp only[Oper.wp,hrun,Oper.upon]
 exact⟨(),trivial,t.fill hM⟩
theorem Cq {α:Type} [Inhabited α] (l:List α) (k:Int) (h:k.toNat<l.length) (h0:0<=k):l.set k.toNat (at' l k)=l:=by
 have:=jL (xs:=l) h0 (by omega)
 refine List.ext_getElem? fun i=> ?_
 by_cases e:k.toNat=i
 ·subst e
  rw[List.getElem?_set_self h,this]
 ·rw[List.getElem?_set_ne e]
theorem Az [cD P] {α:Type} [Inhabited α] {e:dJ α} (j:Nat) {T:TypeId} {s2 m o q:Nat} {z:Value} {dT:TypeDesc} {x y:Operand} {u:Value} {us:List Value} {i k:Int} {vs:List Value} {xss:List (List α)} (yv:α) (hk:0<=k∧k<xss.length) (h:0<=i∧i<(at' xss k).length) (hx:ev σ x=some (Bm (at' vs k) (i.toNat*q+o))) (hy:ev σ y=some u)
  (hf:M[j]? = some (jG e vs xss)) (hq:e.sz=q) (hu:u.cells=us.toArray) (hm:us.length=m) (ho:Nat.ble (o+m) q=true) (hyv:e.enc yv=(e.enc (at' (at' xss k) i)).take o++us++(e.enc (at' (at' xss k) i)).drop (o+m)) (h1u:us.all one=true) (hT:cD.tab P T=some ⟨dT,m,s2,z⟩):
  aM P c n σ M L ⟨none,.store T x y,ty,pos,aft,none⟩ (fun _:Unit=>undef) (fun _=>M.set j (jG e vs (xss.set k.toNat ((at' xss k).set i.toNat yv)))) (fun _=>L):=fun a w s t=>by
 have hl:=bX j hf c w t
 have hj:j<M.length:=(List.getElem?_eq_some_iff.1 hf).1
 refine lO (fun a' w' ⟨x,he,ht⟩=>⟨x,he,?_⟩) (Jv 0 yv h hx hy rfl hq hu hm ho hyv h1u hT a w s (JH j hf hk c w t))
 have hb:=JE (j+1) 0 (u:=at' vs k) (k:=k) (vs:=vs) (xss:=xss) (ys:=(at' xss k).set i.toNat yv) (e:=e) rfl (by simp[hj]) rfl (by simpa using hk) c w' ht
 simp only[List.set_cons_zero,List.set_cons_succ,List.eraseIdx_cons_zero,List.set_set]at hb
 rw[Cq vs k (by omega) hk.1]at hb
 exact hb
end
theorem aK.ix {M M':List aW} (l:List Nat) (hn:decide l.Nodup=true) (h:l.map (fun i=>M[i]?)=M'.map some):aK M M':=by
 have hn:l.Nodup:=of_decide_eq_true hn
 have hl:l.length=M'.length:=by simpa using congrArg List.length h
 refine⟨fun i=>l.getD i 0,fun i j hi hj e=> ?_,fun i m hm=> ?_⟩
 ·have h1:i<l.length:=by omega
  have h2:j<l.length:=by omega
  simp only[List.getD_eq_getElem?_getD,List.getElem?_eq_getElem h1,List.getElem?_eq_getElem h2,Option.getD_some]at e
  exact(List.getElem_inj hn).1 e
 ·have hi:i<l.length:=by rw[hl];exact(List.getElem?_eq_some_iff.1 hm).1
  have:=congrArg (fun q=>q[i]?) h
  simp only[List.getElem?_map,List.getElem?_eq_getElem hi,hm,Option.map_some,Option.some.injEq]at this
  simpa [List.getD_eq_getElem?_getD,List.getElem?_eq_getElem hi]using this
def dJ.fn:dJ Nat:=⟨1,Nat.one_pos,fun f=>[.func (.func f) #[] #[]],fun _=>rfl⟩
def d_.fn:d_ Nat:=⟨1,Nat.one_pos,fun _ _ cs x=>cs=[.func (.func x) #[] #[]],fun h=>by simp[h],fun h _=>h⟩
theorem Jm:dJ.fn.Fits d_.fn:=⟨rfl,fun h=>h,rfl,fun _=>rfl⟩
end Go.Sx
end
section
namespace Go.Proofs.YtigggfnchamobaaGreatDoor
open Go.Sx
def SE:List Int:=[0,1,1,2,1,2,2,3,1,2,2,3,2,3,3,4,1,2,2,3,2,3,3,4,2,3,3,4,3,4,4,5,1,2,2,3,2,3,3,4,2,3,3,4,3,4,4,5,2,3,3,4,3,4,4,5,3,4,4,5,4,5,5,6,1,2,2,3,2,3,3,4,2,3,3,4,3,4,4,5,2,3,3,4,3,4,4,5,3,4,4,5,4,5,5,6,2,3,3,4,3,4,4,5,3,4,4,5,4,5,5,6,3,4,4,5,4,5,5,6,4,5,5,6,5,6,6,7,1,2,2,3,2,3,3,4,2,3,3,4,3,4,4,5,2,3,3,4,3,4,4,5,3,4,4,5,4,5,5,6,2,3,3,4,3,4,4,5,3,4,4,5,4,5,5,6,3,4,4,5,4,5,5,6,4,5,5,6,5,6,6,7,2,3,3,4,3,4,4,5,3,4,4,5,4,5,5,6,3,4,4,5,4,5,5,6,4,5,5,6,5,6,6,7,3,4,4,5,4,5,5,6,4,5,5,6,5,6,6,7,4,5,5,6,5,6,6,7,5,6,6,7,6,7,7,8]
theorem Iw:FG (ByteArray.mk #[0,1,1,2,1,2,2,3,1,2,2,3,2,3,3,4,1,2,2,3,2,3,3,4,2,3,3,4,3,4,4,5,1,2,2,3,2,3,3,4,2,3,3,4,3,4,4,5,2,3,3,4,3,4,4,5,3,4,4,5,4,5,5,6,1,2,2,3,2,3,3,4,2,3,3,4,3,4,4,5,2,3,3,4,3,4,4,5,3,4,4,5,4,5,5,6,2,3,3,4,3,4,4,5,3,4,4,5,4,5,5,6,3,4,4,5,4,5,5,6,4,5,5,6,5,6,6,7,1,2,2,3,2,3,3,4,2,3,3,4,3,4,4,5,2,3,3,4,3,4,4,5,3,4,4,5,4,5,5,6,2,3,3,4,3,4,4,5,3,4,4,5,4,5,5,6,3,4,4,5,4,5,5,6,4,5,5,6,5,6,6,7,2,3,3,4,3,4,4,5,3,4,4,5,4,5,5,6,3,4,4,5,4,5,5,6,4,5,5,6,5,6,6,7,3,4,4,5,4,5,5,6,4,5,5,6,5,6,6,7,4,5,5,6,5,6,6,7,5,6,6,7,6,7,7,8])=SE:=by kernel_rfl
def vT:List Int:=[0,1,28,2,29,14,24,3,30,22,20,15,25,17,4,8,31,27,13,23,21,19,16,7,26,12,18,6,11,5,10,9]
theorem _root_.Go.Sx.Y.bld5 {P:Program} {c:s_} {n:Sz} {σ:Fr} {M L:List aW} {d:Option Tmp} {ty:TypeId} {pos:String} {aft:Array Edge} {g:Option (Nat×Bool)} {T:TypeId} {i0 i1 i2 i3 i4:Nat} {x0 x1 x2 x3 x4:Operand} {v0 v1 v2 v3 v4:Value} {r:Value} (h0:ev σ x0=some v0) (h1:ev σ x1=some v1) (h2:ev σ x2=some v2) (h3:ev σ x3=some v3) (h4:ev σ x4=some v4) (hr:∀w,(Instr.build T ([(i0,v0),(i1,v1),(i2,v2),(i3,v3),(i4,v4)]:List (Nat×Value)).toArray).run P w = .ok r w):Y P c n σ M L ⟨d,.build T #[(i0,x0),(i1,x1),(i2,x2),(i3,x3),(i4,x4)],ty,pos,aft,g⟩ r:=
 wP (ps:=[(i0,x0),(i1,x1),(i2,x2),(i3,x3),(i4,x4)]) (vs:=[(i0,v0),(i1,v1),(i2,v2),(i3,v3),(i4,v4)]) (by simp[h0,h1,h2,h3,h4]) hr
abbrev ESt:dJ ByteArray:=⟨1,Nat.one_pos,fun x=>[.string x],fun _=>rfl⟩
abbrev YV:d_ ByteArray:=⟨1,Nat.one_pos,fun _ _ cs x=>cs=[.string x],fun h=>by simp[h],fun h _=>h⟩
theorem FSt:ESt.Fits YV:=⟨rfl,fun h=>h,rfl,fun _=>rfl⟩
abbrev bY:dJ Int:=dJ.int .i64
abbrev bM:d_ Int:=d_.int .i64
theorem cI:bY.Fits bM:=CC .i64
theorem dB:bM.Cell 0 (fun x=> .int .i64 x):=CG .i64
abbrev rF:dJ (ByteArray×Int×Int×Int×Int×Int):=dJ.pair ESt (dJ.pair bY (dJ.pair bY (dJ.pair bY (dJ.pair bY (bY)))))
abbrev aP:d_ (ByteArray×Int×Int×Int×Int×Int):=d_.pair YV (d_.pair bM (d_.pair bM (d_.pair bM (d_.pair bM (bM)))))
theorem rH:rF.Fits aP:=mR FSt (mR cI (mR cI (mR cI (mR cI (cI)))))
theorem uM:aP.Cell 1 (fun x=> .int .i64 x.2.1):=cG (nP (dB))
theorem An:aP.Cell 2 (fun x=> .int .i64 x.2.2.1):=cG (cG (nP (dB)))
theorem Ao:aP.Cell 3 (fun x=> .int .i64 x.2.2.2.1):=cG (cG (cG (nP (dB))))
theorem Ap:aP.Cell 4 (fun x=> .int .i64 x.2.2.2.2.1):=cG (cG (cG (cG (nP (dB)))))
theorem Aq:aP.Cell 5 (fun x=> .int .i64 x.2.2.2.2.2):=cG (cG (cG (cG (cG (dB)))))
abbrev bR:dJ (Int×Int):=dJ.pair bY (bY)
abbrev aZ:d_ (Int×Int):=d_.pair bM (bM)
theorem bJ:bR.Fits aZ:=mR cI (cI)
theorem zF:aZ.Cell 0 (fun x=> .int .i64 x.1):=nP (dB)
theorem Lt:aZ.Cell 1 (fun x=> .int .i64 x.2):=cG (dB)
abbrev pN:d_ (Int×(Value×List (Int×Int))):=d_.pair bM ((d_.sl aZ))
theorem GQ:pN.All 2 (fun x=>[Value.int .i64 (x.1),x.2.1]):=(Ij (Lv cI) (Lw aZ))
theorem Ah:pN.Deep aZ (fun x=>x.2):=Bh (AB aZ)
abbrev aI:d_ (ByteArray×(Value×List (Int×Int))×(Value×List (Int×(Value×List (Int×Int))))):=d_.pair YV (d_.pair (d_.sl aZ) ((d_.sl pN)))
theorem wF:aI.Cell 1 (fun x=>x.2.1.1):=cG (nP (d_.sl_cell aZ))
theorem wH:aI.Deep aZ (fun x=>x.2.1):=Bh (Oe (AB aZ))
theorem wG:aI.Cell 2 (fun x=>x.2.2.1):=cG (cG (d_.sl_cell pN))
theorem fC:aI.Deep pN (fun x=>x.2.2):=Bh (Bh (AB pN))
abbrev XH:dJ Bool:=dJ.bool
abbrev EFn:dJ Nat:=dJ.fn
abbrev RFn:d_ Nat:=d_.fn
theorem FFn:EFn.Fits RFn:=Jm
abbrev EE:dJ (Int×Nat):=dJ.pair bY (EFn)
abbrev SV:d_ (Int×Nat):=d_.pair bM (RFn)
theorem xQ:EE.Fits SV:=mR cI (FFn)
abbrev jV:dJ Int:=dJ.int .u32
abbrev wR:d_ Int:=d_.int .u32
theorem kU:jV.Fits wR:=CC .u32
theorem Cc:wR.Cell 0 (fun x=> .int .u32 x):=CG .u32
abbrev Fb:dJ Int:=dJ.int .u8
def KU (x:Int):Value:=Value.int .i64 (x)
def lR (x:Int×Int):Value:=Value.agg #[Value.int .i64 (x.1),Value.int .i64 (x.2)]
theorem Rf (x y:Int×Int) (m:Nat) (w:World):(Op.equalIn (m+2) 145 (.agg #[.int .i64 x.1,.int .i64 x.2]) (.agg #[.int .i64 y.1,.int .i64 y.2])).run Tryz.prog w = .ok (decide (x=y)) w:=by
 have h3:∀a b:Int,(Op.equalIn (m+1) 3 (.int .i64 a) (.int .i64 b)).run Tryz.prog w = .ok (a==b) w:=by
  intro a b
  simp[Op.equalIn]
 unfold Op.equalIn
 simp[show List.range' 0 2=[0,1]from rfl,part,isAgg,h3]
 obtain⟨a0,a1⟩:=x
 obtain⟨c0,c1⟩:=y
 by_cases e0:a0=c0<;>by_cases e1:a1=c1<;>simp[e0,e1,h3]
theorem Qt (b:Bool) (k:Int×Int) (w:World):(Instr.checkKey b 10000 145 (lR k)).run Tryz.prog w = .ok () w:=by
 have key:∀m:Nat,(Instr.checkKey b (m+2) 145 (lR k)).run Tryz.prog w = .ok () w:=by
  intro m
  simp[Instr.checkKey,lR,part,isAgg,show List.range' 0 2=[0,1]from rfl]
 exact key 9998
theorem IK:Fi Tryz.prog 145 lR:=Lo Tryz.underlying145 Qt (fun _ _=>rfl) (fun a b w=>Rf a b 9998 w) (fun k=>by
 have key:∀m:Nat,Instr.sameBits (m+2) (lR k) (lR k)=true:=fun m=>by simp[Instr.sameBits,lR]
 exact key 9998)
theorem mM (u0:Value) (h0:one u0=true) (init:Array Value) (h:init.size=1*1):Instr.fill (fun i=>some (i*1,1)) init [(0,u0)]=some [u0].toArray:=by
 obtain⟨l⟩:=init
 match l,h with
 | [z0],_=>simp[Instr.fill,jD h0]
theorem vQ (u0 u1:Value) (init:Array Value) (h:init.size=1*2):Instr.fill (fun i=>some (i*2,2)) init [(0,.agg #[u0,u1])]=some [u0,u1].toArray:=by
 obtain⟨l⟩:=init
 match l,h with
 | [z0,z1],_=>simp[Instr.fill,Value.cells]
theorem QP (u0 u1 u2 u3 u4 u5:Value) (init:Array Value) (h:init.size=1*6):Instr.fill (fun i=>some (i*6,6)) init [(0,.agg #[u0,u1,u2,u3,u4,u5])]=some [u0,u1,u2,u3,u4,u5].toArray:=by
 obtain⟨l⟩:=init
 match l,h with
 | [z0,z1,z2,z3,z4,z5],_=>simp[Instr.fill,Value.cells]
theorem Kd (u0 u1:Value) (h0:one u0=true) (h1:one u1=true) (init:Array Value) (h:init.size=2*1):Instr.fill (fun i=>some (i*1,1)) init [(0,u0),(1,u1)]=some [u0,u1].toArray:=by
 obtain⟨l⟩:=init
 match l,h with
 | [z0,z1],_=>simp[Instr.fill,jD h0,jD h1]
theorem QQ (u0 u1 u2 u3 u4 u5:Value) (init:Array Value) (h:init.size=3*2):Instr.fill (fun i=>some (i*2,2)) init [(0,.agg #[u0,u1]),(1,.agg #[u2,u3]),(2,.agg #[u4,u5])]=some [u0,u1,u2,u3,u4,u5].toArray:=by
 obtain⟨l⟩:=init
 match l,h with
 | [z0,z1,z2,z3,z4,z5],_=>simp[Instr.fill,Value.cells]
end Go.Proofs.YtigggfnchamobaaGreatDoor
end
section
namespace Go.Proofs.YtigggfnchamobaaGreatDoor
open Go.Sx
def rZ (p0:Int) (a2:Bool):Option (Int):=
 if a2=true then(some (-1:Int))else(if p0<=(17:Int)then(some (0:Int))else(if p0<=(29:Int)then(some (1:Int))else(if p0<=(42:Int)then(some (2:Int))else(some (3:Int)))))
def qZ (fuel:Nat) (p0:Int):Option (Int):=
 if p0<(1:Int)then(rZ p0 (true))else(rZ p0 (decide ((43:Int)<p0)))
theorem TH:aR Tryz.prog 152:=Tryz.call152
theorem Jf (fuel:Nat) {p0:Int} (r:Int) (h:qZ fuel p0=some r):
  aV Tryz.prog 152 #[vI (p0)] [] (fun x:Unit=>vI (r)) (fun x l=>l) (fun _ l=>l):=by
 refine aV.of Tryz.func152 rfl Tryz.ntmps152 rfl fun c=>?_
 unfold qZ at h
 refine sqR<|qkAsg rfl<|dtN<|aL<|aQ<|aL<|midU (fun a2=>rZ p0 a2=some r) (fun a2 b3=>[(0,vI (p0)),(3,Value.bool (a2))]) (fun a2 b3=>[]) ?_ ?_
 ·refine aO<|qkMove rfl<|qkLss rfl<|qkMove rfl ?_
  refine Cy h rfl (fun _ h=>?_) fun _ h=>?_
  ·refine gdSkip rfl<|gdSkip rfl<|aB (bW rfl rfl) rfl<|qkAsg rfl<|dtN ?_
   exact iJ (true) () h SF rfl
  refine gyMove rfl<|aT rfl (tT rfl rfl) rfl<|aB (cA rfl rfl) rfl<|qkAsg rfl<|dtN ?_
  exact iJ (decide ((43:Int)<p0)) () h SF rfl
 clear h
 intro a2 b3 h
 unfold rZ at h
 refine zJ h rfl (fun _ h=>?_) fun _ h=>?_
 ·refine sqR<|qkAsg rfl<|dtN<|aS<|bK<|aJ ?_
  cases h
  exact lP rfl
 refine sqR<|qkMove rfl<|aB (Ai rfl rfl) rfl<|qkAsg rfl<|dtN ?_
 refine eL h rfl (fun h=>?_) fun h=>?_
 ·refine sqR<|qkAsg rfl<|dtN<|aS<|bK<|aJ ?_
  cases h
  exact lP rfl
 refine sqR<|qkMove rfl<|aB (Ai rfl rfl) rfl<|qkAsg rfl<|dtN ?_
 refine eL h rfl (fun h=>?_) fun h=>?_
 ·refine sqR<|qkAsg rfl<|dtN<|aS<|bK<|aJ ?_
  cases h
  exact lP rfl
 refine sqR<|qkMove rfl<|aB (Ai rfl rfl) rfl<|qkAsg rfl<|dtN ?_
 refine eL h rfl (fun h=>?_) fun h=>?_
 ·refine sqR<|qkAsg rfl<|dtN<|aS<|bK<|aJ ?_
  cases h
  exact lP rfl
 refine cU<|inT<|sqR<|qkAsg rfl<|dtN<|aS ?_
 cases h
 exact lP rfl
end Go.Proofs.YtigggfnchamobaaGreatDoor
end
section
namespace Go.Proofs.YtigggfnchamobaaGreatDoor
open Go.Sx
def Bb  (a5:Unit):Option (Int):=
 some (-1:Int)
def iN (fuel:Nat) (p0:List (Int×Int)) (a10:Int×Int) (ag9:(Int×Int)->Option (Int)):Option (Int):=
 if a10.1<(List.length p0:Int)then(ck (0<=a10.1∧a10.1<(List.length p0:Int)) (Option.bind (qZ fuel ((at' p0 a10.1).1)) fun r15=>(if r15<(0:Int)then(some (-1:Int))else(if(wI .i64 (a10.2+(wI .i64 (r15 - (1:Int)))))=(0:Int)then(some (wI .i64 (a10.1+(1:Int))))else(ag9 ((wI .i64 (a10.1+(1:Int))),(wI .i64 (a10.2+(wI .i64 (r15 - (1:Int)))))))))))else(Bb  (()))
def vV (fuel:Nat) (p0:List (Int×Int)) (p1:Int) (a2:Bool):Option (Int):=
 if a2=true then(some (-1:Int))else(bG (iN fuel p0) fuel (p1,(1:Int)))
def wY (fuel:Nat) (p0:List (Int×Int)) (p1:Int):Option (Int):=
 if p1<(0:Int)then(vV fuel p0 p1 (true))else(vV fuel p0 p1 (decide ((List.length p0:Int)<=p1)))
theorem Tv:aR Tryz.prog 126:=Tryz.call126
theorem Mu (fuel:Nat) {p0:List (Int×Int)} {p1:Int} (v0:Value) (r:Int) (h:wY fuel p0 p1=some r):
  aV Tryz.prog 126 #[v0,vI (p1)] [Sl aZ v0 p0] (fun x:Unit=>vI (r)) (fun x l=>l) (fun _ l=>l):=by
 refine aV.of Tryz.func126 rfl Tryz.ntmps126 rfl fun c=>?_
 unfold wY at h
 refine sqR<|qkAsg rfl<|dtN<|aL<|aL<|midU (fun a2=>vV fuel p0 p1 a2=some r) (fun a2 b3=>[(0,v0),(1,vI (p1)),(14,Value.bool (a2))]) (fun a2 b3=>[]) ?_ ?_
 ·refine aO<|qkMove rfl<|qkLss rfl<|qkMove rfl ?_
  refine Cy h rfl (fun _ h=>?_) fun _ h=>?_
  ·refine gdSkip rfl<|gdSkip rfl<|gdSkip rfl<|gdSkip rfl<|aB (bW rfl rfl) rfl<|dtN ?_
   exact iJ (true) () h SF rfl
  refine gyMove rfl<|gyMove rfl<|aT rfl (b_ rfl (aC.fact 0 rfl) rfl) rfl<|aT rfl (Ef rfl rfl) rfl<|aB (cA rfl rfl) rfl<|dtN ?_
  exact iJ (decide ((List.length p0:Int)<=p1)) () h SF rfl
 clear h
 intro a2 b3 h
 unfold vV at h
 refine zJ h rfl (fun _ h=>?_) fun _ h=>?_
 ·refine sqR<|qkAsg rfl<|dtN<|aS<|aJ ?_
  cases h
  exact lP rfl
 refine iV<|aL<|midU (fun a5=>Bb  a5=some r) (fun a5 b6=>[]) (fun a5 b6=>[]) ?_ ?_
 ·refine sqR<|qkAsg rfl<|dtN<|aQ<|loopL (iN fuel p0) (fun a10 b11=>[(0,v0),(1,vI (a10.1)),(5,vI (a10.2))]) (fun a10 b11=>[]) (p1,(1:Int)) () h SF (aK.refl _) ?_
  clear h
  intro k12 a10 b11 h
  unfold iN at h
  refine aL<|sqR<|qkMove rfl<|qkMove rfl<|aB (b_ rfl (aC.fact 0 rfl) rfl) rfl<|qkLss rfl<|dtN ?_
  refine eL h rfl (fun h=>?_) fun h=>?_
  ·refine iV<|aL<|aQ<|sqR<|qkMove rfl<|qkMove rfl ?_
   have⟨j14,h⟩:=aH h
   refine aB (a_ rfl rfl (aC.fact 0 rfl) rfl rfl j14) rfl<|aB (nQ rfl rfl rfl rfl rfl) rfl<|aB (pT rfl (aC.fact 0 rfl) rfl rfl rfl zF j14) rfl ?_
   have⟨r15,w16,h⟩:=fE h
   refine aG (aM.callQ TH (Jf fuel  r15 w16) rfl .nil) rfl fun x17=>qkAsg rfl<|dtN<|aL<|sqR<|qkMove rfl<|qkLss rfl<|dtN ?_
   refine eL h rfl (fun h=>?_) fun h=>?_
   ·refine sqR<|qkAsg rfl<|dtN<|aS<|aJ<|bK<|aJ<|aJ<|bK<|aJ ?_
    cases h
    exact lP rfl
   refine iV<|sqR<|qkMove rfl<|qkMove rfl<|aB (qE rfl rfl) rfl<|qkAdd rfl<|qkAsg rfl<|dtN<|sqR<|qkMove rfl<|qkEql rfl<|dtN ?_
   refine eL h rfl (fun h=>?_) fun h=>?_
   ·refine sqR<|qkMove rfl<|qkAdd rfl<|qkAsg rfl<|dtN<|aS<|bK<|aJ<|aJ<|bK<|aJ ?_
    cases h
    exact lP rfl
   refine cU<|inT<|aO<|qkMove rfl<|qkAdd rfl<|qkAsg rfl<|dtN ?_
   exact xK ((wI .i64 (a10.1+(1:Int))),(wI .i64 (a10.2+(wI .i64 (r15 - (1:Int)))))) () h SF rfl
  refine xO ?_
  exact iJ () (()) h SF rfl
 clear h
 intro a5 b6 h
 unfold Bb at h
 refine sqR<|qkAsg rfl<|dtN<|aS ?_
 cases h
 exact lP rfl
end Go.Proofs.YtigggfnchamobaaGreatDoor
end
section
namespace Go.Proofs.YtigggfnchamobaaGreatDoor
open Go.Sx
def fU (fuel:Nat) (p0:Bool):Option (Int):=
 if p0=true then(some (1:Int))else(some (0:Int))
theorem vD:aR Tryz.prog 175:=Tryz.call175
theorem jI (fuel:Nat) {p0:Bool} (r:Int) (h:fU fuel p0=some r):
  aV Tryz.prog 175 #[Value.bool (p0)] [] (fun x:Unit=>vI (r)) (fun x l=>l) (fun _ l=>l):=by
 refine aV.of Tryz.func175 rfl Tryz.ntmps175 rfl fun c=>?_
 unfold fU at h
 refine sqR<|qkAsg rfl<|dtN<|aL<|sqR<|qkMove rfl<|dtN ?_
 refine zJ h rfl (fun _ h=>?_) fun _ h=>?_
 ·refine sqR<|qkAsg rfl<|dtN<|aS<|aJ ?_
  cases h
  exact lP rfl
 refine iV<|sqR<|qkAsg rfl<|dtN<|aS ?_
 cases h
 exact lP rfl
end Go.Proofs.YtigggfnchamobaaGreatDoor
end
section
namespace Go.Proofs.YtigggfnchamobaaGreatDoor
open Go.Sx
def mN (fuel:Nat) (p0:(ByteArray×(List (ByteArray×Int×Int×Int×Int×Int))×(List (ByteArray×(Value×List (Int×Int))×(Value×List (Int×(Value×List (Int×Int)))))))×(List (Int)×(List (List (Int×Int))))×Int×List (List (Int))) (p1:Int) (p2:Int) (p3:Int):Option (Int):=
 if p1=(6:Int)then(some (List.length p0.2.1.1:Int))else(if p1=(7:Int)then(some (p0.2.2.1))else(if p1=(8:Int)then(ck (0<=p2∧p2<(List.length p0.2.1.1:Int)) (some (at' p0.2.1.1 p2)))else(if p1=(9:Int)then(ck (0<=p2∧p2<(List.length p0.2.1.2:Int)) (some (List.length (at' p0.2.1.2 p2):Int)))else(if p1=(10:Int)then(Option.bind (fU fuel (decide (p2=(0:Int)))) fun r8=>(some (r8)))else(if p1=(11:Int)then(some (p3))else(ck (0<=p2∧p2<(List.length p0.2.1.2:Int)) (ck (0<=p3∧p3<(List.length (at' p0.2.1.2 p2):Int)) (if p1=(13:Int)then(ck (0<=((at' (at' p0.2.1.2 p2) p3).1)∧((at' (at' p0.2.1.2 p2) p3).1)<(List.length p0.2.1.1:Int)) (some (at' p0.2.1.1 ((at' (at' p0.2.1.2 p2) p3).1))))else(if p1=(14:Int)then(ck (0<=((at' (at' p0.2.1.2 p2) p3).1)∧((at' (at' p0.2.1.2 p2) p3).1)<(List.length p0.2.1.2:Int)) (some (List.length (at' p0.2.1.2 ((at' (at' p0.2.1.2 p2) p3).1)):Int)))else(if p1=(15:Int)then(Option.bind (fU fuel (decide (((at' (at' p0.2.1.2 p2) p3).1)=(0:Int)))) fun r20=>(some (r20)))else(if p1=(16:Int)then(some ((at' (at' p0.2.1.2 p2) p3).2))else(ck (0<=p2∧p2<(List.length p0.2.2.2:Int)) (ck (0<=p3∧p3<(List.length (at' p0.2.2.2 p2):Int)) (some (at' (at' p0.2.2.2 p2) p3)))))))))))))))
theorem TM:aR Tryz.prog 174:=Tryz.call174
theorem AV (fuel:Nat) {p0:(ByteArray×(List (ByteArray×Int×Int×Int×Int×Int))×(List (ByteArray×(Value×List (Int×Int))×(Value×List (Int×(Value×List (Int×Int)))))))×(List (Int)×(List (List (Int×Int))))×Int×List (List (Int))} {p1:Int} {p2:Int} {p3:Int} (bx0:Nat)  (v1:Value)  (v2:Value)  (v3:Value)  (v4:Value)  (z5:List (Value×List (Int×Int)))  (v6:Value)  (z7:List (Value×List (Int))) (r:Int) (h:mN fuel p0 p1 p2 p3=some r):
  aV Tryz.prog 174 #[vP bx0,vI (p1),vI (p2),vI (p3)] [bO bx0 [Value.string (p0.1.1),v1,v2,v3,v4,vI (p0.2.2.1),v6] 178,Sl aP v1 p0.1.2.1,Sl aI v2 p0.1.2.2,Sl bM v3 p0.2.1.1,S2 aZ v4 z5 p0.2.1.2,S2 bM v6 z7 p0.2.2.2] (fun x:Unit=>vI (r)) (fun x l=>l) (fun _ l=>l):=by
 refine aV.of Tryz.func174 rfl Tryz.ntmps174 rfl fun c=>?_
 unfold mN at h
 refine sqR<|qkAsg rfl<|dtN<|aL<|sqR<|qkMove rfl<|dtN<|aQ<|sqR<|qkEql rfl<|qkAsg rfl<|dtN ?_
 refine eL h rfl (fun h=>?_) fun h=>?_
 ·refine sqR<|qkMove rfl<|aB (bQ rfl) rfl<|qkFld rfl<|qkFld rfl<|aB (dG rfl (aC.fact 0 rfl) rfl rfl rfl) rfl<|aB (b_ rfl (aC.fact 3 rfl) rfl) rfl<|qkAsg rfl<|dtN<|aS<|bK<|aJ ?_
  cases h
  exact lP rfl
 refine sqR<|qkEql rfl<|qkAsg rfl<|dtN ?_
 refine eL h rfl (fun h=>?_) fun h=>?_
 ·refine sqR<|qkMove rfl<|aB (bQ rfl) rfl<|qkFld rfl<|aB (dG rfl (aC.fact 0 rfl) rfl rfl rfl) rfl<|qkAsg rfl<|dtN<|aS<|bK<|aJ ?_
  cases h
  exact lP rfl
 refine sqR<|qkEql rfl<|qkAsg rfl<|dtN ?_
 refine eL h rfl (fun h=>?_) fun h=>?_
 ·refine sqR<|qkMove rfl<|aB (bQ rfl) rfl<|qkFld rfl<|qkFld rfl<|aB (dG rfl (aC.fact 0 rfl) rfl rfl rfl) rfl<|qkMove rfl ?_
  have⟨j4,h⟩:=aH h
  refine aB (a_ rfl rfl (aC.fact 3 rfl) rfl rfl j4) rfl<|aB (bS rfl (aC.fact 3 rfl) rfl rfl rfl dB j4) rfl<|qkAsg rfl<|dtN<|aS<|bK<|aJ ?_
  cases h
  exact lP rfl
 refine sqR<|qkEql rfl<|qkAsg rfl<|dtN ?_
 refine eL h rfl (fun h=>?_) fun h=>?_
 ·refine sqR<|qkMove rfl<|aB (bQ rfl) rfl<|qkFld rfl<|qkFld rfl<|aB (dG rfl (aC.fact 0 rfl) rfl rfl rfl) rfl<|qkMove rfl ?_
  have⟨j6,h⟩:=aH h
  refine aB (cO rfl rfl (aC.fact 4 rfl) rfl rfl j6) rfl<|aB (cM rfl (aC.fact 4 rfl) rfl rfl j6) rfl<|aB (b_ rfl (aC.el (aC.fact 4 rfl) j6.1 j6.2) rfl) rfl<|qkAsg rfl<|dtN<|aS<|bK<|aJ ?_
  cases h
  exact lP rfl
 refine sqR<|qkEql rfl<|qkAsg rfl<|dtN ?_
 refine eL h rfl (fun h=>?_) fun h=>?_
 ·refine sqR<|qkMove rfl<|qkEql rfl ?_
  have⟨r8,w9,h⟩:=fE h
  refine aG (aM.callQ vD (jI fuel  r8 w9) rfl .nil) rfl fun x10=>qkAsg rfl<|dtN<|aS<|bK<|aJ ?_
  cases h
  exact lP rfl
 refine sqR<|qkEql rfl<|qkAsg rfl<|dtN ?_
 refine eL h rfl (fun h=>?_) fun h=>?_
 ·refine sqR<|qkMove rfl<|qkAsg rfl<|dtN<|aS<|bK<|aJ ?_
  cases h
  exact lP rfl
 refine cU<|inT<|sqR<|qkMove rfl<|aB (bQ rfl) rfl<|qkFld rfl<|qkFld rfl<|aB (dG rfl (aC.fact 0 rfl) rfl rfl rfl) rfl<|qkMove rfl ?_
 have⟨j12,h⟩:=aH h
 refine aB (cO rfl rfl (aC.fact 4 rfl) rfl rfl j12) rfl<|aB (cM rfl (aC.fact 4 rfl) rfl rfl j12) rfl<|qkMove rfl ?_
 have⟨j13,h⟩:=aH h
 refine aB (a_ rfl rfl (aC.el (aC.fact 4 rfl) j12.1 j12.2) rfl rfl j13) rfl<|aB (fZ (cs:=[vI ((at' (at' p0.2.1.2 p2) p3).1),vI ((at' (at' p0.2.1.2 p2) p3).2)]) rfl (aC.el (aC.fact 4 rfl) j12.1 j12.2) bJ rfl rfl rfl rfl j13) rfl<|aG (aM.alloc (cs:=[vI (0:Int),vI (0:Int)]) rfl rfl) rfl fun b14=>bI 0 (vs:=[vI ((at' (at' p0.2.1.2 p2) p3).1),vI ((at' (at' p0.2.1.2 p2) p3).2)]) rfl rfl rfl rfl rfl rfl<|dtN<|aL<|sqR<|qkMove rfl<|dtN<|aQ<|sqR<|qkEql rfl<|qkAsg rfl<|dtN ?_
 refine eL h rfl (fun h=>?_) fun h=>?_
 ·refine aL ?_
  refine JR.start [0,1,3,7,15,0,32,127,255,511] 7 mixedOrders (by decide +kernel) ?_
  refine JR.open (by exact rfl) ?_
  refine jkMove rfl<|aN rfl .nil .nil (bQ rfl) aD.z<|jkFld rfl<|jkFld rfl<|aN rfl .nil (cV.cons (List.mem_of_getElem? (i:=0) rfl) .nil) (dG rfl (aC.fact 0 rfl) rfl rfl rfl) aD.z<|jkFld rfl<|jkLd 0 rfl<|bL 7 rfl rfl ?_
  have⟨j16,h⟩:=aH h
  refine aB (a_ rfl rfl (aC.fact 3 rfl) rfl rfl j16) rfl<|aB (bS rfl (aC.fact 3 rfl) rfl rfl rfl dB j16) rfl<|qkAsg rfl<|dtN<|aS<|bK<|aJ ?_
  cases h
  exact vJ rfl
 refine sqR<|qkEql rfl<|qkAsg rfl<|dtN ?_
 refine eL h rfl (fun h=>?_) fun h=>?_
 ·refine aL ?_
  refine JR.start [0,1,3,7,15,0,32,127,255,511,1023] 7 mixedOrders (by decide +kernel) ?_
  refine JR.open (by exact rfl) ?_
  refine jkMove rfl<|aN rfl .nil .nil (bQ rfl) aD.z<|jkFld rfl<|jkFld rfl<|aN rfl .nil (cV.cons (List.mem_of_getElem? (i:=0) rfl) .nil) (dG rfl (aC.fact 0 rfl) rfl rfl rfl) aD.z<|jkFld rfl<|jkLd 0 rfl<|bL 7 rfl rfl ?_
  have⟨j18,h⟩:=aH h
  refine aB (cO rfl rfl (aC.fact 4 rfl) rfl rfl j18) rfl<|aB (cM rfl (aC.fact 4 rfl) rfl rfl j18) rfl<|aB (b_ rfl (aC.el (aC.fact 4 rfl) j18.1 j18.2) rfl) rfl<|qkAsg rfl<|dtN<|aS<|bK<|aJ ?_
  cases h
  exact vJ rfl
 refine sqR<|qkEql rfl<|qkAsg rfl<|dtN ?_
 refine eL h rfl (fun h=>?_) fun h=>?_
 ·refine sqR<|qkFld rfl<|qkLd 0 rfl<|qkEql rfl ?_
  have⟨r20,w21,h⟩:=fE h
  refine aG (aM.callQ vD (jI fuel  r20 w21) rfl .nil) rfl fun x22=>qkAsg rfl<|dtN<|aS<|bK<|aJ ?_
  cases h
  exact vJ rfl
 refine sqR<|qkEql rfl<|qkAsg rfl<|dtN ?_
 refine eL h rfl (fun h=>?_) fun h=>?_
 ·refine sqR<|qkFld rfl<|qkLd 0 rfl<|qkAsg rfl<|dtN<|aS<|bK<|aJ ?_
  cases h
  exact vJ rfl
 refine cU<|inT<|sqR<|qkMove rfl<|aB (bQ rfl) rfl<|qkFld rfl<|aB (dG rfl (aC.fact 0 rfl) rfl rfl rfl) rfl<|qkMove rfl ?_
 have⟨j24,h⟩:=aH h
 refine aB (cO rfl rfl (aC.fact 5 rfl) rfl rfl j24) rfl<|aB (cM rfl (aC.fact 5 rfl) rfl rfl j24) rfl<|qkMove rfl ?_
 have⟨j25,h⟩:=aH h
 refine aB (a_ rfl rfl (aC.el (aC.fact 5 rfl) j24.1 j24.2) rfl rfl j25) rfl<|aB (bS rfl (aC.el (aC.fact 5 rfl) j24.1 j24.2) rfl rfl rfl dB j25) rfl<|qkAsg rfl<|dtN<|aS ?_
 cases h
 exact vJ rfl
end Go.Proofs.YtigggfnchamobaaGreatDoor
end
section
namespace Go.Proofs.YtigggfnchamobaaGreatDoor
open Go.Sx
def iH (fuel:Nat) (p0:((ByteArray×(List (ByteArray×Int×Int×Int×Int×Int))×(List (ByteArray×(Value×List (Int×Int))×(Value×List (Int×(Value×List (Int×Int)))))))×(List (Int)×(List (List (Int×Int))))×Int×List (List (Int)))×List (List (Int))×Int×(List (Int×Int))) (p1:Int×Int) (p2:Int):Option (Int):=
 if p1.1=(1:Int)then(some (p1.2))else(if p1.1=(2:Int)then(some (1:Int))else(if p1.1=(3:Int)then(some (0:Int))else(if p1.1=(4:Int)then(some (-1:Int))else(if p1.1=(5:Int)then(ck (0<=p0.2.2.1∧p0.2.2.1<(List.length p0.2.1:Int)) (ck (0<=p1.2∧p1.2<(List.length (at' p0.2.1 p0.2.2.1):Int)) (some (at' (at' p0.2.1 p0.2.2.1) p1.2))))else(if p1.1=(12:Int)then(ck (0<=p0.2.2.1∧p0.2.2.1<(List.length p0.1.2.1.2:Int)) (ck (0<=p2∧p2<(List.length (at' p0.1.2.1.2 p0.2.2.1):Int)) (ck (0<=((at' (at' p0.1.2.1.2 p0.2.2.1) p2).1)∧((at' (at' p0.1.2.1.2 p0.2.2.1) p2).1)<(List.length p0.2.1:Int)) (ck (0<=p1.2∧p1.2<(List.length (at' p0.2.1 ((at' (at' p0.1.2.1.2 p0.2.2.1) p2).1)):Int)) (some (at' (at' p0.2.1 ((at' (at' p0.1.2.1.2 p0.2.2.1) p2).1)) p1.2))))))else(Option.bind (mN fuel ((((p0.1.1.1,p0.1.1.2.1,p0.1.1.2.2)),((p0.1.2.1.1,p0.1.2.1.2)),p0.1.2.2.1,p0.1.2.2.2)) p1.1 p0.2.2.1 p2) fun r14=>(some (r14))))))))
theorem TJ:aR Tryz.prog 167:=Tryz.call167
theorem BK (fuel:Nat) {p0:((ByteArray×(List (ByteArray×Int×Int×Int×Int×Int))×(List (ByteArray×(Value×List (Int×Int))×(Value×List (Int×(Value×List (Int×Int)))))))×(List (Int)×(List (List (Int×Int))))×Int×List (List (Int)))×List (List (Int))×Int×(List (Int×Int))} {p1:Int×Int} {p2:Int} (bx0:Nat)  (bx1:Nat)  (v2:Value)  (v3:Value)  (v4:Value)  (v5:Value)  (z6:List (Value×List (Int×Int)))  (v7:Value)  (z8:List (Value×List (Int)))  (v9:Value)  (z10:List (Value×List (Int)))  (v11:Value) (r:Int) (h:iH fuel p0 p1 p2=some r):
  aV Tryz.prog 167 #[vP bx0,Value.agg #[vI (p1.1),vI (p1.2)],vI (p2)] [bO bx0 [vP bx1,v9,vI (p0.2.2.1),v11] 218,bO bx1 [Value.string (p0.1.1.1),v2,v3,v4,v5,vI (p0.1.2.2.1),v7] 178,Sl aP v2 p0.1.1.2.1,Sl aI v3 p0.1.1.2.2,Sl bM v4 p0.1.2.1.1,S2 aZ v5 z6 p0.1.2.1.2,S2 bM v7 z8 p0.1.2.2.2,S2 bM v9 z10 p0.2.1,Sl aZ v11 p0.2.2.2] (fun x:Unit=>vI (r)) (fun x l=>l) (fun _ l=>l):=by
 refine aV.of Tryz.func167 rfl Tryz.ntmps167 rfl fun c=>?_
 unfold iH at h
 refine sqR<|aG (aM.box (cs:=[vI (p1.1),vI (p1.2)]) rfl rfl) rfl fun b1=>qkAsg rfl<|dtN<|aL<|sqR<|qkFld rfl<|qkLd 0 rfl<|dtN<|aQ<|sqR<|qkEql rfl<|qkAsg rfl<|dtN ?_
 refine eL h rfl (fun h=>?_) fun h=>?_
 ·refine sqR<|qkFld rfl<|qkLd 0 rfl<|qkAsg rfl<|dtN<|aS<|bK<|aJ ?_
  cases h
  exact vJ rfl
 refine sqR<|qkEql rfl<|qkAsg rfl<|dtN ?_
 refine eL h rfl (fun h=>?_) fun h=>?_
 ·refine sqR<|qkAsg rfl<|dtN<|aS<|bK<|aJ ?_
  cases h
  exact vJ rfl
 refine sqR<|qkEql rfl<|qkAsg rfl<|dtN ?_
 refine eL h rfl (fun h=>?_) fun h=>?_
 ·refine sqR<|qkAsg rfl<|dtN<|aS<|bK<|aJ ?_
  cases h
  exact vJ rfl
 refine sqR<|qkEql rfl<|qkAsg rfl<|dtN ?_
 refine eL h rfl (fun h=>?_) fun h=>?_
 ·refine sqR<|qkAsg rfl<|dtN<|aS<|bK<|aJ ?_
  cases h
  exact vJ rfl
 refine sqR<|qkEql rfl<|qkAsg rfl<|dtN ?_
 refine eL h rfl (fun h=>?_) fun h=>?_
 ·refine aL ?_
  refine JR.start [0,1,3,7,0,16,48,112,255,511,0,1024,4095,8191,16383] 12 mixedOrders (by decide +kernel) ?_
  refine JR.open (by exact rfl) ?_
  refine jkMove rfl<|aN rfl .nil .nil (bQ rfl) aD.z<|jkFld rfl<|aN rfl .nil (cV.cons (List.mem_of_getElem? (i:=0) rfl) .nil) (dG rfl (aC.fact 0 rfl) rfl rfl rfl) aD.z<|jkMove rfl<|aN rfl .nil .nil (bQ rfl) aD.z<|jkFld rfl<|aN rfl .nil (cV.cons (List.mem_of_getElem? (i:=0) rfl) .nil) (dG rfl (aC.fact 0 rfl) rfl rfl rfl) aD.z ?_
  have⟨j7,h⟩:=aH h
  refine aN rfl .nil (cV.cons (List.mem_of_getElem? (i:=7) rfl) .nil) (cO rfl rfl (aC.fact 0 rfl) rfl rfl j7) aD.z<|aN rfl .nil (cV.cons (List.mem_of_getElem? (i:=7) rfl) .nil) (cM rfl (aC.fact 0 rfl) rfl rfl j7) aD.z<|jkFld rfl<|jkLd 0 rfl<|bL 12 rfl rfl ?_
  have⟨j8,h⟩:=aH h
  refine aB (a_ rfl rfl (aC.el (aC.fact 7 rfl) j7.1 j7.2) rfl rfl j8) rfl<|aB (bS rfl (aC.el (aC.fact 7 rfl) j7.1 j7.2) rfl rfl rfl dB j8) rfl<|qkAsg rfl<|dtN<|aS<|bK<|aJ ?_
  cases h
  exact vJ rfl
 refine sqR<|qkEql rfl<|qkAsg rfl<|dtN ?_
 refine eL h rfl (fun h=>?_) fun h=>?_
 ·refine aL ?_
  refine JR.start [0,1,3,7,0,16,48,112,240,496,1008,2032,0,4096,12288,28672,65520,131056,0,524272,1048560,2097136,4194303,8388607,0,16777216,67108863,134217727,268435455] 26 mixedOrders (by decide +kernel) ?_
  refine JR.open (by exact rfl) ?_
  refine jkMove rfl<|aN rfl .nil .nil (bQ rfl) aD.z<|jkFld rfl<|aN rfl .nil (cV.cons (List.mem_of_getElem? (i:=0) rfl) .nil) (dG rfl (aC.fact 0 rfl) rfl rfl rfl) aD.z<|jkMove rfl<|aN rfl .nil .nil (bQ rfl) aD.z<|jkFld rfl<|aN rfl .nil (cV.cons (List.mem_of_getElem? (i:=0) rfl) .nil) (dG rfl (aC.fact 0 rfl) rfl rfl rfl) aD.z<|aN rfl .nil .nil (bQ rfl) aD.z<|jkFld rfl<|jkFld rfl<|aN rfl .nil (cV.cons (List.mem_of_getElem? (i:=1) rfl) .nil) (dG rfl (aC.fact 0 rfl) rfl rfl rfl) aD.z<|jkMove rfl<|aN rfl .nil .nil (bQ rfl) aD.z<|jkFld rfl<|aN rfl .nil (cV.cons (List.mem_of_getElem? (i:=0) rfl) .nil) (dG rfl (aC.fact 0 rfl) rfl rfl rfl) aD.z ?_
  have⟨j10,h⟩:=aH h
  refine aN rfl .nil (cV.cons (List.mem_of_getElem? (i:=5) rfl) .nil) (cO rfl rfl (aC.fact 0 rfl) rfl rfl j10) aD.z<|aN rfl .nil (cV.cons (List.mem_of_getElem? (i:=5) rfl) .nil) (cM rfl (aC.fact 0 rfl) rfl rfl j10) aD.z<|jkMove rfl ?_
  have⟨j11,h⟩:=aH h
  refine aN rfl .nil (cV.cons (List.mem_of_getElem? (i:=5) rfl) .nil) (a_ rfl rfl (aC.el (aC.fact 0 rfl) j10.1 j10.2) rfl rfl j11) aD.z<|aN rfl .nil .nil (nQ rfl rfl rfl rfl rfl) aD.z<|aN rfl .nil (cV.cons (List.mem_of_getElem? (i:=5) rfl) .nil) (pT rfl (aC.el (aC.fact 0 rfl) j10.1 j10.2) rfl rfl rfl zF j11) aD.z ?_
  have⟨j12,h⟩:=aH h
  refine aN rfl .nil (cV.cons (List.mem_of_getElem? (i:=7) rfl) .nil) (cO rfl rfl (aC.fact 0 rfl) rfl rfl j12) aD.z<|aN rfl .nil (cV.cons (List.mem_of_getElem? (i:=7) rfl) .nil) (cM rfl (aC.fact 0 rfl) rfl rfl j12) aD.z<|jkFld rfl<|jkLd 0 rfl<|bL 26 rfl rfl ?_
  have⟨j13,h⟩:=aH h
  refine aB (a_ rfl rfl (aC.el (aC.fact 7 rfl) j12.1 j12.2) rfl rfl j13) rfl<|aB (bS rfl (aC.el (aC.fact 7 rfl) j12.1 j12.2) rfl rfl rfl dB j13) rfl<|qkAsg rfl<|dtN<|aS<|bK<|aJ ?_
  cases h
  exact vJ rfl
 refine cU<|inT<|aL ?_
 refine JR.start [0,1,3,7,0,16,0,64,192,448,0,2047,4095] 11 mixedOrders (by decide +kernel) ?_
 refine JR.open (by exact rfl) ?_
 refine jkMove rfl<|aN rfl .nil .nil (bQ rfl) aD.z<|jkFld rfl<|aN rfl .nil (cV.cons (List.mem_of_getElem? (i:=0) rfl) .nil) (dG rfl (aC.fact 0 rfl) rfl rfl rfl) aD.z<|jkFld rfl<|jkLd 0 rfl<|jkMove rfl<|aN rfl .nil .nil (bQ rfl) aD.z<|jkFld rfl<|aN rfl .nil (cV.cons (List.mem_of_getElem? (i:=0) rfl) .nil) (dG rfl (aC.fact 0 rfl) rfl rfl rfl) aD.z<|jkMove rfl<|bL 11 rfl rfl ?_
 have⟨r14,w15,h⟩:=fE h
 refine aG (aM.callQ TM (AV fuel bx1 v2 v3 v4 v5 z6 v7 z8 r14 w15) rfl (aA.cons (aC.fact 1 rfl) (aA.cons (aC.fact 2 rfl) (aA.cons (aC.fact 3 rfl) (aA.cons (aC.fact 4 rfl) (aA.cons (aC.fact 5 rfl) (aA.cons (aC.fact 6 rfl) .nil))))))) rfl fun x16=>qkAsg rfl<|dtN<|aS ?_
 cases h
 exact vJ rfl
end Go.Proofs.YtigggfnchamobaaGreatDoor
end
section
namespace Go.Proofs.YtigggfnchamobaaGreatDoor
open Go.Sx
def uD (fuel:Nat) (p0:Int) (p1:Int):Option (Int):=
 if p0=(18:Int)then(some (wI .i64 (0 - p1)))else(Option.bind (fU fuel (decide (p1=(0:Int)))) fun r2=>(some (r2)))
theorem TK:aR Tryz.prog 168:=Tryz.call168
theorem Jb (fuel:Nat) {p0:Int} {p1:Int} (r:Int) (h:uD fuel p0 p1=some r):
  aV Tryz.prog 168 #[vI (p0),vI (p1)] [] (fun x:Unit=>vI (r)) (fun x l=>l) (fun _ l=>l):=by
 refine aV.of Tryz.func168 rfl Tryz.ntmps168 rfl fun c=>?_
 unfold uD at h
 refine sqR<|qkAsg rfl<|dtN<|aL<|sqR<|qkMove rfl<|qkEql rfl<|dtN ?_
 refine eL h rfl (fun h=>?_) fun h=>?_
 ·refine sqR<|qkMove rfl<|aB (MK rfl) rfl<|qkAsg rfl<|dtN<|aS<|aJ ?_
  cases h
  exact lP rfl
 refine iV<|sqR<|qkMove rfl<|qkEql rfl ?_
 have⟨r2,w3,h⟩:=fE h
 refine aG (aM.callQ vD (jI fuel  r2 w3) rfl .nil) rfl fun x4=>qkAsg rfl<|dtN<|aS ?_
 cases h
 exact lP rfl
end Go.Proofs.YtigggfnchamobaaGreatDoor
end
section
namespace Go.Proofs.YtigggfnchamobaaGreatDoor
open Go.Sx
def g_ (fuel:Nat) (p0:Int):Option (Int):=
 some (max (-1073741824:Int) (min p0 (1073741824:Int)))
theorem Bj:aR Tryz.prog 177:=Tryz.call177
theorem lA (fuel:Nat) {p0:Int} (r:Int) (h:g_ fuel p0=some r):
  aV Tryz.prog 177 #[vI (p0)] [] (fun x:Unit=>vI (r)) (fun x l=>l) (fun _ l=>l):=by
 refine aV.of Tryz.func177 rfl Tryz.ntmps177 rfl fun c=>?_
 unfold g_ at h
 refine sqR<|qkAsg rfl<|dtN<|sqR<|qkMove rfl<|aB (PW rfl rfl) rfl<|aB (JN rfl rfl) rfl<|qkAsg rfl<|dtN<|aS ?_
 cases h
 exact lP rfl
end Go.Proofs.YtigggfnchamobaaGreatDoor
end
section
namespace Go.Proofs.YtigggfnchamobaaGreatDoor
open Go.Sx
def nX  (a4:Int):Option (Int):=
 some (a4)
def nY (p0:Int) (p1:Int) (a7:Bool):Option (Int):=
 if a7=true then(nX  (wI .i64 ((wI .i64 (Int.tdiv p0 p1)) - (1:Int))))else(nX  (wI .i64 (Int.tdiv p0 p1)))
def mE (fuel:Nat) (p0:Int) (p1:Int):Option (Int):=
 if p1=(0:Int)then(some (0:Int))else(ck (p1≠0) (ck (p1≠0) (if(Int.tmod p0 p1)≠(0:Int)then(nY p0 p1 (((decide (p0<(0:Int))) != (decide (p1<(0:Int))))))else(nY p0 p1 (false)))))
theorem MY:aR Tryz.prog 178:=Tryz.call178
theorem Am (fuel:Nat) {p0:Int} {p1:Int} (r:Int) (h:mE fuel p0 p1=some r):
  aV Tryz.prog 178 #[vI (p0),vI (p1)] [] (fun x:Unit=>vI (r)) (fun x l=>l) (fun _ l=>l):=by
 refine aV.of Tryz.func178 rfl Tryz.ntmps178 rfl fun c=>?_
 unfold mE at h
 refine sqR<|qkAsg rfl<|dtN<|aL<|sqR<|qkMove rfl<|qkEql rfl<|dtN ?_
 refine eL h rfl (fun h=>?_) fun h=>?_
 ·refine sqR<|qkAsg rfl<|dtN<|aS<|aJ ?_
  cases h
  exact lP rfl
 refine iV<|sqR<|qkMove rfl<|qkMove rfl ?_
 have⟨j2,h⟩:=aH h
 refine aB (PX rfl rfl j2) rfl<|qkAsg rfl<|dtN<|aL<|midU (fun a4=>nX  a4=some r) (fun a4 b5=>[(5,vI (a4))]) (fun a4 b5=>[]) ?_ ?_
 ·refine aL<|midU (fun a7=>nY p0 p1 a7=some r) (fun a7 b8=>[(5,vI (wI .i64 (Int.tdiv p0 p1))),(21,Value.bool (a7))]) (fun a7 b8=>[]) ?_ ?_
  ·refine aO<|qkMove rfl<|qkMove rfl ?_
   have⟨j10,h⟩:=aH h
   refine aB (JO rfl rfl j10) rfl<|aB (kR rfl rfl) rfl<|qkMove rfl ?_
   refine Cy h rfl (fun _ h=>?_) fun _ h=>?_
   ·refine gyMove rfl<|aT rfl (Hm rfl rfl) rfl<|gyMove rfl<|aT rfl (Hm rfl rfl) rfl<|aT rfl (VC rfl rfl rfl) rfl<|aB (bW rfl rfl) rfl<|dtN ?_
    exact iJ (((decide (p0<(0:Int))) != (decide (p1<(0:Int))))) () h SF rfl
   refine gdSkip rfl<|gdSkip rfl<|gdSkip rfl<|gdSkip rfl<|gdSkip rfl<|aB (cA rfl rfl) rfl<|dtN ?_
   exact iJ (false) () h SF rfl
  clear h
  intro a7 b8 h
  unfold nY at h
  refine zJ h rfl (fun _ h=>?_) fun _ h=>?_
  ·refine aO<|qkMove rfl<|aB (qE rfl rfl) rfl<|qkAsg rfl<|dtN ?_
   exact iJ (wI .i64 ((wI .i64 (Int.tdiv p0 p1)) - (1:Int))) () h SF rfl
  refine iV ?_
  exact iJ (wI .i64 (Int.tdiv p0 p1)) () h SF rfl
 clear h
 intro a4 b5 h
 unfold nX at h
 refine sqR<|qkMove rfl<|qkAsg rfl<|dtN<|aS ?_
 cases h
 exact lP rfl
end Go.Proofs.YtigggfnchamobaaGreatDoor
end
section
namespace Go.Proofs.YtigggfnchamobaaGreatDoor
open Go.Sx
def pE (fuel:Nat) (p0:Int) (p1:Int) (p2:Int):Option (Bool):=
 if p0=(35:Int)then(some (decide (p1=p2)))else(if p0=(36:Int)then(some (decide (p1≠p2)))else(if p0=(37:Int)then(some (decide (p1<p2)))else(if p0=(38:Int)then(some (decide (p1<=p2)))else(if p0=(39:Int)then(some (decide (p2<p1)))else(some (decide (p2<=p1)))))))
theorem TO:aR Tryz.prog 179:=Tryz.call179
theorem EB (fuel:Nat) {p0:Int} {p1:Int} {p2:Int} (r:Bool) (h:pE fuel p0 p1 p2=some r):
  aV Tryz.prog 179 #[vI (p0),vI (p1),vI (p2)] [] (fun x:Unit=>Value.bool (r)) (fun x l=>l) (fun _ l=>l):=by
 refine aV.of Tryz.func179 rfl Tryz.ntmps179 rfl fun c=>?_
 unfold pE at h
 refine sqR<|qkAsg rfl<|dtN<|aL<|sqR<|qkMove rfl<|dtN<|aQ<|sqR<|qkEql rfl<|qkAsg rfl<|dtN ?_
 refine eL h rfl (fun h=>?_) fun h=>?_
 ·refine sqR<|qkMove rfl<|qkMove rfl<|qkEql rfl<|qkAsg rfl<|dtN<|aS<|bK<|aJ ?_
  cases h
  exact lP rfl
 refine sqR<|qkEql rfl<|qkAsg rfl<|dtN ?_
 refine eL h rfl (fun h=>?_) fun h=>?_
 ·refine sqR<|qkMove rfl<|qkMove rfl<|aB (kR rfl rfl) rfl<|qkAsg rfl<|dtN<|aS<|bK<|aJ ?_
  cases h
  exact lP rfl
 refine sqR<|qkEql rfl<|qkAsg rfl<|dtN ?_
 refine eL h rfl (fun h=>?_) fun h=>?_
 ·refine sqR<|qkMove rfl<|qkMove rfl<|qkLss rfl<|qkAsg rfl<|dtN<|aS<|bK<|aJ ?_
  cases h
  exact lP rfl
 refine sqR<|qkEql rfl<|qkAsg rfl<|dtN ?_
 refine eL h rfl (fun h=>?_) fun h=>?_
 ·refine sqR<|qkMove rfl<|qkMove rfl<|aB (Ai rfl rfl) rfl<|qkAsg rfl<|dtN<|aS<|bK<|aJ ?_
  cases h
  exact lP rfl
 refine sqR<|qkEql rfl<|qkAsg rfl<|dtN ?_
 refine eL h rfl (fun h=>?_) fun h=>?_
 ·refine sqR<|qkMove rfl<|qkMove rfl<|aB (tT rfl rfl) rfl<|qkAsg rfl<|dtN<|aS<|bK<|aJ ?_
  cases h
  exact lP rfl
 refine cU<|inT<|sqR<|qkMove rfl<|qkMove rfl<|aB (Ef rfl rfl) rfl<|qkAsg rfl<|dtN<|aS ?_
 cases h
 exact lP rfl
end Go.Proofs.YtigggfnchamobaaGreatDoor
end
section
namespace Go.Proofs.YtigggfnchamobaaGreatDoor
open Go.Sx
def nV  (a30:Int):Option (Int):=
 some (a30)
def nW  (a41:Int):Option (Int):=
 some (a41)
def rU (fuel:Nat) (p0:Int) (p1:Int) (p2:Int):Option (Int):=
 if p0=(30:Int)then(Option.bind (g_ fuel (wI .i64 (p1*p2))) fun r2=>(some (r2)))else(if p0=(31:Int)then(Option.bind (mE fuel p1 p2) fun r6=>(Option.bind (g_ fuel r6) fun r9=>(some (r9))))else(if p0=(32:Int)then(if p2=(0:Int)then(some (0:Int))else(Option.bind (mE fuel p1 p2) fun r14=>(Option.bind (g_ fuel (wI .i64 (p1 - (wI .i64 (p2*r14))))) fun r17=>(some (r17)))))else(if p0=(33:Int)then(Option.bind (g_ fuel (wI .i64 (p1+p2))) fun r21=>(some (r21)))else(if p0=(34:Int)then(Option.bind (g_ fuel (wI .i64 (p1 - p2))) fun r25=>(some (r25)))else(if p0=(41:Int)then(if p1≠(0:Int)then(Option.bind (fU fuel (decide (p2≠(0:Int)))) fun r33=>(nV  (r33)))else(Option.bind (fU fuel false) fun r36=>(nV  (r36))))else(if p0=(42:Int)then(if p1≠(0:Int)then(Option.bind (fU fuel true) fun r44=>(nW  (r44)))else(Option.bind (fU fuel (decide (p2≠(0:Int)))) fun r47=>(nW  (r47))))else(Option.bind (pE fuel p0 p1 p2) fun r50=>(Option.bind (fU fuel r50) fun r53=>(some (r53))))))))))
theorem TL:aR Tryz.prog 170:=Tryz.call170
theorem GY (fuel:Nat) {p0:Int} {p1:Int} {p2:Int} (r:Int) (h:rU fuel p0 p1 p2=some r):
  aV Tryz.prog 170 #[vI (p0),vI (p1),vI (p2)] [] (fun x:Unit=>vI (r)) (fun x l=>l) (fun _ l=>l):=by
 refine aV.of Tryz.func170 rfl Tryz.ntmps170 rfl fun c=>?_
 unfold rU at h
 refine sqR<|qkAsg rfl<|dtN<|aL<|sqR<|qkMove rfl<|dtN<|aQ<|sqR<|qkEql rfl<|qkAsg rfl<|dtN ?_
 refine eL h rfl (fun h=>?_) fun h=>?_
 ·refine sqR<|qkMove rfl<|qkMove rfl<|aB (tU rfl rfl) rfl ?_
  have⟨r2,w3,h⟩:=fE h
  refine aG (aM.callQ Bj (lA fuel  r2 w3) rfl .nil) rfl fun x4=>qkAsg rfl<|dtN<|aS<|bK<|aJ ?_
  cases h
  exact lP rfl
 refine sqR<|qkEql rfl<|qkAsg rfl<|dtN ?_
 refine eL h rfl (fun h=>?_) fun h=>?_
 ·refine sqR<|qkMove rfl<|qkMove rfl ?_
  have⟨r6,w7,h⟩:=fE h
  refine aG (aM.callQ MY (Am fuel  r6 w7) rfl .nil) rfl fun x8=>?_
  have⟨r9,w10,h⟩:=fE h
  refine aG (aM.callQ Bj (lA fuel  r9 w10) rfl .nil) rfl fun x11=>qkAsg rfl<|dtN<|aS<|bK<|aJ ?_
  cases h
  exact lP rfl
 refine sqR<|qkEql rfl<|qkAsg rfl<|dtN ?_
 refine eL h rfl (fun h=>?_) fun h=>?_
 ·refine aL<|sqR<|qkMove rfl<|qkEql rfl<|dtN ?_
  refine eL h rfl (fun h=>?_) fun h=>?_
  ·refine sqR<|qkAsg rfl<|dtN<|aS<|aJ<|bK<|aJ ?_
   cases h
   exact lP rfl
  refine iV<|sqR<|qkMove rfl<|qkMove rfl<|qkMove rfl<|qkMove rfl ?_
  have⟨r14,w15,h⟩:=fE h
  refine aG (aM.callQ MY (Am fuel  r14 w15) rfl .nil) rfl fun x16=>aB (tU rfl rfl) rfl<|aB (qE rfl rfl) rfl ?_
  have⟨r17,w18,h⟩:=fE h
  refine aG (aM.callQ Bj (lA fuel  r17 w18) rfl .nil) rfl fun x19=>qkAsg rfl<|dtN<|aS<|bK<|aJ ?_
  cases h
  exact lP rfl
 refine sqR<|qkEql rfl<|qkAsg rfl<|dtN ?_
 refine eL h rfl (fun h=>?_) fun h=>?_
 ·refine sqR<|qkMove rfl<|qkMove rfl<|qkAdd rfl ?_
  have⟨r21,w22,h⟩:=fE h
  refine aG (aM.callQ Bj (lA fuel  r21 w22) rfl .nil) rfl fun x23=>qkAsg rfl<|dtN<|aS<|bK<|aJ ?_
  cases h
  exact lP rfl
 refine sqR<|qkEql rfl<|qkAsg rfl<|dtN ?_
 refine eL h rfl (fun h=>?_) fun h=>?_
 ·refine sqR<|qkMove rfl<|qkMove rfl<|aB (qE rfl rfl) rfl ?_
  have⟨r25,w26,h⟩:=fE h
  refine aG (aM.callQ Bj (lA fuel  r25 w26) rfl .nil) rfl fun x27=>qkAsg rfl<|dtN<|aS<|bK<|aJ ?_
  cases h
  exact lP rfl
 refine sqR<|qkEql rfl<|qkAsg rfl<|dtN ?_
 refine eL h rfl (fun h=>?_) fun h=>?_
 ·refine aL<|midU (fun a30=>nV  a30=some r) (fun a30 b31=>[(6,vI (a30))]) (fun a30 b31=>[]) ?_ ?_
  ·refine aO<|qkMove rfl<|aB (kR rfl rfl) rfl<|qkMove rfl ?_
   refine Cy h rfl (fun _ h=>?_) fun _ h=>?_
   ·refine gyMove rfl<|aT rfl (kR rfl rfl) rfl<|aB (bW rfl rfl) rfl ?_
    have⟨r33,w34,h⟩:=fE h
    refine aG (aM.callQ vD (jI fuel  r33 w34) rfl .nil) rfl fun x35=>qkAsg rfl<|dtN ?_
    exact iJ (r33) () h SF rfl
   refine gdSkip rfl<|gdSkip rfl<|aB (cA rfl rfl) rfl ?_
   have⟨r36,w37,h⟩:=fE h
   refine aG (aM.callQ vD (jI fuel  r36 w37) rfl .nil) rfl fun x38=>qkAsg rfl<|dtN ?_
   exact iJ (r36) () h SF rfl
  clear h
  intro a30 b31 h
  unfold nV at h
  refine aS<|bK<|aJ ?_
  cases h
  exact lP rfl
 refine sqR<|qkEql rfl<|qkAsg rfl<|dtN ?_
 refine eL h rfl (fun h=>?_) fun h=>?_
 ·refine aL<|midU (fun a41=>nW  a41=some r) (fun a41 b42=>[(6,vI (a41))]) (fun a41 b42=>[]) ?_ ?_
  ·refine aO<|qkMove rfl<|aB (kR rfl rfl) rfl<|qkMove rfl ?_
   refine Cy h rfl (fun _ h=>?_) fun _ h=>?_
   ·refine gdSkip rfl<|gdSkip rfl<|aB (bW rfl rfl) rfl ?_
    have⟨r44,w45,h⟩:=fE h
    refine aG (aM.callQ vD (jI fuel  r44 w45) rfl .nil) rfl fun x46=>qkAsg rfl<|dtN ?_
    exact iJ (r44) () h SF rfl
   refine gyMove rfl<|aT rfl (kR rfl rfl) rfl<|aB (cA rfl rfl) rfl ?_
   have⟨r47,w48,h⟩:=fE h
   refine aG (aM.callQ vD (jI fuel  r47 w48) rfl .nil) rfl fun x49=>qkAsg rfl<|dtN ?_
   exact iJ (r47) () h SF rfl
  clear h
  intro a41 b42 h
  unfold nW at h
  refine aS<|bK<|aJ ?_
  cases h
  exact lP rfl
 refine cU<|inT<|sqR<|qkMove rfl<|qkMove rfl<|qkMove rfl ?_
 have⟨r50,w51,h⟩:=fE h
 refine aG (aM.callQ TO (EB fuel  r50 w51) rfl .nil) rfl fun x52=>?_
 have⟨r53,w54,h⟩:=fE h
 refine aG (aM.callQ vD (jI fuel  r53 w54) rfl .nil) rfl fun x55=>qkAsg rfl<|dtN<|aS ?_
 cases h
 exact lP rfl
end Go.Proofs.YtigggfnchamobaaGreatDoor
end
section
namespace Go.Proofs.YtigggfnchamobaaGreatDoor
open Go.Sx
def vE  (a2:Int):Option (Int):=
 some (a2)
def rT (a7:Int×Int) (ag6:(Int×Int)->Option (Int)) (a12:Int):Option (Int):=
 ag6 (a12,(wI .i64 (a7.2+(1:Int))))
def mT (p0:List (Int)) (a7:Int×Int) (ag6:(Int×Int)->Option (Int)):Option (Int):=
 if a7.2<(List.length p0:Int)then(ck (0<=a7.2∧a7.2<(List.length p0:Int)) (if(at' p0 a7.2)≠(0:Int)then(rT a7 ag6 (wI .i64 (a7.1+(1:Int))))else(rT a7 ag6 (a7.1))))else(vE  (a7.1))
def oP (fuel:Nat) (p0:List (Int)):Option (Int):=
 bG (mT p0) fuel ((0:Int),(0:Int))
theorem Is:aR Tryz.prog 183:=Tryz.call183
theorem Aa (fuel:Nat) {p0:List (Int)} (v0:Value) (r:Int) (h:oP fuel p0=some r):
  aV Tryz.prog 183 #[v0] [Sl bM v0 p0] (fun x:Unit=>vI (r)) (fun x l=>l) (fun _ l=>l):=by
 refine aV.of Tryz.func183 rfl Tryz.ntmps183 rfl fun c=>?_
 unfold oP at h
 refine sqR<|qkAsg rfl<|dtN<|sqR<|qkAsg rfl<|dtN<|aL<|midU (fun a2=>vE  a2=some r) (fun a2 b3=>[(3,vI (a2))]) (fun a2 b3=>[]) ?_ ?_
 ·refine sqR<|qkMove rfl<|aB (b_ rfl (aC.fact 0 rfl) rfl) rfl<|qkMove rfl<|dtN<|aQ<|loopL (mT p0) (fun a7 b8=>[(3,vI (a7.1)),(6,v0),(7,vI (List.length p0:Int)),(8,vI (a7.2))]) (fun a7 b8=>[]) ((0:Int),(0:Int)) () h SF (aK.refl _) ?_
  clear h
  intro k9 a7 b8 h
  unfold mT at h
  refine sqR<|qkLss rfl<|dtN<|aL ?_
  refine eL h rfl (fun h=>?_) fun h=>?_
  ·refine iV<|aL<|midU (fun a12=>rT a7 (bG (mT p0) k9) a12=some r) (fun a12 b13=>[(3,vI (a12)),(6,v0),(7,vI (List.length p0:Int)),(8,vI (a7.2))]) (fun a12 b13=>[]) ?_ ?_
   ·refine aQ<|sqR ?_
    have⟨j14,h⟩:=aH h
    refine aB (a_ rfl rfl (aC.fact 0 rfl) rfl rfl j14) rfl<|aB (bS rfl (aC.fact 0 rfl) rfl rfl rfl dB j14) rfl<|qkAsg rfl<|dtN<|sqR<|qkMove rfl<|aB (kR rfl rfl) rfl<|dtN ?_
    refine eL h rfl (fun h=>?_) fun h=>?_
    ·refine aO<|qkMove rfl<|qkAdd rfl<|qkAsg rfl<|dY<|inT ?_
     exact iJ (wI .i64 (a7.1+(1:Int))) () h SF rfl
    refine cU<|inT ?_
    exact iJ (a7.1) () h SF rfl
   clear h
   intro a12 b13 h
   unfold rT at h
   refine aO<|qkAdd rfl<|qkMove rfl<|dtN ?_
   exact xK (a12,(wI .i64 (a7.2+(1:Int)))) () h SF rfl
  refine xO ?_
  exact iJ (a7.1) () h SF rfl
 clear h
 intro a2 b3 h
 unfold vE at h
 refine sqR<|qkMove rfl<|qkAsg rfl<|dtN<|aS ?_
 cases h
 exact lP rfl
end Go.Proofs.YtigggfnchamobaaGreatDoor
end
section
namespace Go.Proofs.YtigggfnchamobaaGreatDoor
open Go.Sx
def nM  (a1:Unit):Option (Int):=
 some (-1:Int)
def eG (p0:List (Int)) (g1:Int->Option Bool) (a5:Int) (ag4:(Int)->Option (Int)):Option (Int):=
 if a5<(List.length p0:Int)then(ck (0<=a5∧a5<(List.length p0:Int)) (Option.bind (g1 (at' p0 a5)) fun r10=>(if r10=true then(some (a5))else(ag4 (wI .i64 (a5+(1:Int)))))))else(nM  (()))
def lL (fuel:Nat) (p0:List (Int)) (g1:Int->Option Bool):Option (Int):=
 bG (eG p0 g1) fuel (0:Int)
theorem TP:aR Tryz.prog 184:=Tryz.call184
theorem Cu (fuel:Nat) {p0:List (Int)} {g1:Int->Option Bool} (f1:FuncId) (cs1:List Value) (Lf:List aW) (hb_g1:aR Tryz.prog f1) (hm_g1:∀(y0:Int) (r:Bool),g1 y0=some r->aV Tryz.prog f1 ([vI (y0)]++cs1).toArray Lf (fun _:Unit=>Value.bool (r)) (fun _ l=>l) (fun _ l=>l)) (v0:Value) (r:Int) (h:lL fuel p0 g1=some r):
  aV Tryz.prog 184 #[v0,Value.func (.func f1) #[] (cs1).toArray] ([Sl bM v0 p0]++Lf) (fun x:Unit=>vI (r)) (fun x l=>l) (fun _ l=>l):=by
 refine aV.of Tryz.func184 rfl Tryz.ntmps184 rfl fun c=>?_
 unfold lL at h
 refine sqR<|qkAsg rfl<|dtN<|aL<|Ca (B:=Unit) (fun a1=>nM  a1=some r) (fun a1 b2=>[]) (fun a1 b2=>[]) (fun a1 b2=>([Sl bM v0 p0]++Lf)) ?_ ?_
 ·refine sqR<|qkMove rfl<|aB (b_ rfl (aC.fact 0 rfl) rfl) rfl<|qkMove rfl<|dtN<|aQ<|EF (B:=Unit) (eG p0 g1) (fun a5 b6=>[(0,v0),(1,Value.func (.func f1) #[] (cs1).toArray),(7,vI (List.length p0:Int)),(8,vI (a5))]) (fun a5 b6=>[]) (fun a5 b6=>([Sl bM v0 p0]++Lf)) (0:Int) () h SF (aK.refl _) (aA.refl _ _) ?_
  clear h
  intro k7 a5 b6 h
  unfold eG at h
  refine sqR<|qkLss rfl<|dtN<|aL ?_
  refine eL h rfl (fun h=>?_) fun h=>?_
  ·refine iV<|aL<|aQ<|sqR<|qkMove rfl<|qkAsg rfl<|dtN<|sqR<|qkMove rfl<|qkMove rfl<|qkMove rfl ?_
   have⟨j9,h⟩:=aH h
   refine aB (a_ rfl rfl (aC.fact 0 rfl) rfl rfl j9) rfl<|aB (bS rfl (aC.fact 0 rfl) rfl rfl rfl dB j9) rfl ?_
   have⟨r10,w11,h⟩:=fE h
   refine aG (qB (vs:=[vI (at' p0 a5)]) (cs:=cs1) hb_g1 rfl (hm_g1 (at' p0 a5) r10 w11) rfl (aA.tail _) (fun _ _=>rfl)) rfl fun x12=>dtN ?_
   refine zJ h rfl (fun _ h=>?_) fun _ h=>?_
   ·refine sqR<|qkMove rfl<|qkAsg rfl<|dtN<|aS<|bK<|aJ<|aJ<|bK<|aJ ?_
    cases h
    exact lP rfl
   refine cU<|inT<|aO<|qkAdd rfl<|qkMove rfl<|dtN ?_
   exact xK (wI .i64 (a5+(1:Int))) () h SF rfl
  refine xO ?_
  exact iJ () (()) h SF rfl
 clear h
 intro a1 b2 h
 unfold nM at h
 refine sqR<|qkAsg rfl<|dtN<|aS ?_
 cases h
 exact lP rfl
end Go.Proofs.YtigggfnchamobaaGreatDoor
end
section
namespace Go.Proofs.YtigggfnchamobaaGreatDoor
open Go.Sx
def mV (fuel:Nat) (p0:Int):Option (Bool):=
 some (decide (p0≠(0:Int)))
theorem TQ:aR Tryz.prog 185:=Tryz.call185
theorem GZ (fuel:Nat) {p0:Int} (r:Bool) (h:mV fuel p0=some r):
  aV Tryz.prog 185 #[vI (p0)] [] (fun x:Unit=>Value.bool (r)) (fun x l=>l) (fun _ l=>l):=by
 refine aV.of Tryz.func185 rfl Tryz.ntmps185 rfl fun c=>?_
 unfold mV at h
 refine sqR<|qkAsg rfl<|dtN<|sqR<|qkMove rfl<|aB (kR rfl rfl) rfl<|qkAsg rfl<|dtN<|aS ?_
 cases h
 exact lP rfl
end Go.Proofs.YtigggfnchamobaaGreatDoor
end
section
namespace Go.Proofs.YtigggfnchamobaaGreatDoor
open Go.Sx
def rK  (a3:Int×Int):Option (Int×Int):=
 some (a3.1,a3.2)
def nC (a9:Int×Int×Int) (ag8:(Int×Int×Int)->Option (Int×Int)) (a15:Int×Int):Option (Int×Int):=
 ag8 (a15.1,a15.2,(wI .i64 (a9.2.2+(1:Int))))
def nD (p0:List (Int)) (a9:Int×Int×Int) (ag8:(Int×Int×Int)->Option (Int×Int)):Option (Int×Int):=
 if a9.2.2<(List.length p0:Int)then(ck (0<=a9.2.2∧a9.2.2<(List.length p0:Int)) (if a9.1<(at' p0 a9.2.2)then(nC a9 ag8 ((at' p0 a9.2.2),a9.1))else(nC a9 ag8 (a9.1,(max a9.2.1 (at' p0 a9.2.2))))))else(rK  (a9.1,a9.2.1))
def oQ (fuel:Nat) (p0:List (Int)):Option (Int×Int):=
 bG (nD p0) fuel ((-1073741824:Int),(-1073741824:Int),(0:Int))
theorem MZ:aR Tryz.prog 186:=Tryz.call186
theorem xH (fuel:Nat) {p0:List (Int)} (v0:Value) (r:Int×Int) (h:oQ fuel p0=some r):
  aV Tryz.prog 186 #[v0] [Sl bM v0 p0] (fun x:Unit=>Value.tuple #[vI (r.1),vI (r.2)]) (fun x l=>l) (fun _ l=>l):=by
 refine aV.of Tryz.func186 rfl Tryz.ntmps186 rfl fun c=>?_
 unfold oQ at h
 refine sqR<|qkAsg rfl<|qkAsg rfl<|dtN<|sqR<|qkAsg rfl<|qkAsg rfl<|dtN<|aL<|midU (fun a3=>rK  a3=some r) (fun a3 b4=>[(2,vI (a3.1)),(3,vI (a3.2))]) (fun a3 b4=>[]) ?_ ?_
 ·refine sqR<|qkMove rfl<|aB (b_ rfl (aC.fact 0 rfl) rfl) rfl<|qkMove rfl<|dtN<|aQ<|loopL (nD p0) (fun a9 b10=>[(2,vI (a9.1)),(3,vI (a9.2.1)),(6,v0),(7,vI (List.length p0:Int)),(8,vI (a9.2.2))]) (fun a9 b10=>[]) ((-1073741824:Int),(-1073741824:Int),(0:Int)) () h SF (aK.refl _) ?_
  clear h
  intro k11 a9 b10 h
  unfold nD at h
  refine sqR<|qkLss rfl<|dtN<|aL ?_
  refine eL h rfl (fun h=>?_) fun h=>?_
  ·refine iV<|aL<|midU (fun a15=>nC a9 (bG (nD p0) k11) a15=some r) (fun a15 b16=>[(2,vI (a15.1)),(3,vI (a15.2)),(6,v0),(7,vI (List.length p0:Int)),(8,vI (a9.2.2))]) (fun a15 b16=>[]) ?_ ?_
   ·refine aQ<|sqR ?_
    have⟨j17,h⟩:=aH h
    refine aB (a_ rfl rfl (aC.fact 0 rfl) rfl rfl j17) rfl<|aB (bS rfl (aC.fact 0 rfl) rfl rfl rfl dB j17) rfl<|qkAsg rfl<|dtN<|sqR<|qkMove rfl<|qkMove rfl<|aB (tT rfl rfl) rfl<|dtN ?_
    refine eL h rfl (fun h=>?_) fun h=>?_
    ·refine aO<|qkMove rfl<|qkMove rfl<|qkAsg rfl<|qkAsg rfl<|dY<|inT ?_
     exact iJ ((at' p0 a9.2.2),a9.1) () h SF rfl
    refine aO<|qkMove rfl<|qkMove rfl<|aB (JN rfl rfl) rfl<|qkAsg rfl<|dY<|inT ?_
    exact iJ (a9.1,(max a9.2.1 (at' p0 a9.2.2))) () h SF rfl
   clear h
   intro a15 b16 h
   unfold nC at h
   refine aO<|qkAdd rfl<|qkMove rfl<|dtN ?_
   exact xK (a15.1,a15.2,(wI .i64 (a9.2.2+(1:Int)))) () h SF rfl
  refine xO ?_
  exact iJ (a9.1,a9.2.1) () h SF rfl
 clear h
 intro a3 b4 h
 unfold rK at h
 refine sqR<|qkMove rfl<|qkMove rfl<|qkAsg rfl<|qkAsg rfl<|dtN<|aS ?_
 cases h
 exact jF () rfl rfl (RV.tmp rfl) (RV.tmp rfl) (aK.refl _) aA.nil
end Go.Proofs.YtigggfnchamobaaGreatDoor
end
section
namespace Go.Proofs.YtigggfnchamobaaGreatDoor
open Go.Sx
def sL  (a1:Unit):Option (Int):=
 some (-1:Int)
def gN (p0:List (Int)) (p1:Int) (a5:Int) (ag4:(Int)->Option (Int)):Option (Int):=
 if a5<(List.length p0:Int)then(ck (0<=a5∧a5<(List.length p0:Int)) (if p1=(at' p0 a5)then(some (a5))else(ag4 (wI .i64 (a5+(1:Int))))))else(sL  (()))
def oB (fuel:Nat) (p0:List (Int)) (p1:Int):Option (Int):=
 bG (gN p0 p1) fuel (0:Int)
theorem TT:aR Tryz.prog 190:=Tryz.call190
theorem GE (fuel:Nat) {p0:List (Int)} {p1:Int} (v0:Value) (r:Int) (h:oB fuel p0 p1=some r):
  aV Tryz.prog 190 #[v0,vI (p1)] [Sl bM v0 p0] (fun x:Unit=>vI (r)) (fun x l=>l) (fun _ l=>l):=by
 refine aV.of Tryz.func190 rfl Tryz.ntmps190 rfl fun c=>?_
 unfold oB at h
 refine sqR<|qkAsg rfl<|dtN<|aL<|midU (fun a1=>sL  a1=some r) (fun a1 b2=>[]) (fun a1 b2=>[]) ?_ ?_
 ·refine sqR<|qkMove rfl<|aB (b_ rfl (aC.fact 0 rfl) rfl) rfl<|qkMove rfl<|dtN<|aQ<|loopL (gN p0 p1) (fun a5 b6=>[(0,v0),(1,vI (p1)),(7,vI (List.length p0:Int)),(8,vI (a5))]) (fun a5 b6=>[]) (0:Int) () h SF (aK.refl _) ?_
  clear h
  intro k7 a5 b6 h
  unfold gN at h
  refine sqR<|qkLss rfl<|dtN<|aL ?_
  refine eL h rfl (fun h=>?_) fun h=>?_
  ·refine iV<|aL<|aQ<|sqR<|qkMove rfl<|qkAsg rfl<|dtN<|sqR<|qkMove rfl<|qkMove rfl<|qkMove rfl ?_
   have⟨j9,h⟩:=aH h
   refine aB (a_ rfl rfl (aC.fact 0 rfl) rfl rfl j9) rfl<|aB (bS rfl (aC.fact 0 rfl) rfl rfl rfl dB j9) rfl<|qkEql rfl<|dtN ?_
   refine eL h rfl (fun h=>?_) fun h=>?_
   ·refine sqR<|qkMove rfl<|qkAsg rfl<|dtN<|aS<|bK<|aJ<|aJ<|bK<|aJ ?_
    cases h
    exact lP rfl
   refine cU<|inT<|aO<|qkAdd rfl<|qkMove rfl<|dtN ?_
   exact xK (wI .i64 (a5+(1:Int))) () h SF rfl
  refine xO ?_
  exact iJ () (()) h SF rfl
 clear h
 intro a1 b2 h
 unfold sL at h
 refine sqR<|qkAsg rfl<|dtN<|aS ?_
 cases h
 exact lP rfl
end Go.Proofs.YtigggfnchamobaaGreatDoor
end
section
namespace Go.Proofs.YtigggfnchamobaaGreatDoor
open Go.Sx
def mP (fuel:Nat) (p0:List (Int)) (p1:Int):Option (Bool):=
 Option.bind (oB fuel p0 p1) fun r1=>(some (decide ((0:Int)<=r1)))
theorem TS:aR Tryz.prog 189:=Tryz.call189
theorem Do (fuel:Nat) {p0:List (Int)} {p1:Int} (v0:Value) (r:Bool) (h:mP fuel p0 p1=some r):
  aV Tryz.prog 189 #[v0,vI (p1)] [Sl bM v0 p0] (fun x:Unit=>Value.bool (r)) (fun x l=>l) (fun _ l=>l):=by
 refine aV.of Tryz.func189 rfl Tryz.ntmps189 rfl fun c=>?_
 unfold mP at h
 refine sqR<|qkAsg rfl<|dtN<|sqR<|qkMove rfl<|qkMove rfl ?_
 have⟨r1,w2,h⟩:=fE h
 refine aG (aM.callQ TT (GE fuel v0 r1 w2) rfl (aA.cons (aC.fact 0 rfl) .nil)) rfl fun x3=>aB (Ef rfl rfl) rfl<|qkAsg rfl<|dtN<|aS ?_
 cases h
 exact lP rfl
end Go.Proofs.YtigggfnchamobaaGreatDoor
end
section
namespace Go.Proofs.YtigggfnchamobaaGreatDoor
open Go.Sx
def xV  (a2:Int):Option (Int):=
 some (a2)
def tE (fuel:Nat) (p0:List (Int)) (a6:Int) (ag5:(Int)->Option (Int)):Option (Int):=
 Option.bind (mP fuel p0 a6) fun r9=>(if r9=true then(ag5 (wI .i64 (a6+(1:Int))))else(xV  (a6)))
def wW (fuel:Nat) (p0:List (Int)):Option (Int):=
 bG (tE fuel p0) fuel (0:Int)
theorem TR:aR Tryz.prog 187:=Tryz.call187
theorem Mt (fuel:Nat) {p0:List (Int)} (v0:Value) (r:Int) (h:wW fuel p0=some r):
  aV Tryz.prog 187 #[v0] [Sl bM v0 p0] (fun x:Unit=>vI (r)) (fun x l=>l) (fun _ l=>l):=by
 refine aV.of Tryz.func187 rfl Tryz.ntmps187 rfl fun c=>?_
 unfold wW at h
 refine sqR<|qkAsg rfl<|dtN<|sqR<|qkAsg rfl<|dtN<|aL<|midU (fun a2=>xV  a2=some r) (fun a2 b3=>[(3,vI (a2))]) (fun a2 b3=>[]) ?_ ?_
 ·refine aQ<|loopL (tE fuel p0) (fun a6 b7=>[(0,v0),(3,vI (a6))]) (fun a6 b7=>[]) (0:Int) () h SF (aK.refl _) ?_
  clear h
  intro k8 a6 b7 h
  unfold tE at h
  refine aL<|sqR<|qkMove rfl<|qkMove rfl ?_
  have⟨r9,w10,h⟩:=fE h
  refine aG (aM.callQ TS (Do fuel v0 r9 w10) rfl (aA.cons (aC.fact 0 rfl) .nil)) rfl fun x11=>dtN ?_
  refine zJ h rfl (fun _ h=>?_) fun _ h=>?_
  ·refine iV<|aQ<|aO<|qkMove rfl<|qkAdd rfl<|qkAsg rfl<|dY<|inT ?_
   exact xK (wI .i64 (a6+(1:Int))) () h SF rfl
  refine xO ?_
  exact iJ (a6) () h SF rfl
 clear h
 intro a2 b3 h
 unfold xV at h
 refine sqR<|qkMove rfl<|qkAsg rfl<|dtN<|aS ?_
 cases h
 exact lP rfl
end Go.Proofs.YtigggfnchamobaaGreatDoor
end
section
namespace Go.Proofs.YtigggfnchamobaaGreatDoor
open Go.Sx
def wL  (a25:Int):Option (Int):=
 some (a25)
def oM (p1:List (Int)) (a30:Int×Int) (ag29:(Int×Int)->Option (Int)):Option (Int):=
 if a30.2<(List.length p1:Int)then(ck (0<=a30.2∧a30.2<(List.length p1:Int)) (ag29 ((min a30.1 (at' p1 a30.2)),(wI .i64 (a30.2+(1:Int))))))else(wL  (a30.1))
def zM (fuel:Nat) (a41:Int):Option (Int):=
 Option.bind (g_ fuel a41) fun r43=>(some (r43))
def zN (fuel:Nat) (p1:List (Int)) (a49:Int×Int) (ag48:(Int×Int)->Option (Int)):Option (Int):=
 if a49.2<(List.length p1:Int)then(ck (0<=a49.2∧a49.2<(List.length p1:Int)) (ag48 ((wI .i64 (a49.1+(at' p1 a49.2))),(wI .i64 (a49.2+(1:Int))))))else(zM fuel (a49.1))
def vR (fuel:Nat) (p0:Int) (p1:List (Int)):Option (Int):=
 if p0=(20:Int)then(Option.bind (oP fuel p1) fun r2=>(Option.bind (fU fuel (decide (r2=(List.length p1:Int)))) fun r5=>(some (r5))))else(if p0=(21:Int)then(Option.bind (oP fuel p1) fun r9=>(Option.bind (fU fuel (decide ((0:Int)<r9))) fun r12=>(some (r12))))else(if p0=(22:Int)then(Option.bind (oP fuel p1) fun r16=>(some (r16)))else(if p0=(23:Int)then(Option.bind (lL fuel p1 (fun y0=>mV fuel y0)) fun r20=>(some (r20)))else(if p0=(24:Int)then(bG (oM p1) fuel ((1073741824:Int),(0:Int)))else(if p0=(25:Int)then(Option.bind (oQ fuel p1) fun r36=>(some (r36.1)))else(if p0=(26:Int)then(bG (zN fuel p1) fuel ((0:Int),(0:Int)))else(if p0=(27:Int)then(Option.bind (wW fuel p1) fun r55=>(some (r55)))else(if p0=(28:Int)then(Option.bind (oQ fuel p1) fun r59=>(some (r59.2)))else(if(List.length p1:Int)=(0:Int)then(some (0:Int))else(ck (0<=(0:Int)∧(0:Int)<(List.length p1:Int)) (some (at' p1 (0:Int)))))))))))))
theorem TN:aR Tryz.prog 176:=Tryz.call176
theorem KL (fuel:Nat) {p0:Int} {p1:List (Int)} (v0:Value) (r:Int) (h:vR fuel p0 p1=some r):
  aV Tryz.prog 176 #[vI (p0),v0] [Sl bM v0 p1] (fun x:Unit=>vI (r)) (fun x l=>l) (fun _ l=>l):=by
 refine aV.of Tryz.func176 rfl Tryz.ntmps176 rfl fun c=>?_
 unfold vR at h
 refine sqR<|qkAsg rfl<|dtN<|aL<|sqR<|qkMove rfl<|dtN<|aQ<|sqR<|qkEql rfl<|qkAsg rfl<|dtN ?_
 refine eL h rfl (fun h=>?_) fun h=>?_
 ·refine sqR<|qkMove rfl ?_
  have⟨r2,w3,h⟩:=fE h
  refine aG (aM.callQ Is (Aa fuel v0 r2 w3) rfl (aA.cons (aC.fact 0 rfl) .nil)) rfl fun x4=>qkMove rfl<|aB (b_ rfl (aC.fact 0 rfl) rfl) rfl<|qkEql rfl ?_
  have⟨r5,w6,h⟩:=fE h
  refine aG (aM.callQ vD (jI fuel  r5 w6) rfl .nil) rfl fun x7=>qkAsg rfl<|dtN<|aS<|bK<|aJ ?_
  cases h
  exact lP rfl
 refine sqR<|qkEql rfl<|qkAsg rfl<|dtN ?_
 refine eL h rfl (fun h=>?_) fun h=>?_
 ·refine sqR<|qkMove rfl ?_
  have⟨r9,w10,h⟩:=fE h
  refine aG (aM.callQ Is (Aa fuel v0 r9 w10) rfl (aA.cons (aC.fact 0 rfl) .nil)) rfl fun x11=>aB (tT rfl rfl) rfl ?_
  have⟨r12,w13,h⟩:=fE h
  refine aG (aM.callQ vD (jI fuel  r12 w13) rfl .nil) rfl fun x14=>qkAsg rfl<|dtN<|aS<|bK<|aJ ?_
  cases h
  exact lP rfl
 refine sqR<|qkEql rfl<|qkAsg rfl<|dtN ?_
 refine eL h rfl (fun h=>?_) fun h=>?_
 ·refine sqR<|qkMove rfl ?_
  have⟨r16,w17,h⟩:=fE h
  refine aG (aM.callQ Is (Aa fuel v0 r16 w17) rfl (aA.cons (aC.fact 0 rfl) .nil)) rfl fun x18=>qkAsg rfl<|dtN<|aS<|bK<|aJ ?_
  cases h
  exact lP rfl
 refine sqR<|qkEql rfl<|qkAsg rfl<|dtN ?_
 refine eL h rfl (fun h=>?_) fun h=>?_
 ·refine sqR<|qkMove rfl ?_
  have⟨r20,w21,h⟩:=fE h
  refine aG (aM.callQ TP (Cu fuel 185 [] [] TQ (fun y0 r h=>GZ fuel  r h) v0 r20 w21) rfl (aA.cons (aC.fact 0 rfl) .nil)) rfl fun x22=>qkAsg rfl<|dtN<|aS<|bK<|aJ ?_
  cases h
  exact lP rfl
 refine sqR<|qkEql rfl<|qkAsg rfl<|dtN ?_
 refine eL h rfl (fun h=>?_) fun h=>?_
 ·refine sqR<|qkAsg rfl<|dtN<|aL<|midU (fun a25=>wL  a25=some r) (fun a25 b26=>[(5,vI (a25))]) (fun a25 b26=>[]) ?_ ?_
  ·refine sqR<|qkMove rfl<|aB (b_ rfl (aC.fact 0 rfl) rfl) rfl<|qkMove rfl<|dtN<|aQ<|loopL (oM p1) (fun a30 b31=>[(5,vI (a30.1)),(40,v0),(41,vI (List.length p1:Int)),(42,vI (a30.2))]) (fun a30 b31=>[]) ((1073741824:Int),(0:Int)) () h SF (aK.refl _) ?_
   clear h
   intro k32 a30 b31 h
   unfold oM at h
   refine sqR<|qkLss rfl<|dtN<|aL ?_
   refine eL h rfl (fun h=>?_) fun h=>?_
   ·refine iV<|aL<|aQ<|sqR ?_
    have⟨j34,h⟩:=aH h
    refine aB (a_ rfl rfl (aC.fact 0 rfl) rfl rfl j34) rfl<|aB (bS rfl (aC.fact 0 rfl) rfl rfl rfl dB j34) rfl<|qkAsg rfl<|dtN<|aO<|qkMove rfl<|qkMove rfl<|aB (PW rfl rfl) rfl<|qkAsg rfl<|dY<|inT<|aO<|qkAdd rfl<|qkMove rfl<|dtN ?_
    exact xK ((min a30.1 (at' p1 a30.2)),(wI .i64 (a30.2+(1:Int)))) () h SF rfl
   refine xO ?_
   exact iJ (a30.1) () h SF rfl
  clear h
  intro a25 b26 h
  unfold wL at h
  refine sqR<|qkMove rfl<|qkAsg rfl<|dtN<|aS<|bK<|aJ ?_
  cases h
  exact lP rfl
 refine sqR<|qkEql rfl<|qkAsg rfl<|dtN ?_
 refine eL h rfl (fun h=>?_) fun h=>?_
 ·refine sqR<|qkMove rfl ?_
  have⟨r36,w37,h⟩:=fE h
  refine aG (aM.callQ MZ (xH fuel v0 r36 w37) rfl (aA.cons (aC.fact 0 rfl) .nil)) rfl fun x38=>qkMove rfl<|aB (bF rfl rfl) rfl<|aB (bF rfl rfl) rfl<|qkAsg rfl<|qkAsg rfl<|dtN<|sqR<|qkMove rfl<|qkAsg rfl<|dtN<|aS<|bK<|aJ ?_
  cases h
  exact lP rfl
 refine sqR<|qkEql rfl<|qkAsg rfl<|dtN ?_
 refine eL h rfl (fun h=>?_) fun h=>?_
 ·refine sqR<|qkAsg rfl<|dtN<|aL<|midU (fun a41=>zM fuel a41=some r) (fun a41 b42=>[(10,vI (a41))]) (fun a41 b42=>[]) ?_ ?_
  ·refine sqR<|qkMove rfl<|aB (b_ rfl (aC.fact 0 rfl) rfl) rfl<|qkMove rfl<|dtN<|aQ<|loopL (zN fuel p1) (fun a49 b50=>[(10,vI (a49.1)),(61,v0),(62,vI (List.length p1:Int)),(63,vI (a49.2))]) (fun a49 b50=>[]) ((0:Int),(0:Int)) () h SF (aK.refl _) ?_
   clear h
   intro k51 a49 b50 h
   unfold zN at h
   refine sqR<|qkLss rfl<|dtN<|aL ?_
   refine eL h rfl (fun h=>?_) fun h=>?_
   ·refine iV<|aL<|aQ<|sqR ?_
    have⟨j53,h⟩:=aH h
    refine aB (a_ rfl rfl (aC.fact 0 rfl) rfl rfl j53) rfl<|aB (bS rfl (aC.fact 0 rfl) rfl rfl rfl dB j53) rfl<|qkAsg rfl<|dtN<|aO<|qkMove rfl<|qkMove rfl<|qkAdd rfl<|qkAsg rfl<|dY<|inT<|aO<|qkAdd rfl<|qkMove rfl<|dtN ?_
    exact xK ((wI .i64 (a49.1+(at' p1 a49.2))),(wI .i64 (a49.2+(1:Int)))) () h SF rfl
   refine xO ?_
   exact iJ (a49.1) () h SF rfl
  clear h
  intro a41 b42 h
  unfold zM at h
  refine sqR<|qkMove rfl ?_
  have⟨r43,w44,h⟩:=fE h
  refine aG (aM.callQ Bj (lA fuel  r43 w44) rfl .nil) rfl fun x45=>qkAsg rfl<|dtN<|aS<|bK<|aJ ?_
  cases h
  exact lP rfl
 refine sqR<|qkEql rfl<|qkAsg rfl<|dtN ?_
 refine eL h rfl (fun h=>?_) fun h=>?_
 ·refine sqR<|qkMove rfl ?_
  have⟨r55,w56,h⟩:=fE h
  refine aG (aM.callQ TR (Mt fuel v0 r55 w56) rfl (aA.cons (aC.fact 0 rfl) .nil)) rfl fun x57=>qkAsg rfl<|dtN<|aS<|bK<|aJ ?_
  cases h
  exact lP rfl
 refine sqR<|qkEql rfl<|qkAsg rfl<|dtN ?_
 refine eL h rfl (fun h=>?_) fun h=>?_
 ·refine sqR<|qkMove rfl ?_
  have⟨r59,w60,h⟩:=fE h
  refine aG (aM.callQ MZ (xH fuel v0 r59 w60) rfl (aA.cons (aC.fact 0 rfl) .nil)) rfl fun x61=>qkMove rfl<|aB (bF rfl rfl) rfl<|aB (bF rfl rfl) rfl<|qkAsg rfl<|qkAsg rfl<|dtN<|sqR<|qkMove rfl<|qkAsg rfl<|dtN<|aS<|bK<|aJ ?_
  cases h
  exact lP rfl
 refine cU<|inT<|aL<|sqR<|qkMove rfl<|aB (b_ rfl (aC.fact 0 rfl) rfl) rfl<|qkEql rfl<|dtN ?_
 refine eL h rfl (fun h=>?_) fun h=>?_
 ·refine sqR<|qkAsg rfl<|dtN<|aS<|aJ ?_
  cases h
  exact lP rfl
 refine iV<|sqR<|qkMove rfl ?_
 have⟨j63,h⟩:=aH h
 refine aB (a_ rfl rfl (aC.fact 0 rfl) rfl rfl j63) rfl<|aB (bS rfl (aC.fact 0 rfl) rfl rfl rfl dB j63) rfl<|qkAsg rfl<|dtN<|aS ?_
 cases h
 exact lP rfl
end Go.Proofs.YtigggfnchamobaaGreatDoor
end
section
namespace Go.Proofs.YtigggfnchamobaaGreatDoor
open Go.Sx
def lT  (a17:Int×Int):Option (Int×Int):=
 some (a17.1,a17.2)
def gF (fuel:Nat) (p0:((ByteArray×(List (ByteArray×Int×Int×Int×Int×Int))×(List (ByteArray×(Value×List (Int×Int))×(Value×List (Int×(Value×List (Int×Int)))))))×(List (Int)×(List (List (Int×Int))))×Int×List (List (Int)))×List (List (Int))×Int×(List (Int×Int))) (p1:Int) (a23:Int×List (Int)) (a26:Int):Option (Int×Int):=
 ck (0<=(List.length (at' p0.1.2.1.2 p0.2.2.1):Int)∧(List.length (at' p0.1.2.1.2 p0.2.2.1):Int)<=((24:Nat):Int)∧(List.length (at' p0.1.2.1.2 p0.2.2.1):Int)<=(List.length a23.2:Int)) (Option.bind (vR fuel ((at' p0.2.2.2 p1).1) (List.take (Int.toNat (List.length (at' p0.1.2.1.2 p0.2.2.1):Int)) a23.2)) fun r29=>(lT  (r29,a26)))
def lU (fuel:Nat) (p0:((ByteArray×(List (ByteArray×Int×Int×Int×Int×Int))×(List (ByteArray×(Value×List (Int×Int))×(Value×List (Int×(Value×List (Int×Int)))))))×(List (Int)×(List (List (Int×Int))))×Int×List (List (Int)))×List (List (Int))×Int×(List (Int×Int))) (p1:Int) (a23:Int×List (Int)):Option (Int×Int):=
 if(List.length (at' p0.1.2.1.2 p0.2.2.1):Int)=(0:Int)then(Option.bind (wY fuel p0.2.2.2 p1) fun r33=>(gF fuel p0 p1 a23 (r33)))else(gF fuel p0 p1 a23 (a23.1))
def gG (fuel:Nat) (p0:((ByteArray×(List (ByteArray×Int×Int×Int×Int×Int))×(List (ByteArray×(Value×List (Int×Int))×(Value×List (Int×(Value×List (Int×Int)))))))×(List (Int)×(List (List (Int×Int))))×Int×List (List (Int)))×List (List (Int))×Int×(List (Int×Int))) (p1:Int) (rc:(((ByteArray×(List (ByteArray×Int×Int×Int×Int×Int))×(List (ByteArray×(Value×List (Int×Int))×(Value×List (Int×(Value×List (Int×Int)))))))×(List (Int)×(List (List (Int×Int))))×Int×List (List (Int)))×List (List (Int))×Int×(List (Int×Int)))->Int->Int->Option (Int×Int)) (a40:Int×Int×List (Int)) (ag39:(Int×Int×List (Int))->Option (Int×Int)):Option (Int×Int):=
 if a40.2.1<(List.length (at' p0.1.2.1.2 p0.2.2.1):Int)then(Option.bind (rc ((((((p0.1.1.1,p0.1.1.2.1,p0.1.1.2.2)),((p0.1.2.1.1,p0.1.2.1.2)),p0.1.2.2.1,p0.1.2.2.2)),p0.2.1,p0.2.2.1,p0.2.2.2)) (wI .i64 (p1+(1:Int))) a40.2.1) fun r44=>(ck ((0<=a40.2.1∧a40.2.1<((24:Nat):Int))∧List.length a40.2.2=24) (ag39 (r44.2,(wI .i64 (a40.2.1+(1:Int))),(List.set a40.2.2 (Int.toNat a40.2.1) r44.1)))))else(lU fuel p0 p1 (a40.1,a40.2.2))
def cC (rc:(((ByteArray×(List (ByteArray×Int×Int×Int×Int×Int))×(List (ByteArray×(Value×List (Int×Int))×(Value×List (Int×(Value×List (Int×Int)))))))×(List (Int)×(List (List (Int×Int))))×Int×List (List (Int)))×List (List (Int))×Int×(List (Int×Int)))->Int->Int->Option (Int×Int)) (fuel:Nat) (p0:((ByteArray×(List (ByteArray×Int×Int×Int×Int×Int))×(List (ByteArray×(Value×List (Int×Int))×(Value×List (Int×(Value×List (Int×Int)))))))×(List (Int)×(List (List (Int×Int))))×Int×List (List (Int)))×List (List (Int))×Int×(List (Int×Int))) (p1:Int) (p2:Int):Option (Int×Int):=
 ck (0<=p1∧p1<(List.length p0.2.2.2:Int)) (if((at' p0.2.2.2 p1).1)<=(17:Int)then(Option.bind (iH fuel ((((((p0.1.1.1,p0.1.1.2.1,p0.1.1.2.2)),((p0.1.2.1.1,p0.1.2.1.2)),p0.1.2.2.1,p0.1.2.2.2)),p0.2.1,p0.2.2.1,p0.2.2.2)) ((((at' p0.2.2.2 p1).1),((at' p0.2.2.2 p1).2))) p2) fun r4=>(some (r4,(wI .i64 (p1+(1:Int))))))else(if((at' p0.2.2.2 p1).1)<=(19:Int)then(Option.bind (rc ((((((p0.1.1.1,p0.1.1.2.1,p0.1.1.2.2)),((p0.1.2.1.1,p0.1.2.1.2)),p0.1.2.2.1,p0.1.2.2.2)),p0.2.1,p0.2.2.1,p0.2.2.2)) (wI .i64 (p1+(1:Int))) p2) fun r8=>(Option.bind (uD fuel ((at' p0.2.2.2 p1).1) r8.1) fun r11=>(some (r11,r8.2))))else(if((at' p0.2.2.2 p1).1)<=(29:Int)then(ck (0<=p0.2.2.1∧p0.2.2.1<(List.length p0.1.2.1.2:Int)) (bG (gG fuel p0 p1 rc) fuel ((0:Int),(0:Int),(List.replicate 24 (0:Int)))))else(if((at' p0.2.2.2 p1).1)<=(42:Int)then(Option.bind (rc ((((((p0.1.1.1,p0.1.1.2.1,p0.1.1.2.2)),((p0.1.2.1.1,p0.1.2.1.2)),p0.1.2.2.1,p0.1.2.2.2)),p0.2.1,p0.2.2.1,p0.2.2.2)) (wI .i64 (p1+(1:Int))) p2) fun r49=>(Option.bind (rc ((((((p0.1.1.1,p0.1.1.2.1,p0.1.1.2.2)),((p0.1.2.1.1,p0.1.2.1.2)),p0.1.2.2.1,p0.1.2.2.2)),p0.2.1,p0.2.2.1,p0.2.2.2)) r49.2 p2) fun r52=>(Option.bind (rU fuel ((at' p0.2.2.2 p1).1) r49.1 r52.1) fun r55=>(some (r55,r52.2)))))else(Option.bind (rc ((((((p0.1.1.1,p0.1.1.2.1,p0.1.1.2.2)),((p0.1.2.1.1,p0.1.2.1.2)),p0.1.2.2.1,p0.1.2.2.2)),p0.2.1,p0.2.2.1,p0.2.2.2)) (wI .i64 (p1+(1:Int))) p2) fun r58=>(Option.bind (rc ((((((p0.1.1.1,p0.1.1.2.1,p0.1.1.2.2)),((p0.1.2.1.1,p0.1.2.1.2)),p0.1.2.2.1,p0.1.2.2.2)),p0.2.1,p0.2.2.1,p0.2.2.2)) r58.2 p2) fun r61=>(Option.bind (rc ((((((p0.1.1.1,p0.1.1.2.1,p0.1.1.2.2)),((p0.1.2.1.1,p0.1.2.1.2)),p0.1.2.2.1,p0.1.2.2.2)),p0.2.1,p0.2.2.1,p0.2.2.2)) r61.2 p2) fun r64=>(if r58.1≠(0:Int)then(some (r61.1,r64.2))else(some (r64.1,r64.2))))))))))
def bN:Nat->(((ByteArray×(List (ByteArray×Int×Int×Int×Int×Int))×(List (ByteArray×(Value×List (Int×Int))×(Value×List (Int×(Value×List (Int×Int)))))))×(List (Int)×(List (List (Int×Int))))×Int×List (List (Int)))×List (List (Int))×Int×(List (Int×Int)))->Int->Int->Option (Int×Int)
 |0,_,_,_=>none
 |fuel+1,p0,p1,p2=>cC (bN fuel) fuel p0 p1 p2
theorem xU:aR Tryz.prog 161:=Tryz.call161
theorem zY (rc:(((ByteArray×(List (ByteArray×Int×Int×Int×Int×Int))×(List (ByteArray×(Value×List (Int×Int))×(Value×List (Int×(Value×List (Int×Int)))))))×(List (Int)×(List (List (Int×Int))))×Int×List (List (Int)))×List (List (Int))×Int×(List (Int×Int)))->Int->Int->Option (Int×Int)) (fuel:Nat) (hrc:∀{p0:((ByteArray×(List (ByteArray×Int×Int×Int×Int×Int))×(List (ByteArray×(Value×List (Int×Int))×(Value×List (Int×(Value×List (Int×Int)))))))×(List (Int)×(List (List (Int×Int))))×Int×List (List (Int)))×List (List (Int))×Int×(List (Int×Int))} {p1:Int} {p2:Int} (bx0:Nat)  (bx1:Nat)  (v2:Value)  (v3:Value)  (v4:Value)  (v5:Value)  (z6:List (Value×List (Int×Int)))  (v7:Value)  (z8:List (Value×List (Int)))  (v9:Value)  (z10:List (Value×List (Int)))  (v11:Value) (r:Int×Int),rc p0 p1 p2=some r->aV Tryz.prog 161 #[vP bx0,vI (p1),vI (p2)] [bO bx0 [vP bx1,v9,vI (p0.2.2.1),v11] 218,bO bx1 [Value.string (p0.1.1.1),v2,v3,v4,v5,vI (p0.1.2.2.1),v7] 178,Sl aP v2 p0.1.1.2.1,Sl aI v3 p0.1.1.2.2,Sl bM v4 p0.1.2.1.1,S2 aZ v5 z6 p0.1.2.1.2,S2 bM v7 z8 p0.1.2.2.2,S2 bM v9 z10 p0.2.1,Sl aZ v11 p0.2.2.2] (fun x:Unit=>Value.tuple #[vI (r.1),vI (r.2)]) (fun x l=>l) (fun _ l=>l)) {p0:((ByteArray×(List (ByteArray×Int×Int×Int×Int×Int))×(List (ByteArray×(Value×List (Int×Int))×(Value×List (Int×(Value×List (Int×Int)))))))×(List (Int)×(List (List (Int×Int))))×Int×List (List (Int)))×List (List (Int))×Int×(List (Int×Int))} {p1:Int} {p2:Int} (bx0:Nat)  (bx1:Nat)  (v2:Value)  (v3:Value)  (v4:Value)  (v5:Value)  (z6:List (Value×List (Int×Int)))  (v7:Value)  (z8:List (Value×List (Int)))  (v9:Value)  (z10:List (Value×List (Int)))  (v11:Value) (r:Int×Int) (h:cC rc fuel p0 p1 p2=some r):
  aV Tryz.prog 161 #[vP bx0,vI (p1),vI (p2)] [bO bx0 [vP bx1,v9,vI (p0.2.2.1),v11] 218,bO bx1 [Value.string (p0.1.1.1),v2,v3,v4,v5,vI (p0.1.2.2.1),v7] 178,Sl aP v2 p0.1.1.2.1,Sl aI v3 p0.1.1.2.2,Sl bM v4 p0.1.2.1.1,S2 aZ v5 z6 p0.1.2.1.2,S2 bM v7 z8 p0.1.2.2.2,S2 bM v9 z10 p0.2.1,Sl aZ v11 p0.2.2.2] (fun x:Unit=>Value.tuple #[vI (r.1),vI (r.2)]) (fun x l=>l) (fun _ l=>l):=by
 refine aV.of Tryz.func161 rfl Tryz.ntmps161 rfl fun c=>?_
 unfold cC at h
 refine sqR<|qkAsg rfl<|qkAsg rfl<|dtN<|sqR<|qkMove rfl<|aB (bQ rfl) rfl<|qkFld rfl<|aB (dG rfl (aC.fact 0 rfl) rfl rfl rfl) rfl<|qkMove rfl ?_
 have⟨j1,h⟩:=aH h
 refine aB (a_ rfl rfl (aC.fact 8 rfl) rfl rfl j1) rfl<|aB (fZ (cs:=[vI ((at' p0.2.2.2 p1).1),vI ((at' p0.2.2.2 p1).2)]) rfl (aC.fact 8 rfl) bJ rfl rfl rfl rfl j1) rfl<|aG (aM.alloc (cs:=[vI (0:Int),vI (0:Int)]) rfl rfl) rfl fun b2=>bI 0 (vs:=[vI ((at' p0.2.2.2 p1).1),vI ((at' p0.2.2.2 p1).2)]) rfl rfl rfl rfl rfl rfl<|dtN<|aL<|aQ<|sqR<|qkFld rfl<|qkLd 0 rfl<|aB (Ai rfl rfl) rfl<|qkAsg rfl<|dtN ?_
 refine eL h rfl (fun h=>?_) fun h=>?_
 ·refine sqR<|qkMove rfl<|qkLdA 0 rfl<|qkMove rfl ?_
  have⟨r4,w5,h⟩:=fE h
  refine aG (aM.callQ TJ (BK fuel bx0 bx1 v2 v3 v4 v5 z6 v7 z8 v9 z10 v11 r4 w5) rfl (aA.cons (aC.fact 0 rfl) (aA.cons (aC.fact 1 rfl) (aA.cons (aC.fact 2 rfl) (aA.cons (aC.fact 3 rfl) (aA.cons (aC.fact 4 rfl) (aA.cons (aC.fact 5 rfl) (aA.cons (aC.fact 6 rfl) (aA.cons (aC.fact 7 rfl) (aA.cons (aC.fact 8 rfl) .nil)))))))))) rfl fun x6=>qkMove rfl<|qkAdd rfl<|qkAsg rfl<|qkAsg rfl<|dtN<|aS<|bK<|aJ ?_
  cases h
  exact jF () rfl rfl (RV.tmp rfl) (RV.tmp rfl) .nil aA.nil
 refine sqR<|qkFld rfl<|qkLd 0 rfl<|aB (Ai rfl rfl) rfl<|qkAsg rfl<|dtN ?_
 refine eL h rfl (fun h=>?_) fun h=>?_
 ·refine sqR<|qkMove rfl<|qkMove rfl<|qkAdd rfl<|qkMove rfl ?_
  have⟨r8,w9,h⟩:=fE h
  refine aG (aM.callQ xU (hrc bx0 bx1 v2 v3 v4 v5 z6 v7 z8 v9 z10 v11 r8 w9) rfl (aA.cons (aC.fact 0 rfl) (aA.cons (aC.fact 1 rfl) (aA.cons (aC.fact 2 rfl) (aA.cons (aC.fact 3 rfl) (aA.cons (aC.fact 4 rfl) (aA.cons (aC.fact 5 rfl) (aA.cons (aC.fact 6 rfl) (aA.cons (aC.fact 7 rfl) (aA.cons (aC.fact 8 rfl) .nil)))))))))) rfl fun x10=>qkMove rfl<|aB (bF rfl rfl) rfl<|aB (bF rfl rfl) rfl<|qkAsg rfl<|qkAsg rfl<|dtN<|sqR<|qkFld rfl<|qkLd 0 rfl<|qkMove rfl ?_
  have⟨r11,w12,h⟩:=fE h
  refine aG (aM.callQ TK (Jb fuel  r11 w12) rfl .nil) rfl fun x13=>qkMove rfl<|qkAsg rfl<|qkAsg rfl<|dtN<|aS<|bK<|aJ ?_
  cases h
  exact jF () rfl rfl (RV.tmp rfl) (RV.tmp rfl) .nil aA.nil
 refine sqR<|qkFld rfl<|qkLd 0 rfl<|aB (Ai rfl rfl) rfl<|qkAsg rfl<|dtN ?_
 refine eL h rfl (fun h=>?_) fun h=>?_
 ·refine sqR<|qkMove rfl<|qkFld rfl<|qkLd 0 rfl<|qkMove rfl<|yA (A:=Int×Int) (B:=Unit) (vs:=[vP bx0,vI ((at' p0.2.2.2 p1).1),vI (p1)]) (fun a17=>lT  a17=some r) (fun a17 b18=>Value.tuple #[vI (a17.1),vI (a17.2)]) (fun a17 b18=>[]) (fun a17 b18=>[bO bx0 [vP bx1,v9,vI (p0.2.2.1),v11] 218,bO bx1 [Value.string (p0.1.1.1),v2,v3,v4,v5,vI (p0.1.2.2.1),v7] 178,Sl aP v2 p0.1.1.2.1,Sl aI v3 p0.1.1.2.2,Sl bM v4 p0.1.2.1.1,S2 aZ v5 z6 p0.1.2.1.2,S2 bM v7 z8 p0.1.2.2.2,S2 bM v9 z10 p0.2.1,Sl aZ v11 p0.2.2.2]) (tO.fn (show aR Tryz.prog 169 from Tryz.call169) rfl) Tryz.func169 rfl Tryz.ntmps169 rfl rfl ?_ ?_
  ·refine sqR<|qkAsg rfl<|qkAsg rfl<|dtN<|sqR ?_
   refine aG (aM.alloc (cs:=cellsOf bY (List.replicate 24 (0:Int))) rfl (by kernel_rfl)) rfl fun b19=>?_
   refine dtN<|aL ?_
   refine JR.start [0,1,3,7,15,31,63,127,0,256,768,1792,4095,8191,16383,32767] 12 mixedOrders (by decide +kernel) ?_
   refine JR.open (by exact rfl) ?_
   refine jkMove rfl<|aN rfl .nil .nil (bQ rfl) aD.z<|jkFld rfl<|aN rfl .nil (cV.cons (List.mem_of_getElem? (i:=0) rfl) .nil) (dG rfl (aC.fact 0 rfl) rfl rfl rfl) aD.z<|aN rfl .nil .nil (bQ rfl) aD.z<|jkFld rfl<|jkFld rfl<|aN rfl .nil (cV.cons (List.mem_of_getElem? (i:=1) rfl) .nil) (dG rfl (aC.fact 0 rfl) rfl rfl rfl) aD.z<|jkMove rfl<|aN rfl .nil .nil (bQ rfl) aD.z<|jkFld rfl<|aN rfl .nil (cV.cons (List.mem_of_getElem? (i:=0) rfl) .nil) (dG rfl (aC.fact 0 rfl) rfl rfl rfl) aD.z<|bL 12 rfl rfl ?_
   have⟨j20,h⟩:=aH h
   refine aB (cO rfl rfl (aC.fact 5 rfl) rfl rfl j20) rfl<|aB (cM rfl (aC.fact 5 rfl) rfl rfl j20) rfl<|aB (b_ rfl (aC.el (aC.fact 5 rfl) j20.1 j20.2) rfl) rfl<|qkAsg rfl<|dtN<|aL<|midU (fun a23=>lU fuel p0 p1 a23=some r) (fun a23 b24=>[(0,vP bx0),(1,vI ((at' p0.2.2.2 p1).1)),(2,vI (p1)),(7,vI (a23.1)),(8,vP b19),(9,vI (List.length (at' p0.1.2.1.2 p0.2.2.1):Int))]) (fun a23 b24=>[bO b19 (cellsOf bY a23.2) 227]) ?_ ?_
   ·refine sqR<|qkMove rfl<|qkMove rfl<|dtN<|aQ<|loopL (gG fuel p0 p1 rc) (fun a40 b41=>[(0,vP bx0),(1,vI ((at' p0.2.2.2 p1).1)),(2,vI (p1)),(7,vI (a40.1)),(8,vP b19),(9,vI (List.length (at' p0.1.2.1.2 p0.2.2.1):Int)),(26,vI (List.length (at' p0.1.2.1.2 p0.2.2.1):Int)),(27,vI (a40.2.1))]) (fun a40 b41=>[bO b19 (cellsOf bY a40.2.2) 227]) ((0:Int),(0:Int),(List.replicate 24 (0:Int))) () h SF (aK.ix [0] rfl rfl) ?_
    clear h
    intro k42 a40 b41 h
    unfold gG at h
    refine sqR<|qkLss rfl<|dtN<|aL ?_
    refine eL h rfl (fun h=>?_) fun h=>?_
    ·refine iV<|aL<|aQ<|sqR<|qkMove rfl<|qkAsg rfl<|dtN<|aO<|qkMove rfl<|qkMove rfl<|qkMove rfl<|qkAdd rfl<|qkMove rfl ?_
     have⟨r44,w45,h⟩:=fE h
     refine aG (aM.callQ xU (hrc bx0 bx1 v2 v3 v4 v5 z6 v7 z8 v9 z10 v11 r44 w45) rfl (aA.cons (aC.fact 0 rfl) (aA.cons (aC.fact 1 rfl) (aA.cons (aC.fact 2 rfl) (aA.cons (aC.fact 3 rfl) (aA.cons (aC.fact 4 rfl) (aA.cons (aC.fact 5 rfl) (aA.cons (aC.fact 6 rfl) (aA.cons (aC.fact 7 rfl) (aA.cons (aC.fact 8 rfl) .nil)))))))))) rfl fun x46=>qkMove rfl<|aB (bF rfl rfl) rfl<|aB (bF rfl rfl) rfl ?_
     have⟨j47,h⟩:=aH h
     refine aB (mS rfl rfl rfl rfl rfl j47.1) rfl<|Fg 0 (e:=bY) r44.1 j47 rfl rfl rfl rfl rfl rfl rfl<|qkAsg rfl<|dY<|inT<|aO<|qkAdd rfl<|qkMove rfl<|dtN ?_
     exact xK (r44.2,(wI .i64 (a40.2.1+(1:Int))),(List.set a40.2.2 (Int.toNat a40.2.1) r44.1)) () h SF rfl
    refine xO ?_
    exact iJ (a40.1,a40.2.2) () h SF rfl
   clear h
   intro a23 b24 h
   unfold lU at h
   refine aL<|midU (fun a26=>gF fuel p0 p1 a23 a26=some r) (fun a26 b27=>[(1,vI ((at' p0.2.2.2 p1).1)),(7,vI (a26)),(8,vP b19),(9,vI (List.length (at' p0.1.2.1.2 p0.2.2.1):Int))]) (fun a26 b27=>[bO b19 (cellsOf bY a23.2) 227]) ?_ ?_
   ·refine sqR<|qkMove rfl<|qkEql rfl<|dtN ?_
    refine eL h rfl (fun h=>?_) fun h=>?_
    ·refine aO<|qkMove rfl<|aB (bQ rfl) rfl<|qkFld rfl<|aB (dG rfl (aC.fact 0 rfl) rfl rfl rfl) rfl<|qkMove rfl ?_
     have⟨r33,w34,h⟩:=fE h
     refine aG (aM.callQ Tv (Mu fuel v11 r33 w34) rfl (aA.cons (aC.fact 8 rfl) .nil)) rfl fun x35=>qkAsg rfl<|dtN ?_
     exact iJ (r33) () h SF rfl
    refine iV ?_
    exact iJ (a23.1) () h SF rfl
   clear h
   intro a26 b27 h
   unfold gF at h
   refine sqR<|qkMove rfl<|qkMove rfl ?_
   have⟨j28,h⟩:=aH h
   refine aB (LA rfl rfl rfl rfl j28) rfl ?_
   have⟨r29,w30,h⟩:=fE h
   refine aG (aM.callQ TN (KL fuel (Value.slice (some ⟨b19,0,none⟩) (Int.toNat (List.length (at' p0.1.2.1.2 p0.2.2.1):Int)) 24) r29 w30) rfl (aA.cons (PG (i:=0) rfl cI j28 (by decide)) .nil)) rfl fun x31=>?_
   refine qkMove rfl<|qkAsg rfl<|qkAsg rfl<|dtN<|aS ?_
   exact uR (r29,a26) () h (.inl rfl) (CI.r2 rfl (RV.tmp rfl) (RV.tmp rfl)) rfl .nil (aA.refl _ _)
  clear h
  intro a17 b18 h
  unfold lT at h
  refine aB (bF rfl rfl) rfl<|aB (bF rfl rfl) rfl<|qkAsg rfl<|qkAsg rfl<|dtN<|aS<|bK<|aJ ?_
  cases h
  exact jF () rfl rfl (RV.tmp rfl) (RV.tmp rfl) (aK.refl _) aA.nil
 refine sqR<|qkFld rfl<|qkLd 0 rfl<|aB (Ai rfl rfl) rfl<|qkAsg rfl<|dtN ?_
 refine eL h rfl (fun h=>?_) fun h=>?_
 ·refine sqR<|qkMove rfl<|qkMove rfl<|qkAdd rfl<|qkMove rfl ?_
  have⟨r49,w50,h⟩:=fE h
  refine aG (aM.callQ xU (hrc bx0 bx1 v2 v3 v4 v5 z6 v7 z8 v9 z10 v11 r49 w50) rfl (aA.cons (aC.fact 0 rfl) (aA.cons (aC.fact 1 rfl) (aA.cons (aC.fact 2 rfl) (aA.cons (aC.fact 3 rfl) (aA.cons (aC.fact 4 rfl) (aA.cons (aC.fact 5 rfl) (aA.cons (aC.fact 6 rfl) (aA.cons (aC.fact 7 rfl) (aA.cons (aC.fact 8 rfl) .nil)))))))))) rfl fun x51=>qkMove rfl<|aB (bF rfl rfl) rfl<|aB (bF rfl rfl) rfl<|qkAsg rfl<|qkAsg rfl<|dtN<|sqR<|qkMove rfl<|qkMove rfl<|qkMove rfl ?_
  have⟨r52,w53,h⟩:=fE h
  refine aG (aM.callQ xU (hrc bx0 bx1 v2 v3 v4 v5 z6 v7 z8 v9 z10 v11 r52 w53) rfl (aA.cons (aC.fact 0 rfl) (aA.cons (aC.fact 1 rfl) (aA.cons (aC.fact 2 rfl) (aA.cons (aC.fact 3 rfl) (aA.cons (aC.fact 4 rfl) (aA.cons (aC.fact 5 rfl) (aA.cons (aC.fact 6 rfl) (aA.cons (aC.fact 7 rfl) (aA.cons (aC.fact 8 rfl) .nil)))))))))) rfl fun x54=>qkMove rfl<|aB (bF rfl rfl) rfl<|aB (bF rfl rfl) rfl<|qkAsg rfl<|qkAsg rfl<|dtN<|sqR<|qkFld rfl<|qkLd 0 rfl<|qkMove rfl<|qkMove rfl ?_
  have⟨r55,w56,h⟩:=fE h
  refine aG (aM.callQ TL (GY fuel  r55 w56) rfl .nil) rfl fun x57=>qkMove rfl<|qkAsg rfl<|qkAsg rfl<|dtN<|aS<|bK<|aJ ?_
  cases h
  exact jF () rfl rfl (RV.tmp rfl) (RV.tmp rfl) .nil aA.nil
 refine cU<|inT<|sqR<|qkMove rfl<|qkMove rfl<|qkAdd rfl<|qkMove rfl ?_
 have⟨r58,w59,h⟩:=fE h
 refine aG (aM.callQ xU (hrc bx0 bx1 v2 v3 v4 v5 z6 v7 z8 v9 z10 v11 r58 w59) rfl (aA.cons (aC.fact 0 rfl) (aA.cons (aC.fact 1 rfl) (aA.cons (aC.fact 2 rfl) (aA.cons (aC.fact 3 rfl) (aA.cons (aC.fact 4 rfl) (aA.cons (aC.fact 5 rfl) (aA.cons (aC.fact 6 rfl) (aA.cons (aC.fact 7 rfl) (aA.cons (aC.fact 8 rfl) .nil)))))))))) rfl fun x60=>qkMove rfl<|aB (bF rfl rfl) rfl<|aB (bF rfl rfl) rfl<|qkAsg rfl<|qkAsg rfl<|dtN<|sqR<|qkMove rfl<|qkMove rfl<|qkMove rfl ?_
 have⟨r61,w62,h⟩:=fE h
 refine aG (aM.callQ xU (hrc bx0 bx1 v2 v3 v4 v5 z6 v7 z8 v9 z10 v11 r61 w62) rfl (aA.cons (aC.fact 0 rfl) (aA.cons (aC.fact 1 rfl) (aA.cons (aC.fact 2 rfl) (aA.cons (aC.fact 3 rfl) (aA.cons (aC.fact 4 rfl) (aA.cons (aC.fact 5 rfl) (aA.cons (aC.fact 6 rfl) (aA.cons (aC.fact 7 rfl) (aA.cons (aC.fact 8 rfl) .nil)))))))))) rfl fun x63=>qkMove rfl<|aB (bF rfl rfl) rfl<|aB (bF rfl rfl) rfl<|qkAsg rfl<|qkAsg rfl<|dtN<|sqR<|qkMove rfl<|qkMove rfl<|qkMove rfl ?_
 have⟨r64,w65,h⟩:=fE h
 refine aG (aM.callQ xU (hrc bx0 bx1 v2 v3 v4 v5 z6 v7 z8 v9 z10 v11 r64 w65) rfl (aA.cons (aC.fact 0 rfl) (aA.cons (aC.fact 1 rfl) (aA.cons (aC.fact 2 rfl) (aA.cons (aC.fact 3 rfl) (aA.cons (aC.fact 4 rfl) (aA.cons (aC.fact 5 rfl) (aA.cons (aC.fact 6 rfl) (aA.cons (aC.fact 7 rfl) (aA.cons (aC.fact 8 rfl) .nil)))))))))) rfl fun x66=>qkMove rfl<|aB (bF rfl rfl) rfl<|aB (bF rfl rfl) rfl<|qkAsg rfl<|qkAsg rfl<|dtN<|aL<|sqR<|qkMove rfl<|aB (kR rfl rfl) rfl<|dtN ?_
 refine eL h rfl (fun h=>?_) fun h=>?_
 ·refine sqR<|qkMove rfl<|qkMove rfl<|qkAsg rfl<|qkAsg rfl<|dtN<|aS<|aJ ?_
  cases h
  exact jF () rfl rfl (RV.tmp rfl) (RV.tmp rfl) .nil aA.nil
 refine iV<|sqR<|qkMove rfl<|qkMove rfl<|qkAsg rfl<|qkAsg rfl<|dtN<|aS ?_
 cases h
 exact jF () rfl rfl (RV.tmp rfl) (RV.tmp rfl) .nil aA.nil
theorem AW (fuel:Nat):∀{p0:((ByteArray×(List (ByteArray×Int×Int×Int×Int×Int))×(List (ByteArray×(Value×List (Int×Int))×(Value×List (Int×(Value×List (Int×Int)))))))×(List (Int)×(List (List (Int×Int))))×Int×List (List (Int)))×List (List (Int))×Int×(List (Int×Int))} {p1:Int} {p2:Int} (bx0:Nat)  (bx1:Nat)  (v2:Value)  (v3:Value)  (v4:Value)  (v5:Value)  (z6:List (Value×List (Int×Int)))  (v7:Value)  (z8:List (Value×List (Int)))  (v9:Value)  (z10:List (Value×List (Int)))  (v11:Value) (r:Int×Int),bN fuel p0 p1 p2=some r->
  aV Tryz.prog 161 #[vP bx0,vI (p1),vI (p2)] [bO bx0 [vP bx1,v9,vI (p0.2.2.1),v11] 218,bO bx1 [Value.string (p0.1.1.1),v2,v3,v4,v5,vI (p0.1.2.2.1),v7] 178,Sl aP v2 p0.1.1.2.1,Sl aI v3 p0.1.1.2.2,Sl bM v4 p0.1.2.1.1,S2 aZ v5 z6 p0.1.2.1.2,S2 bM v7 z8 p0.1.2.2.2,S2 bM v9 z10 p0.2.1,Sl aZ v11 p0.2.2.2] (fun x:Unit=>Value.tuple #[vI (r.1),vI (r.2)]) (fun x l=>l) (fun _ l=>l):=by
 induction fuel with
 |zero=>intros;rename_i h;cases h
 |succ fuel ih=>exact fun bx0 bx1 v2 v3 v4 v5 z6 v7 z8 v9 z10 v11 r h=>zY (bN fuel) fuel ih bx0 bx1 v2 v3 v4 v5 z6 v7 z8 v9 z10 v11 r h
end Go.Proofs.YtigggfnchamobaaGreatDoor
end
