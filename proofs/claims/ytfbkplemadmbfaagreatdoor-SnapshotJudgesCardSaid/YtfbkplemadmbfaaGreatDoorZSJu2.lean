/- Models of functions with their proofs, by program (gen/xt.py), and plain laws, in one text. Conditions: none. -/
import Derived.Test.YtfbkplemadmbfaaGreatDoorZSJu1
import Derived.Maps.RangeRun
set_option linter.unusedVariables false
set_option linter.unusedSimpArgs false
set_option maxHeartbeats 4000000
set_option maxRecDepth 20000
section
set_option linter.unusedSectionVars false
namespace Go.Sx
open Go.RowKit
section defs
variable {κ ν:Type} [DecidableEq κ]
def mpL (ek:κ->Value) (ev:ν->Value):Nat->List (κ×ν)->List MapEntry
 |_,[]=>[]
 |i,x::xs=>⟨ek x.1,ev x.2,i⟩::mpL ek ev (i+1) xs
def mget (k:κ):List (κ×ν)->Option ν
 | []=>none
 |x::xs=>if k=x.1 then some x.2 else mget k xs
def mset (k:κ) (v:ν):List (κ×ν)->List (κ×ν)
 | []=>[(k,v)]
 |x::xs=>if k=x.1 then(k,v)::xs else x::mset k v xs
def fnd (ev:ν->Value) (k:κ):Nat->List (κ×ν)->Option (Nat×Value)
 |_,[]=>none
 |i,x::xs=>if k=x.1 then some (i,ev x.2)else fnd ev k (i+1) xs
theorem fnd_get (ev:ν->Value) (k:κ):∀(i:Nat) (l:List (κ×ν)),(fnd ev k i l).map (·.2)=(mget k l).map ev
 |_,[]=>rfl
 |i,x::xs=>by
  simp only[fnd,mget]
  split
  ·rfl
  ·exact fnd_get ev k (i+1) xs
theorem mpL_append (ek:κ->Value) (ev:ν->Value):∀(i:Nat) (l:List (κ×ν)) (x:κ×ν),mpL ek ev i (l++[x])=mpL ek ev i l++[⟨ek x.1,ev x.2,i+l.length⟩]
 |i,[],x=>rfl
 |i,y::ys,x=>by
  simp only[List.cons_append,mpL,mpL_append ek ev (i+1) ys x,List.length_cons]
  rw[show i+1+ys.length=i+(ys.length+1) by omega]
theorem mset_none (k:κ) (v:ν):∀l:List (κ×ν),mget k l=none->mset k v l=l++[(k,v)]
 | [],_=>rfl
 | x :: xs, h => by
  simp only[mget]at h
  split at h
  ·cases h
  ·rename_i hne
   simp only[mset,if_neg hne,mset_none k v xs h,List.cons_append]
theorem fnd_set (ek:κ->Value) (ev:ν->Value) (k:κ) (v:ν):∀(i0 i:Nat) (l:List (κ×ν)) (j:Nat) (u:Value),fnd ev k i l=some (j,u)->
  i<=j∧((mpL ek ev i l)[j - i]?).map (·.key)=some (ek k)∧mpL ek ev i (mset k v l)=(mpL ek ev i l).modify (j - i) (fun e=>{e with key:=ek k,val:=ev v})∧(mset k v l).length=l.length
 |_,i,[],j,u,h=>by simp[fnd]at h
 | i0, i, x :: xs, j, u, h => by
  simp only[fnd]at h
  split at h
  ·rename_i he
   simp only[Option.some.injEq,Prod.mk.injEq]at h
   obtain⟨rfl,_⟩:=h
   simp[mpL,mset,he]
  ·rename_i hne
   obtain⟨h1,h2,h3,h4⟩:=fnd_set ek ev k v i0 (i+1) xs j u h
   have hj:j - i=(j - (i+1))+1:=by omega
   refine⟨by omega,?_,?_,?_⟩
   ·rw[hj];simpa [mpL]using h2
   ·simp only[mset,if_neg hne,mpL]
    rw[hj,List.modify_succ_cons,h3]
   ·simp[mset,hne,h4]
end defs
structure KeyOk (P:Program) (kt:TypeId) {κ:Type} [DecidableEq κ] (ek:κ->Value):Prop where
 chk:∀b k w,(Instr.checkKey b 10000 kt (ek k)).run P w = .ok () w
 find:∀{ν:Type} (ev:ν->Value) (k:κ) (l:List (κ×ν)) w,(Instr.findKey kt (ek k) (mpL ek ev 0 l)).run P w = .ok (fnd ev k 0 l) w
 same:∀k,Instr.sameBits 10000 (ek k) (ek k)=true
def Mp {κ ν:Type} (ek:κ->Value) (ev:ν->Value) (r:Nat) (l:List (κ×ν)):Fact where
 p w F:=F r∧w.heap[r]? = some (.map (mpL ek ev 0 l).toArray l.length)
 mono:=fun⟨h1,h2⟩ h=>by
  obtain⟨h3,h4⟩:=h r h1 (Array.getElem?_eq_some_iff.1 h2).1
  exact⟨h3,by rw[h4];exact h2⟩
section
variable {P:Program} {rd:Option Nat} {c:Ctx} {n:Sz} {σ:Fr} {M L:List Fact} {Q:Exit->Act->World->Prop} {ops:Array Oper} {rest:List Oper}
variable {d:Option Tmp} {ty:TypeId} {pos:String} {aft:Array Edge} {g:Option (Nat×Bool)}
theorem St.push {w:World} (t:St c M L w) (o:Obj) {m:Fact} (hm:m.p (w.alloc o) (fun k=>k=w.heap.size)):St c (m::M) L (w.alloc o):=by
 have e:Ext w (w.alloc o):=(Below.refl _ _).alloc (Nat.le_refl _) _
 obtain⟨ho,F,hF,hL⟩:=t
 have hb:∀k,k<w.heap.size->(w.alloc o).heap[k]? = w.heap[k]? := e.block
 refine⟨ho.trans e,fun i k=>match i with|0=>k=w.heap.size|i+1=>F i k,⟨?_,?_,?_⟩,fun f hf=> ?_⟩
 ·intro i m' hm'
  cases i with
  |zero=>simp at hm';subst hm';exact hm
  |succ i=>exact Fact.same (hF.res i m' (by simpa using hm')) (fun _ h=>h) (fun k _ hl=>hb k hl)
 ·intro i k hk
  cases i with
  |zero=>subst hk;exact⟨.inl ho.size,by simp⟩
  |succ i=>exact⟨(hF.rng i k hk).1,Nat.lt_of_lt_of_le (hF.rng i k hk).2 e.size⟩
 ·intro i j k hi hj
  cases i with
  |zero=>
   cases j with
   |zero=>rfl
   |succ j=>have:=(hF.rng j k hj).2;simp only at hi;omega
  |succ i=>
   cases j with
   |zero=>have:=(hF.rng i k hi).2;simp only at hj;omega
   |succ j=>exact congrArg (· + 1) (hF.dis i j k hi hj)
 ·exact f.mono (hL f hf) fun k hk hl=>⟨⟨hk.1,fun i hi=>by
   cases i with
   |zero=>simp only at hi;omega
   |succ i=>exact hk.2 i hi⟩,hb k hl⟩
variable {κ ν:Type} [DecidableEq κ] {ek:κ->Value} {ev:ν->Value}
theorem Loud.makeMap (ek:κ->Value) (ev:ν->Value) {T:TypeId}:Loud P c n σ M L ⟨d,.makeMap T none,ty,pos,aft,g⟩ (fun r:Nat=> .map (some r)) (fun r=>Mp ek ev r []::M) (fun _=>L):=fun a w s t=>by
 have hrun:(execOp a.eval ⟨d,.makeMap T none,ty,pos,aft,g⟩).run P w = .ok (.value (.map (some w.heap.size))) (w.alloc (.map #[] 0)):=by
  simp[execOp,Instr.makeMap]
 simp only[Oper.wp,hrun,Oper.upon]
 exact⟨w.heap.size,rfl,t.push _ ⟨rfl,heap_alloc_new w _⟩⟩
theorem run_lookup [Tab P] {T kt vt:TypeId} {s1 s2 s3 s4:Nat} {z zv:Value} {dv:TypeDesc} {w:World} {r:Nat} {l:List (κ×ν)} {F:Nat->Prop} (hk:KeyOk P kt ek) (hM:(Mp ek ev r l).p w F)
  (hT:Tab.tab P T=some ⟨.map kt vt,s1,s2,z⟩) (hV:Tab.tab P vt=some ⟨dv,s3,s4,zv⟩) (k:κ) (b:Bool):
  (Instr.lookup T (.map (some r)) (ek k) b).run P w = .ok (if b then .tuple #[((mget k l).map ev).getD zv,.bool (mget k l).isSome]else((mget k l).map ev).getD zv) w:=by
 have hg:(getObj r).run P w = .ok (.map (mpL ek ev 0 l).toArray l.length) w:=by
  simp[getObj,Sem.run,hM.2]
 have hf:=hk.find ev k l w
 have hfg:=fnd_get ev k 0 l
 simp only[Instr.lookup]
 simp[(Tab.ok hT).run_und w,hg,hk.chk,hf]
 cases hfd:fnd ev k 0 l with
 |none=>
  rw[hfd]at hfg
  have:mget k l=none:=by cases h:mget k l<;>simp[h]at hfg ⊢
  simp[this,(Tab.ok hV).run_zero w]
 | some x =>
  rw[hfd]at hfg
  obtain⟨v,hv,hx⟩:∃v,mget k l=some v∧ev v=x.2:=by
   cases h:mget k l with
   |none=>simp[h]at hfg
   |some v=>simp[h]at hfg;exact⟨v,rfl,hfg.symm⟩
  simp[hv,hx]
theorem Y.lookup [Tab P] (j:Nat) {T kt vt:TypeId} {s1 s2 s3 s4:Nat} {z zv:Value} {dv:TypeDesc} {x y:Operand} {r:Nat} {l:List (κ×ν)} (k:κ) {b:Bool} (hk:KeyOk P kt ek) (hx:Go.Sx.ev σ x=some (.map (some r))) (hy:Go.Sx.ev σ y=some (ek k)) (hf:M[j]? = some (Mp ek ev r l))
  (hT:Tab.tab P T=some ⟨.map kt vt,s1,s2,z⟩) (hV:Tab.tab P vt=some ⟨dv,s3,s4,zv⟩) {u:Value} (hu:((mget k l).map ev).getD zv=u):
  Y P c n σ M L ⟨d,.lookup T x y b,ty,pos,aft,g⟩ (if b then .tuple #[u,.bool (mget k l).isSome]else u):=fun a w s t=>by
 obtain⟨F,hF⟩:=t.res hf
 subst hu
 simp[execOp,s.eval hx,s.eval hy,run_lookup hk hF hT hV]
theorem run_setObj_map {w:World} {r:Nat} {es:Array MapEntry} {k:Nat} (h:w.heap[r]? = some (.map es k)) (o:Obj):(setObj r o).run P w = .ok () {w with heap:=w.heap.setIfInBounds r o}:=by
 simp[setObj,Sem.run,h]
theorem St.setMap {w:World} (t:St c M L w) {j r:Nat} {l l':List (κ×ν)} (hf:M[j]? = some (Mp ek ev r l)) (o:Obj) (ho:o = .map (mpL ek ev 0 l').toArray l'.length):
  St c (M.set j (Mp ek ev r l')) L {w with heap:=w.heap.setIfInBounds r o}:=
 t.upd hf rfl rfl rfl (by simp) fun F hF _=>⟨fun k _ hk=>by
   rw[Array.getElem?_setIfInBounds_ne (fun e=>hk (by subst e;exact hF.1))],F,⟨hF.1,by
    rw[Array.getElem?_setIfInBounds_self_of_lt (Array.getElem?_eq_some_iff.1 hF.2).1,ho]⟩,fun _ h=> .inl h⟩
theorem J.mapUpdate [Tab P] (j:Nat) {T kt vt:TypeId} {s1 s2:Nat} {z:Value} {x y v:Operand} {r:Nat} {l:List (κ×ν)} (k:κ) (nv:ν) (hk:KeyOk P kt ek) (hx:Go.Sx.ev σ x=some (.map (some r))) (hy:Go.Sx.ev σ y=some (ek k)) (hv:Go.Sx.ev σ v=some (ev nv)) (hf:M[j]? = some (Mp ek ev r l))
  (hT:Tab.tab P T=some ⟨.map kt vt,s1,s2,z⟩) (h:J c n σ (M.set j (Mp ek ev r (mset k nv l))) L (wpList P ops Q rest)):
  J c n σ M L (wpList P ops Q (⟨none,.mapUpdate T x y v,ty,pos,aft,none⟩::rest)):=fun a w s t=>by
 refine wpList_take rfl ?_
 obtain⟨F,hF⟩:=t.res hf
 have hg:(getObj r).run P w = .ok (.map (mpL ek ev 0 l).toArray l.length) w:=by
  simp[getObj,Sem.run,hF.2]
 have hfd:=hk.find ev k l w
 have hfg:=fnd_get ev k 0 l
 have hrun:∃o:Obj,(execOp a.eval ⟨none,.mapUpdate T x y v,ty,pos,aft,none⟩).run P w = .ok .skip {w with heap:=w.heap.setIfInBounds r o}∧o = .map (mpL ek ev 0 (mset k nv l)).toArray (mset k nv l).length:=by
  simp only[execOp,s.eval hx,s.eval hy,s.eval hv,Instr.mapUpdate]
  cases hfn:fnd ev k 0 l with
  |none=>
   rw[hfn]at hfg hfd
   have hn:mget k l=none:=by cases h:mget k l<;>simp[h]at hfg ⊢
   refine⟨.map (mpL ek ev 0 l++[(⟨ek k,ev nv,l.length⟩:MapEntry)]).toArray (l.length+1),by simp[(Tab.ok hT).run_und w,hg,hk.chk,hfd,run_setObj_map hF.2],?_⟩
   rw[mset_none k nv l hn,mpL_append];simp
  | some q =>
   obtain⟨i,u⟩:=q
   rw[hfn]at hfd
   obtain⟨_,h2,h3,h4⟩:=fnd_set ek ev k nv 0 0 l i u hfn
   rw[Nat.sub_zero]at h2 h3
   have hkey:(((mpL ek ev 0 l).toArray[i]?).map (·.key)).getD (ek k)=ek k:=by
    rw[List.getElem?_toArray,h2];rfl
   refine⟨.map ((mpL ek ev 0 l).toArray.modify i fun e=>{e with key:=ek k,val:=ev nv}) l.length,?_,?_⟩
   ·have hst:(Instr.keyThatStays (ek k) (ek k)).run P w = .ok (ek k) w:=by simp[Instr.keyThatStays,hk.same k]
    have hkey':(Option.map (fun x=>x.key) (mpL ek ev 0 l)[i]?).getD (ek k)=ek k:=by rw[h2];rfl
    simp[(Tab.ok hT).run_und w,hg,hk.chk,hfd,hkey',hst,run_setObj_map hF.2]
   ·rw[h3,h4];simp
 obtain⟨o,hr,ho⟩:=hrun
 simp only[Oper.wp,hr,Oper.upon]
 exact h _ _ s (t.setMap hf o ho)
end
end Go.Sx
end
section
set_option linter.unusedSectionVars false
namespace Go.Sx
open Go.RowKit Go.ChangeMaps
def It (b m len:Nat) (seen:List Nat):Fact where
 p w F:=F b∧w.heap[b]? = some (.mapIter (some m) len seen.toArray len)
 mono:=fun⟨h1,h2⟩ h=>by
  obtain⟨h3,h4⟩:=h b h1 (Array.getElem?_eq_some_iff.1 h2).1
  exact⟨h3,by rw[h4];exact h2⟩
section
variable {κ ν:Type} [DecidableEq κ] {ek:κ->Value} {ev:ν->Value} {R:Type}
theorem mpL_mem (ek:κ->Value) (ev:ν->Value):∀(k:Nat) (l:List (κ×ν)) (e:MapEntry),e∈mpL ek ev k l->∃i kv,l[i]? = some kv∧e=⟨ek kv.1,ev kv.2,k+i⟩
 |_,[],e,h=>by simp[mpL]at h
 | k, x :: xs, e, h => by
  rcases List.mem_cons.1 h with rfl|h
  ·exact⟨0,x,rfl,rfl⟩
  ·obtain⟨i,kv,h1,h2⟩:=mpL_mem ek ev (k+1) xs e h
   exact⟨i+1,kv,h1,by rw[h2,show k+1+i=k+(i+1) by omega]⟩
theorem mem_mpL (ek:κ->Value) (ev:ν->Value):∀(k:Nat) (l:List (κ×ν)) (i:Nat) (kv:κ×ν),l[i]? = some kv->(⟨ek kv.1,ev kv.2,k+i⟩:MapEntry)∈mpL ek ev k l
 |_,[],i,kv,h=>by simp at h
 |k,x::xs,0,kv,h=>by simp at h;subst h;exact List.mem_cons_self
 |k,x::xs,i+1,kv,h=>by
  have:=mem_mpL ek ev (k+1) xs i kv (by simpa using h)
  rw[show k+1+i=k+(i+1) by omega]at this
  exact List.mem_cons_of_mem _ this
theorem mpL_born (ek:κ->Value) (ev:ν->Value):∀(k:Nat) (l:List (κ×ν)),(mpL ek ev k l).map (·.born)=List.range' k l.length
 |_,[]=>rfl
 |k,x::xs=>by simp[mpL,mpL_born ek ev (k+1) xs,List.range'_succ]
def mrun (step:κ×ν->Option R->Option R) (K:Option R) (l:List (κ×ν)):Option R:=l.foldr step K
def rem (l:List (κ×ν)) (seen:List Nat):List (κ×ν):=((List.range l.length).filter (fun i=> !seen.contains i)).filterMap (fun i=>l[i]?)
theorem range_get:∀l:List (κ×ν),(List.range l.length).filterMap (fun i=>l[i]?)=l
 | []=>rfl
 |x::xs=>by
  rw[List.length_cons,List.range_succ_eq_map,List.filterMap_cons]
  simp only[List.getElem?_cons_zero,List.filterMap_map]
  congr 1
  have:=range_get xs
  simpa [Function.comp_def]using this
theorem rem_nil (l:List (κ×ν)):rem l []=l:=by
 unfold rem
 rw[List.filter_eq_self.2 (by simp),range_get]
theorem rem_pick {l:List (κ×ν)} {seen:List Nat} {i:Nat} {kv:κ×ν} (hi:l[i]? = some kv) (hs:i∉seen):∃l1 l2,rem l seen=l1++kv::l2∧rem l (seen++[i])=l1++l2:=by
 have hlt:=getElem?_lt hi
 have hmem:i∈(List.range l.length).filter (fun i=> !seen.contains i):=by simp[hlt,hs]
 obtain⟨A,B,hAB⟩:=List.append_of_mem hmem
 have hnd:((List.range l.length).filter (fun i=> !seen.contains i)).Nodup:=List.Pairwise.filter _ List.nodup_range
 rw[hAB]at hnd
 have hA:i∉A:=fun h=>by
  have:=(List.nodup_append.1 hnd).2.2 i h i List.mem_cons_self
  exact this rfl
 have hB:i∉B:=fun h=>by
  have:=(List.nodup_cons.1 (List.nodup_append.1 hnd).2.1).1
  exact this h
 refine⟨A.filterMap (fun i=>l[i]?),B.filterMap (fun i=>l[i]?),?_,?_⟩
 ·unfold rem
  rw[hAB,List.filterMap_append,List.filterMap_cons,hi]
 ·unfold rem
  have e:(List.range l.length).filter (fun j=> !(seen++[i]).contains j)=((List.range l.length).filter (fun j=> !seen.contains j)).filter (fun j=>decide (j≠i)):=by
   rw[List.filter_filter]
   apply List.filter_congr
   intro j _
   rw[Bool.eq_iff_iff]
   simp[and_comm]
  rw[e,hAB,List.filter_append,List.filter_cons]
  have fA:A.filter (fun j=>decide (j≠i))=A:=List.filter_eq_self.2 (fun j hj=>by simp;rintro rfl;exact hA hj)
  have fB:B.filter (fun j=>decide (j≠i))=B:=List.filter_eq_self.2 (fun j hj=>by simp;rintro rfl;exact hB hj)
  rw[fA,fB,List.filterMap_append.symm]
  simp
theorem mrun_pick {step:κ×ν->Option R->Option R} (hc:∀a b x,step a (step b x)=step b (step a x)) (K:Option R) (kv:κ×ν) (l2:List (κ×ν)):∀l1:List (κ×ν),mrun step K (l1++kv::l2)=step kv (mrun step K (l1++l2))
 | []=>rfl
 |x::xs=>by
  have:=mrun_pick hc K kv l2 xs
  unfold mrun at this ⊢
  rw[List.cons_append,List.cons_append,List.foldr_cons,List.foldr_cons,this,hc]
end
section
variable {P:Program} {rd:Option Nat} {c:Ctx} {n:Sz} {σ σ':Fr} {M L M' L':List Fact} {Q:Exit->Act->World->Prop} {ops:Array Oper} {rest:List Oper}
variable {d:Option Tmp} {ty:TypeId} {pos:String} {aft:Array Edge} {g:Option (Nat×Bool)}
variable {κ ν:Type} [DecidableEq κ] {ek:κ->Value} {ev:ν->Value} {R:Type}
theorem Loud.range [Tab P] (j:Nat) {T kt vt:TypeId} {s1 s2:Nat} {z:Value} {x:Operand} {m:Nat} {l:List (κ×ν)} (hx:Go.Sx.ev σ x=some (.map (some m))) (hf:M[j]? = some (Mp ek ev m l)) (hT:Tab.tab P T=some ⟨.map kt vt,s1,s2,z⟩):
  Loud P c n σ M L ⟨d,.range T x,ty,pos,aft,g⟩ (fun b:Nat=> .pointer (some ⟨b,0,none⟩)) (fun b=>It b m l.length []::M) (fun _=>L):=fun a w s t=>by
 obtain⟨F,hF⟩:=t.res hf
 have hrun:(execOp a.eval ⟨d,.range T x,ty,pos,aft,g⟩).run P w = .ok (.value (.pointer (some ⟨w.heap.size,0,none⟩))) (w.alloc (.mapIter (some m) l.length #[] l.length)):=by
  simp[execOp,s.eval hx,run_range_map w T kt vt m _ _ (Tab.ok hT).und hF.2]
 simp only[Oper.wp,hrun,Oper.upon]
 exact⟨w.heap.size,rfl,t.push _ ⟨rfl,heap_alloc_new w _⟩⟩
def nextVal (ek:κ->Value) (ev:ν->Value) (l:List (κ×ν)):Option Nat->Value
 |none=> .tuple #[.bool false]
 |some i=>match l[i]? with
  |some kv=> .tuple #[.bool true,ek kv.1,ev kv.2]
  |none=>undef
def nextIs (len:Nat) (seen:List Nat):Option Nat->Prop
 |none=>∀i,i<len->i∈seen
 |some i=>i<len∧i∉seen
def nextM (M:List Fact) (ji b m len:Nat) (seen:List Nat):Option Nat->List Fact
 |none=>M
 |some i=>M.set ji (It b m len (seen++[i]))
theorem St.pureL {w:World} {p:Prop} (hp:p) (t:St c M L w):St c M (Pure p::L) w:=by
 obtain⟨ho,F,hF,hL⟩:=t
 refine⟨ho,F,hF,fun f hf=> ?_⟩
 rcases List.mem_cons.1 hf with rfl|hf
 ·exact hp
 ·exact hL f hf
theorem Loud.next (jm ji:Nat) {x:Operand} {b m:Nat} {l:List (κ×ν)} {seen:List Nat} (hx:Go.Sx.ev σ x=some (.pointer (some ⟨b,0,none⟩))) (hf:M[jm]? = some (Mp ek ev m l)) (hi:M[ji]? = some (It b m l.length seen)):
  Loud P c n σ M L ⟨d,.next x false,ty,pos,aft,g⟩ (nextVal ek ev l) (nextM M ji b m l.length seen) (fun o=>Pure (nextIs l.length seen o)::L):=fun a w s t=>by
 obtain⟨F,hF⟩:=t.res hf
 obtain⟨G,hG⟩:=t.res hi
 have hold:∀e∈(mpL ek ev 0 l).toArray.toList,e.born<l.length:=fun e he=>by
  obtain⟨i,kv,h1,h2⟩:=mpL_mem ek ev 0 l e (by simpa using he)
  rw[h2];have:=getElem?_lt h1;simp;omega
 rcases run_next_at (P:=P) w ty b m l.length l.length seen.toArray (mpL ek ev 0 l).toArray l.length hG.2 hF.2 hold (Nat.le_refl _)with⟨h0,hr⟩|⟨e,he,w1,hw1,hr⟩
 ·have hrun:(execOp a.eval ⟨d,.next x false,ty,pos,aft,g⟩).run P w = .ok (.value (.tuple #[.bool false])) w:=by
   simp[execOp,s.eval hx,hr]
  simp only[Oper.wp,hrun,Oper.upon]
  refine⟨none,rfl,t.pureL fun i hi'=> ?_⟩
  obtain⟨kv,hkv⟩:∃kv,l[i]? = some kv:=⟨_,List.getElem?_eq_getElem hi'⟩
  have:=all_seen _ _ h0 _ (by simpa using mem_mpL ek ev 0 l i kv hkv)
  simpa using this
 ·have hml:=_root_.Go.mem_left he
  obtain⟨i,kv,h1,h2⟩:=mpL_mem ek ev 0 l e (by simpa using hml.1)
  subst h2
  rw[Nat.zero_add]at hr hml
  have hrun:(execOp a.eval ⟨d,.next x false,ty,pos,aft,g⟩).run P w = .ok (.value (.tuple #[.bool true,ek kv.1,ev kv.2])) (setBlock w1 b (.mapIter (some m) l.length (seen.toArray.push i) l.length)):=by
   simp[execOp,s.eval hx,hr]
  simp only[Oper.wp,hrun,Oper.upon]
  have t1:St c M L w1:=by
   rcases hw1 with rfl|rfl
   ·exact t
   ·exact t.ext ((Below.refl _ _).drew)
  refine⟨some i,by simp[nextVal,h1],St.pureL ⟨getElem?_lt h1,by simpa using hml.2⟩ ?_⟩
  refine t1.upd hi rfl rfl rfl (by simp[setBlock]) fun F hF _=>⟨fun k _ hk=> ?_,F,⟨hF.1,?_⟩,fun _ h=> .inl h⟩
  ·simp only[setBlock]
   rw[Array.getElem?_setIfInBounds_ne (fun e=>hk (by subst e;exact hF.1))]
  ·simp only[setBlock]
   rw[Array.getElem?_setIfInBounds_self_of_lt (Array.getElem?_eq_some_iff.1 hF.2).1]
   simp
theorem Loud.entry (jm ji:Nat) {x:Operand} {b m i:Nat} {l:List (κ×ν)} {seen:List Nat} {kv:κ×ν} (hkv:l[i]? = some kv) (hx:Go.Sx.ev σ x=some (.pointer (some ⟨b,0,none⟩))) (hf:M[jm]? = some (Mp ek ev m l)) (hi:M[ji]? = some (It b m l.length (seen++[i]))):
  Loud P c n σ M L ⟨d,.entry x,ty,pos,aft,g⟩ (fun _:Unit=> .tuple #[ek kv.1,ev kv.2]) (fun _=>M) (fun _=>L):=fun a w s t=>by
 obtain⟨F,hF⟩:=t.res hf
 obtain⟨G,hG⟩:=t.res hi
 have he:=mem_mpL ek ev 0 l i kv hkv
 rw[Nat.zero_add]at he
 have hn:((mpL ek ev 0 l).toArray.toList.map (·.born)).Nodup:=by
  simp only[mpL_born];exact List.nodup_range'
 have hr:=run_entry_at (P:=P) w b m l.length seen.toArray (mpL ek ev 0 l).toArray l.length ⟨ek kv.1,ev kv.2,i⟩ (by rw[hG.2];simp) hF.2 (by simpa using he) hn
 have hrun:(execOp a.eval ⟨d,.entry x,ty,pos,aft,g⟩).run P w = .ok (.value (.tuple #[ek kv.1,ev kv.2])) w:=by
  simp[execOp,s.eval hx,hr]
 simp only[Oper.wp,hrun,Oper.upon]
 exact⟨(),by first|rfl|trivial,t⟩
theorem J.weakE {G:Act->World->Prop} (σ':Fr) (M' L':List Fact) (hs:SubF σ σ') (hM:SubM M M') (hL:LentAll [] L L') (h:J c n σ' M' L' G):J c n σ M L G:=fun a w s t=>h a w (s.weak hs) (t.weakE hM hL)
theorem KeyOk.deep {kt:TypeId} {d:TypeDesc} (hu:P.underlying kt=some d) (chk:∀b k w,(Instr.checkKey b 10000 kt (ek k)).run P w = .ok () w) (now:∀a b,Instr.sameNow d (ek a) (ek b)=none)
  (eq:∀a b w,(Op.equal kt (ek a) (ek b)).run P w = .ok (decide (a=b)) w) (same:∀k,Instr.sameBits 10000 (ek k) (ek k)=true):KeyOk P kt ek:=by
 refine⟨chk,fun {ν'} ev' k l w=> ?_,same⟩
 have ask:∀(l:List (κ×ν')) (i:Nat),(Instr.findAsking kt (ek k) (mpL ek ev' i l) i).run P w = .ok (fnd ev' k i l) w:=by
  intro l
  induction l with
  |nil=>intro i;simp[mpL,fnd,Instr.findAsking]
  |cons x xs ih=>
   intro i
   simp only[mpL,fnd,Instr.findAsking]
   simp[eq]
   by_cases h:k=x.1
   ·simp[h]
   ·simp[h,ih]
 unfold Instr.findKey
 cases l with
 |nil=>simp[mpL,fnd,Instr.findNow,run_underlying hu w]
 |cons x xs=>
  have h1:Instr.findNow d (ek k) (mpL ek ev' 0 (x::xs)) 0=none:=by simp[mpL,Instr.findNow,now]
  simp[run_underlying hu w,h1,ask]
def MapInv {R:Type} (c:Ctx) (n:Sz) (σ:Fr) (M L:List Fact) (x:Option R) (r:R) (a:Act) (w:World):Prop:=x=some r∧Sub n σ a∧St c M L w
theorem J.mapAgain {R:Type} {x:Option R} {r:R} (h:x=some r) (hs:SubF σ' σ) (hM:SubM M' M) (hL:LentAll [] L' L):J c n σ' M' L' (MapInv c n σ M L x r):=fun _ _ s t=>⟨h,s.weak hs,t.weakE hM hL⟩
theorem J.loopMap (step:κ×ν->Option R->Option R) {K:Option R} {r:R} (jm ji:Nat) {b m:Nat} {l:List (κ×ν)} (hc:∀a b x,step a (step b x)=step b (step a x)) (h:mrun step K l=some r)
  (hf:M[jm]? = some (Mp ek ev m l)) (hi:M[ji]? = some (It b m l.length [])) (hne:Nat.beq ji jm=false) {t0 t1 t2:Tmp} (hx:lk σ t0=some (.pointer (some ⟨b,0,none⟩))) (hd1:Nat.blt t1 n.sz=true) (hd2:Nat.blt t2 n.sz=true)
  {id ex:Nat} {y1 y2:TypeId} {q1 q2:String} {f1 f2:Array Edge} {body:Code}
  (round:∀(kv:κ×ν) (i:Nat) (seen:List Nat) (x:Option R),l[i]? = some kv->step kv x=some r->
   J c n ((t2,.bool true)::(t1,.tuple #[.bool true,ek kv.1,ev kv.2])::σ) (M.set ji (It b m l.length (seen++[i]))) L (body.wpr rd P (Exit.then (MapInv c n σ (M.set ji (It b m l.length (seen++[i]))) L x r) Q)))
  (fin:∀seen,K=some r->J c n ((t2,.bool false)::(t1,.tuple #[.bool false])::σ) (M.set ji (It b m l.length seen)) L (Q (.exit ex))):
  J c n σ M L ((Code.loop (Code.seq (Code.region id [⟨some t1,.next (.tmp t0) false,y1,q1,f1,none⟩,⟨some t2,.extract (.tmp t1) 0,y2,q2,f2,none⟩].toArray false) (Code.seq (Code.cond (.tmp t2) .skip (.exit ex)) body))).wpr rd P Q):=by
 have hjlt:=getElem?_lt hi
 have hjm:jm≠ji:=fun e=>by subst e;simp at hne
 have hset:M.set ji (It b m l.length [])=M:=by
  apply List.ext_getElem?
  intro q
  by_cases eq:q=ji
  ·subst eq;rw[List.getElem?_set_self hjlt,hi]
  ·rw[List.getElem?_set_ne (Ne.symm eq)]
 refine J.loop (X:=List Nat) (fun seen=>seen.Nodup∧(∀i∈seen,i<l.length)∧mrun step K (rem l seen)=some r) (fun _=>σ) (fun seen=>M.set ji (It b m l.length seen)) (fun _=>L) (fun seen=>l.length - seen.length) [] ⟨List.nodup_nil,by simp,by rw[rem_nil];exact h⟩ (SubF.refl _) (by rw[hset];exact SubM.refl _) (fun _ h=>h) ?_
 rintro seen ⟨hnd,hlt,hrun⟩
 have hf':(M.set ji (It b m l.length seen))[jm]? = some (Mp ek ev m l):=by rw[List.getElem?_set_ne (Ne.symm hjm)];exact hf
 have hi':(M.set ji (It b m l.length seen))[ji]? = some (It b m l.length seen):=List.getElem?_set_self hjlt
 refine J.seq (J.region (J.loud (Loud.next jm ji (x:= .tmp t0) hx hf' hi') hd1 fun o=> ?_))
 refine J.pure List.mem_cons_self fun ho=> ?_
 refine J.weak (M':=nextM (M.set ji (It b m l.length seen)) ji b m l.length seen o) (L':=L) ?_ (SubF.refl _) (SubM.refl _) (fun f hf=>List.mem_cons_of_mem _ hf)
 cases o with
 | none =>
  refine J.quiet (Y.extract (vs:=[.bool false]) (by simp[nextVal,lk,Go.Sx.ev]) rfl) hd2 (J.done (J.thenN (J.seq (J.condF (by simp[lk,Go.Sx.ev]) (J.exit (J.thenX (J.thenX ?_)))))))
  refine fin seen ?_
  have:rem l seen=[]:=by
   unfold rem
   rw[List.filter_eq_nil_iff.2 (fun i hi=>by simpa using ho i (by simpa using hi))]
   rfl
  rw[this]at hrun
  exact hrun
 | some i =>
  obtain⟨h1,h2⟩:=ho
  obtain⟨kv,hkv⟩:∃kv,l[i]? = some kv:=⟨_,List.getElem?_eq_getElem h1⟩
  have hval:nextVal ek ev l (some i) = .tuple #[.bool true,ek kv.1,ev kv.2]:=by simp[nextVal,hkv]
  obtain⟨l1,l2,e1,e2⟩:=rem_pick hkv h2
  have hstep:step kv (mrun step K (rem l (seen++[i])))=some r:=by
   rw[e2,<-mrun_pick hc K kv l2 l1,<-e1];exact hrun
  have hMs:nextM (M.set ji (It b m l.length seen)) ji b m l.length seen (some i)=M.set ji (It b m l.length (seen++[i])):=by simp[nextM]
  rw[hval,hMs]
  refine J.quiet (Y.extract (vs:=[.bool true,ek kv.1,ev kv.2]) (by simp[lk,Go.Sx.ev]) rfl) hd2 (J.done (J.thenN (J.seq (J.condT (by simp[lk,Go.Sx.ev]) (J.skip (J.thenN ?_))))))
  refine J.mono (round kv i seen _ hkv hstep) fun a w hw=>wpr_mono (fun e a' w' q=> ?_) hw
  cases e with
  | normal =>
   obtain⟨hx',hs',ht'⟩:=q
   refine⟨seen++[i],⟨?_,?_,hx'⟩,?_,hs',ht'⟩
   ·rw[List.nodup_append];exact⟨hnd,by simp,fun a ha b hb=>by simp at hb;subst hb;rintro rfl;exact h2 ha⟩
   ·intro j hj
    rcases List.mem_append.1 hj with hj|hj
    ·exact hlt j hj
    ·simp at hj;subst hj;exact h1
   ·have:seen.length<l.length:=by
     have hsub:(seen++[i]).length<=(List.range l.length).length:=by
      apply List.Nodup.length_le_of_subset
      ·rw[List.nodup_append];exact⟨hnd,by simp,fun a ha b hb=>by simp at hb;subst hb;rintro rfl;exact h2 ha⟩
      ·intro j hj
       rcases List.mem_append.1 hj with hj|hj
       ·simpa using hlt j hj
       ·simp at hj;subst hj;simpa using h1
     simp at hsub;omega
    simp;omega
  |exit id=>exact q
  |goto l=>exact q
  |ret=>exact q
  |panic ch=>exact q
  |outgrown=>exact q
end
end Go.Sx
end
section
namespace Go.Sx
open Go.RowKit
section
variable {P:Program} {rd:Option Nat} {c:Ctx} {n:Sz} {σ σ':Fr} {M L M' L':List Fact} {Q:Exit->Act->World->Prop} {ops:Array Oper} {rest:List Oper} {K:Act->World->Prop} {G:Act->World->Prop}
variable {d:Option Tmp} {D:Nat} {ty:TypeId} {pos:String} {aft:Array Edge} {g:Option (Nat×Bool)}
variable {α β:Type} {e:Enc α} {r:Rep α}


def MeetsM (P:Program) (f:FuncId) (args:Array Value) (Min L:List Fact) {A:Type} (ret:A->Value) (MO:A->List Fact->List Fact):Prop:=
 ∀c:Ctx,St c Min L c.w0->Calls P f args c.w0 fun e w'=>∃x:A,e = .returned (ret x)∧St c (MO x []) [] w'
theorem MeetsM.of {A:Type} {ret:A->Value} {MO:A->List Fact->List Fact} {f:FuncId} {fn:Func} {code:Code} {vs:List Value} {m:Nat} {Min:List Fact}
  (hf:P.funcs[f]? = some fn) (hb:fn.body=some code) (hn:fn.ntmps=m) (hm:Nat.ble vs.length m=true)
  (h:∀c:Ctx,J c ⟨m,[]⟩ (frame0 0 vs) Min L (code.wpr none P (bodyPost P fn (Post c ret MO (fun _ l=>l))))):MeetsM P f vs.toArray Min L ret MO:=fun c t=>by
 have hle:vs.length<=m:=by simpa using hm
 refine calls_of_wpr hf hb (h c _ _ ⟨rfl,by simp[hn,hle],?_⟩ t)
 intro t v hv
 obtain⟨_,h2⟩:=frame0_slot vs 0 t v hv
 rw[Nat.sub_zero]at h2
 have hlt:t<vs.length:=by
  rcases Nat.lt_or_ge t vs.length with h'|h'
  ·exact h'
  ·rw[List.getElem?_eq_none h']at h2;cases h2
 rw[Array.getElem?_append_left (by simpa using hlt)]
 simpa using h2
theorem St.callM {w w':World} {Min Mr M1:List Fact} {F:Nat->Nat->Prop} {U:Nat->Prop} (ho:Kept c.O c.w0 w) (hF:Own c w (Min++Mr) F) (hL:∀f∈L,f.p w (Free c F))
  (t:St ⟨w,U,fun k=>∃i,i<Min.length∧F i k⟩ M1 [] w'):St c (M1++Mr) L w':=by
 obtain⟨ho',F',hF',_⟩:=t
 have hsz:=ho'.size
 have hbl:∀k,k<w.heap.size->(∀i,i<Min.length->¬F i k)->w'.heap[k]? = w.heap[k]? := fun k hk hn=>ho'.block k hk (fun⟨i,hi,hF⟩=>hn i hi hF)
 have hmine:∀i k,F' i k->w.heap.size<=k∨∃j,j<Min.length∧F j k:=fun i k hk=>(hF'.rng i k hk).1
 refine⟨⟨ho'.os.trans ho.os,ho'.tape.trans ho.tape,ho'.output.trans ho.output,Nat.le_trans ho.size hsz,fun k hk hO=> ?_⟩,
  fun i k=>(i<M1.length∧F' i k)∨(M1.length<=i∧F (i - M1.length+Min.length) k),⟨?_,?_,?_⟩,fun f hf=> ?_⟩
 ·refine(hbl k (Nat.lt_of_lt_of_le hk ho.size) (fun i _ hFi=> ?_)).trans (ho.block k hk hO)
  rcases(hF.rng i k hFi).1 with h|h
  ·omega
  ·exact hO h
 ·intro i m hm
  by_cases hi:i<M1.length
  ·rw[List.getElem?_append_left hi]at hm
   exact Fact.same (hF'.res i m hm) (fun k hk=> .inl ⟨hi,hk⟩) (fun _ _ _=>rfl)
  ·rw[List.getElem?_append_right (by omega)]at hm
   have hm':(Min++Mr)[i - M1.length+Min.length]? = some m:=by
    rw[List.getElem?_append_right (by omega),Nat.add_sub_cancel];exact hm
   exact Fact.same (hF.res _ m hm') (fun k hk=> .inr ⟨by omega,hk⟩) (fun k hk hl=>hbl k hl (fun j hj hFj=>by have:=hF.dis _ _ k hFj hk;omega))
 ·rintro i k (⟨_,hk⟩|⟨_,hk⟩)
  ·refine⟨?_,(hF'.rng i k hk).2⟩
   rcases hmine i k hk with h|⟨j,_,h⟩
   ·exact .inl (Nat.le_trans ho.size h)
   ·exact(hF.rng j k h).1
  ·exact⟨(hF.rng _ k hk).1,Nat.lt_of_lt_of_le (hF.rng _ k hk).2 hsz⟩
 ·rintro i j k (⟨hi,h1⟩|⟨hi,h1⟩) (⟨hj,h2⟩|⟨hj,h2⟩)
  ·exact hF'.dis i j k h1 h2
  ·rcases hmine i k h1 with h|⟨q,hq,h⟩
   ·have:=(hF.rng _ k h2).2;omega
   ·have:=hF.dis _ _ k h h2;omega
  ·rcases hmine j k h2 with h|⟨q,hq,h⟩
   ·have:=(hF.rng _ k h1).2;omega
   ·have:=hF.dis _ _ k h h1;omega
  ·have:=hF.dis _ _ k h1 h2;omega
 ·refine f.mono (hL f hf) fun k hk hl=>⟨⟨hk.1,?_⟩,hbl k hl (fun i _=>hk.2 i)⟩
  rintro i (⟨_,h⟩|⟨_,h⟩)
  ·rcases hmine i k h with h'|⟨q,_,h'⟩
   ·omega
   ·exact hk.2 q h'
  ·exact hk.2 _ h
theorem St.enterM {w:World} {Min Mr L0:List Fact} {F:Nat->Nat->Prop} (hF:Own c w (Min++Mr) F) (hL:∀f∈L,f.p w (Free c F)) (hl:LentAll Mr L L0):
  St ⟨w,fun k=>∀i,i<Min.length->¬F i k,fun k=>∃i,i<Min.length∧F i k⟩ Min L0 w:=by
 refine⟨Kept.refl _,fun i k=>i<Min.length∧F i k,⟨fun i m hm=> ?_,fun i k hk=>⟨.inr ⟨i,hk⟩,(hF.rng i k hk.2).2⟩,fun i j k h1 h2=>hF.dis i j k h1.2 h2.2⟩,fun f hf=> ?_⟩
 ·have hi:i<Min.length:=by
   rcases Nat.lt_or_ge i Min.length with h'|h'
   ·exact h'
   ·rw[List.getElem?_eq_none h']at hm;cases hm
  exact Fact.same (hF.res i m (by rw[List.getElem?_append_left hi];exact hm)) (fun k hk=>⟨hi,hk⟩) (fun _ _ _=>rfl)
 ·refine hl f hf w (Free c F) (fun j k=>F (j+Min.length) k) _ hL (fun j m hj=> ?_) (fun k hk=> ?_) (fun j k hk=> ?_)
  ·exact hF.res _ m (by rw[List.getElem?_append_right (by omega),Nat.add_sub_cancel];exact hj)
  ·exact⟨.inl fun i _=>hk.2 i,fun i hi=>hk.2 i hi.2⟩
  ·exact⟨.inl fun i hi h=>by have:=hF.dis _ _ k h hk;omega,fun i hi=>by have:=hF.dis _ _ k hi.2 hk;omega⟩
theorem Loud.callM {A:Type} {ret:A->Value} {MO:A->List Fact->List Fact} {f:FuncId} {xs:List Operand} {vs:List Value} {ats:Array TypeId} {L0 Min Mr:List Fact} (hb:HasBody P f)
  (hs:MeetsM P f vs.toArray Min L0 ret MO) (hx:xs.map (ev σ)=vs.map some) (hM:SubM M (Min++Mr)) (hL:LentAll Mr L L0) (hMO:∀x l,MO x l=MO x []++l):
  Loud P c n σ M L ⟨d,.call ⟨.value (.func f),xs.toArray,ats⟩,ty,pos,aft,g⟩ ret (fun x=>MO x Mr) (fun _=>L):=fun a w s t=>by
 have hrun:(execOp a.eval ⟨d,.call ⟨.value (.func f),xs.toArray,ats⟩,ty,pos,aft,g⟩).run P w = .ok (.enter f vs.toArray) w:=by
  have e:=evs s hx
  simp[execOp,resolve,Act.eval,Deferred.ofValue,invoke,hb _ w,e]
 simp only[Oper.wp,hrun,Oper.upon]
 obtain⟨ho,F,hF,hLF⟩:=t.weak (L':=L) hM (fun _ h=>h)
 refine(hs _ (St.enterM hF hLF hL)).mono ?_
 rintro e w' ⟨x,rfl,ht⟩
 refine⟨x,rfl,?_⟩
 rw[hMO]
 exact St.callM ho hF hLF ht

def MidR {A B:Type} (c:Ctx) (C:A->Prop) (val:A->B->Value) (MI LI:A->B->List Fact) (e:Ending) (w:World):Prop:=∃x y,C x∧e = .returned (val x y)∧St c (MI x y) (LI x y) w
theorem frame0_sub {fn:Func} {vs:List Value} {m:Nat} (hn:fn.ntmps=m) (hm:Nat.ble vs.length m=true):Sub ⟨m,[]⟩ (frame0 0 vs) {tmps:=vs.toArray++Array.replicate (fn.ntmps - vs.toArray.size) undef,defers:=[]}:=by
 have hle:vs.length<=m:=by simpa using hm
 refine⟨rfl,by simp[hn,hle],?_⟩
 intro t v hv
 obtain⟨_,h2⟩:=frame0_slot vs 0 t v hv
 rw[Nat.sub_zero]at h2
 have hlt:t<vs.length:=by
  rcases Nat.lt_or_ge t vs.length with h'|h'
  ·exact h'
  ·rw[List.getElem?_eq_none h']at h2;cases h2
 rw[Array.getElem?_append_left (by simpa using hlt)]
 simpa using h2
structure Enter (P:Program) (c:Ctx) (n:Sz) (σ:Fr) (M L:List Fact) (o:Oper) (f:FuncId) (vs:List Value):Prop where
 run:∀a w,Sub n σ a->St c M L w->(execOp a.eval o).run P w = .ok (.enter f vs.toArray) w
theorem Enter.fn {f:FuncId} {xs:List Operand} {vs:List Value} {ats:Array TypeId} (hb:HasBody P f) (hx:xs.map (ev σ)=vs.map some):Enter P c n σ M L ⟨d,.call ⟨.value (.func f),xs.toArray,ats⟩,ty,pos,aft,g⟩ f vs:=⟨fun a w s _=>by
 have e:=evs s hx
 simp[execOp,resolve,Act.eval,Deferred.ofValue,invoke,hb _ w,e]⟩

def Res (P:Program) (c:Ctx) (n:Sz) (σ:Fr) (M L:List Fact) (fn:Func) (v:Value):Prop:=∀a w,Sub n σ a->St c M L w->(results fn a.tmps).run P w = .ok v w
variable {fn:Func}
theorem Res.r0 (hres:fn.results = #[]):Res P c n σ M L fn (.tuple #[]):=fun a w _ _=>by simp[results,hres]
theorem Res.r1 {r1:ResultVar} {v1:Value} (hres:fn.results = #[r1]) (h1:RV P c n σ M L r1 v1):Res P c n σ M L fn v1:=fun a w s t=>by
 have:=h1 a w s t
 simp only[results_rv,hres]
 simp[this]
theorem J.retM {A B:Type} {m:Sz} {v:Value} {ex:Exit} {C:A->Prop} {val:A->B->Value} {MI LI:A->B->List Fact} (x:A) (y:B) (hC:C x) (hex:ex = .ret∨ex = .normal) (hr:Res P c m σ' M L fn v) (hv:v=val x y) (hM:SubM M (MI x y)) (hL:LentAll [] L (LI x y)) (hds:m.ds=[]:=by rfl):
  J c m σ' M L (bodyPost P fn (MidR c C val MI LI) ex):=fun a w s t=>by
 exact body_end hex (s.defers.trans hds) (hr a w s t) ⟨x,y,hC,by rw[hv],t.weakE hM hL⟩
end
end Go.Sx
end
section
namespace Go.Sx
open Go.RowKit
section
variable {P:Program} {rd:Option Nat} {c:Ctx} {n:Sz} {σ σ':Fr} {M L M' L':List Fact} {Q:Exit->Act->World->Prop} {ops:Array Oper} {rest:List Oper} {K:Act->World->Prop} {G:Act->World->Prop}
variable {d:Option Tmp} {D:Nat} {ty:TypeId} {pos:String} {aft:Array Edge} {g:Option (Nat×Bool)}
variable {α β:Type} {e:Enc α} {r:Rep α}
def capGe (v:Value) (m:Nat):Prop:=match v with
 | .slice _ _ cap=>m<=cap
 |_=>False
theorem Y.slice3 [Tab P] {T E:TypeId} {s1 s2 s3 s4:Nat} {z z':Value} {dE:TypeDesc} {x lo hi mx:Operand} {v:Value} {i k m:Int} {xs:List α} (hx:ev σ x=some v) (hlo:ev σ lo=some (.int .i64 i)) (hhi:ev σ hi=some (.int .i64 k)) (hmx:ev σ mx=some (.int .i64 m)) (hf:Lent M L (Sl r v xs))
  (hT:Tab.tab P T=some ⟨.slice E,s1,s2,z⟩) (hE:Tab.tab P E=some ⟨dE,s3,s4,z'⟩) (h:0<=i∧i<=k∧k<=m∧m<=xs.length):Y P c n σ M L ⟨d,.slice T x (some lo) (some hi) (some mx),ty,pos,aft,g⟩
   (match v with|.slice a _ _=> .slice (if m.toNat=i.toNat then a else a.map (·.add (i.toNat*s3))) (k.toNat - i.toNat) (m.toNat - i.toNat)|v=>v):=fun a w s t=>by
 obtain⟨S,a',cap,hv,hb,_⟩:=hf.st t
 subst hv
 have h0:0<=m∧m<=(cap:Int):=by omega
 have h1:0<=k∧k<=((m.toNat:Nat):Int):=by omega
 have h2:0<=i∧i<=((k.toNat:Nat):Int):=by omega
 simp[execOp,s.eval hx,s.eval hlo,s.eval hhi,s.eval hmx,Instr.sliceAt,Instr.slice,(Tab.ok hT).run_und w,Instr.sliceBounds,Instr.sliceBound,asIntOf,(Tab.ok hE).run_size w,h0,h1,h2]
 rw[if_pos (by omega),if_pos (by omega)]

theorem at_set_ne {α:Type} [Inhabited α] (l:List α) {j k:Int} (y:α) (h:j.toNat≠k.toNat):at' (l.set j.toNat y) k=at' l k:=by
 rw[at',at',List.getD_eq_getElem?_getD,List.getD_eq_getElem?_getD,List.getElem?_set_ne h]
theorem Loud.appendRow2 [Tab P] (i:Nat) {r:Rep α} (hfit:e.Fits r) {x y:Operand} {u u0:Value} {k j:Int} {vs:List Value} {xss:List (List α)} {ys ys0:List α} {T E:TypeId} {s1 s2 s3 s4:Nat} {z z':Value} {dE:TypeDesc} (hx:ev σ x=some (at' vs k)) (hy:ev σ y=some u) (hf:M[i]? = some (Rws e (vs.set j.toNat u0) (xss.set j.toNat ys0))) (hg:Lent M L (Sl r u ys))
  (hT:Tab.tab P T=some ⟨.slice E,s1,s2,z⟩) (hE:Tab.tab P E=some ⟨dE,s3,s4,z'⟩) (h3:e.sz=s3) (h4:Nat.ble s4 1024=true) (h0:0<=k∧k<xss.length) (hl:((at' xss k).length:Int)+ys.length<=1099511627) (hz:z'.cells.size=s3) (hne:j.toNat≠k.toNat):
  Loud P c n σ M L ⟨d,.call ⟨.builtin .append,#[x,y],#[T,T]⟩,ty,pos,aft,g⟩ (fun v':Value=>v') (fun v'=>M.set i (Rws e ((vs.set j.toNat u0).set k.toNat v') ((xss.set j.toNat ys0).set k.toNat (at' xss k++ys)))) (fun _=>L):=by
 have ex:at' (xss.set j.toNat ys0) k=at' xss k:=at_set_ne _ _ hne
 have:=Loud.appendRowL (P:=P) (c:=c) (n:=n) (σ:=σ) (M:=M) (L:=L) (d:=d) (ty:=ty) (pos:=pos) (aft:=aft) (g:=g) (x:=x) (y:=y) (u:=u) (k:=k) (vs:=vs.set j.toNat u0) (xss:=xss.set j.toNat ys0) (ys:=ys) i hfit (by rw[at_set_ne _ _ hne];exact hx) hy hf hg hT hE h3 h4 (by simpa using h0) (by rw[ex];exact hl) hz
 rwa[ex]at this
theorem Know.oneRow2 (q:Nat) {vs:List Value} {xss:List (List α)} {k j:Int} {u u2:Value} (hr:M[q]? = some (Rws e ((vs.set k.toNat u).set j.toNat u2) xss)) (hne:k.toNat≠j.toNat) (h:0<=k∧k<xss.length):∀c w,St c M L w->Go.Sx.one u=true:=fun c w t=>by
 obtain⟨S,hl,G',g1,_⟩:=t.res hr
 have hlt:k.toNat<vs.length:=by simp at hl;omega
 obtain⟨_,_,hh⟩:=g1 k.toNat u _ (by rw[List.getElem?_set_ne (Ne.symm hne),List.getElem?_set_self hlt]) (List.getElem?_eq_getElem (by omega))
 rcases hh with⟨hu,_⟩|⟨b,off,cap,T,cur,hu,_⟩<;>(rw[hu];rfl)

end
end Go.Sx
end
section
namespace Go.Sx
open Go.RowKit
section
variable {P:Program} {rd:Option Nat} {c:Ctx} {n:Sz} {σ σ':Fr} {M L M' L':List Fact} {Q:Exit->Act->World->Prop} {ops:Array Oper} {rest:List Oper} {K:Act->World->Prop} {G:Act->World->Prop}
variable {d:Option Tmp} {D:Nat} {ty:TypeId} {pos:String} {aft:Array Edge} {g:Option (Nat×Bool)}
variable {α β:Type} {e:Enc α} {r:Rep α}
theorem Loud.storeA [Tab P] (j:Nat) {T:TypeId} {s2:Nat} {z:Value} {dT:TypeDesc} {x y:Operand} {v u:Value} {i:Int} {xs:List α} (yv:α) (hx:ev σ x=some (elq v (i.toNat*1))) (hy:ev σ y=some u) (hu:e.enc yv=[u]) (h1u:one u=true)
  (hf:M[j]? = some (Ar e v xs)) (hT:Tab.tab P T=some ⟨dT,1,s2,z⟩) (hq:e.sz=1) (h0:0<=i) (h1:i<xs.length):
  Loud P c n σ M L ⟨none,.store T x y,ty,pos,aft,none⟩ (fun _:Unit=>undef) (fun _=>M.set j (Ar e v (xs.set i.toNat yv))) (fun _=>L):=fun a w s t=>by
 obtain⟨F,hF⟩:=t.res hf
 have hi:i.toNat<xs.length:=by omega
 have hget:xs[i.toNat]? = some xs[i.toNat]:=List.getElem?_eq_getElem hi
 have hne:xs≠[]:=by intro e;subst e;simp at hi
 obtain⟨p,hp⟩:∃p,e.enc xs[i.toNat]=[p]:=List.length_eq_one_iff.1 ((e.len _).trans hq)
 have hcell:=ArR.cell hF hget (j:=0) (u:=p) (by rw[hp];rfl)
 rw[hq,Nat.add_zero,Nat.mul_one]at hcell
 rw[Nat.mul_one]at hx
 have hfree:=ArR.free hF hne i.toNat
 have hrun:(execOp a.eval ⟨none,.store T x y,ty,pos,aft,none⟩).run P w = .ok .skip (w.setCell (elA v i.toNat) u):=by
  simp only[execOp,s.eval hx,s.eval hy,elq]
  simp[run_store1 (Tab.ok hT) rfl h1u hcell hfree]
 simp only[Oper.wp,hrun,Oper.upon]
 refine⟨(),trivial,t.upd hf rfl rfl rfl (by simp[World.setCell]) fun F hF _=> ?_⟩
 obtain⟨hl,h1,hh⟩:=hF
 rcases hh with⟨_,hh⟩|⟨b,off,cap,T',cur,hv,hFb,hb,hk,hc,ht⟩
 ·exact absurd hh hne
 ·subst hv
  have ha:elA (.slice (some ⟨b,off,none⟩) xs.length cap) i.toNat=⟨b,off+i.toNat,none⟩:=by simp[elA,add_none]
  rw[ha]
  refine⟨fun k _ hk'=>Below.heap_setCell _ _ _ _ (fun e=>hk' (by simp only at e;subst e;exact hFb)),F,⟨by simpa using hl,?_,.inr ⟨b,off,cap,T',cur.setIfInBounds (off+i.toNat) u,by simp,hFb,?_,by simpa using hk,by simpa using hc,?_⟩⟩,fun _ h=> .inl h⟩
  ·rw[cellsOf_set1 hq hu,List.all_eq_true]
   intro q hq'
   rcases List.mem_or_eq_of_mem_set hq' with h'|h'
   ·exact List.all_eq_true.1 h1 q h'
   ·rw[h'];exact h1u
  ·simp[World.setCell,Array.getElem?_modify,hb]
  ·rw[cellsOf_set1 hq hu,<-ht,Array.toList_setIfInBounds,List.length_set,<-take_set]
   congr 1
   rw[List.drop_set,if_neg (by omega),Nat.add_sub_cancel_left]
theorem Loud.storeRow [Tab P] (j q:Nat) {T:TypeId} {s2:Nat} {z:Value} {dT:TypeDesc} {x y:Operand} {v u:Value} {i:Int} {vs vs':List Value} {xss:List (List α)} (h:0<=i∧i<xss.length) (hx:ev σ x=some (elq v (i.toNat*1))) (hy:ev σ y=some u)
  (hf:M[j]? = some (Ar Enc.raw v vs)) (hr:M[q]? = some (Rws e vs' xss)) (hl:vs'.length=vs.length) (h1u:one u=true) (hT:Tab.tab P T=some ⟨dT,1,s2,z⟩):
  Loud P c n σ M L ⟨none,.store T x y,ty,pos,aft,none⟩ (fun _:Unit=>undef) (fun _=>M.set j (Ar Enc.raw v (vs.set i.toNat u))) (fun _=>L):=fun a w s t=>by
 have hlen:vs'.length=xss.length:=by obtain⟨_,h⟩:=t.res hr;exact h.1
 exact Loud.storeA j u hx hy rfl h1u hf hT rfl h.1 (by omega) a w s t
section
variable {l:List Oper} {m:List Nat} {k0:Nat} {H Bs:List (Nat×List Fact×List Fact)} {rs:List Nat}
theorem JR.loud0 {A:Type} {val:A->Value} {M' L':A->List Fact} {i:Nat} {op:Op}
  (hi:l[i]? = some ⟨none,op,ty,pos,aft,none⟩) (hk:Nat.blt i k0=true) (hl:loudOp op=true) (ho:Loud P c n σ M L ⟨none,op,ty,pos,aft,none⟩ val M' L')
  (hB:∀x,BsOk (before m i) (M' x) (L' x) Bs) (h:∀x,JR c n σ (M' x) (L' x) ((i,M,L)::H) Bs (RW P l.toArray Q (before m) (louds l) k0 rs)):
  JR c n σ M L H Bs (RW P l.toArray Q (before m) (louds l) k0 (i::rs)):=fun a w X Y s t hX hY=>by
 have hi':l.toArray[i]? = some ⟨none,op,ty,pos,aft,none⟩:=by simpa using hi
 simp only[RW,hi']
 rw[if_pos (by simp[Region.wanted])]
 refine .inr (.inr ⟨by simpa [Nat.blt_eq]using hk,by simp[louds,hi,hl],nwp_mono ?_ (ho a w s t)⟩)
 rintro a' w' ⟨x,rfl,ht⟩
 exact⟨(hB x).use ht hY,h x _ w' _ Y s ht ⟨rfl,t,hX⟩ hY⟩
end

theorem Loud.inlM {A B:Type} {f:FuncId} {fn:Func} {code:Code} {vs:List Value} {m:Nat} {op:Op} (C:A->Prop) (val:A->B->Value) (MI LI:A->B->List Fact) (he:Enter P c n σ M L ⟨d,op,ty,pos,aft,g⟩ f vs) (hf:P.funcs[f]? = some fn) (hb:fn.body=some code) (hn:fn.ntmps=m) (hm:Nat.ble vs.length m=true)
  (h1:J c ⟨m,[]⟩ (frame0 0 vs) M L (code.wpr none P (bodyPost P fn (MidR c C val MI LI)))):
  Loud P c n σ M L ⟨d,op,ty,pos,aft,g⟩ (fun x:{p:A×B // C p.1}=>val x.1.1 x.1.2) (fun x=>MI x.1.1 x.1.2) (fun x=>LI x.1.1 x.1.2):=fun a w s t=>by
 have hrun:=he.run a w s t
 simp only[Oper.wp,hrun,Oper.upon]
 refine(calls_of_wpr hf hb (h1 _ w (frame0_sub hn hm) t)).mono ?_
 rintro e w' ⟨x,y,hC,rfl,ht⟩
 exact⟨⟨(x,y),hC⟩,rfl,ht⟩
theorem J.inlC {A B:Type} {f:FuncId} {fn:Func} {code:Code} {vs:List Value} {m:Nat} {op:Op} (C:A->Prop) (val:A->B->Value) (MI LI:A->B->List Fact) (he:Enter P c n σ M L ⟨some D,op,ty,pos,aft,none⟩ f vs) (hf:P.funcs[f]? = some fn) (hb:fn.body=some code) (hn:fn.ntmps=m) (hm:Nat.ble vs.length m=true) (hD:Nat.blt D n.sz=true)
  (h1:J c ⟨m,[]⟩ (frame0 0 vs) M L (code.wpr none P (bodyPost P fn (MidR c C val MI LI)))) (h2:∀a b,C a->J c n ((D,val a b)::σ) (MI a b) (LI a b) (wpList P ops Q rest)):J c n σ M L (wpList P ops Q (⟨some D,op,ty,pos,aft,none⟩::rest)):=
 J.loud (Loud.inlM C val MI LI he hf hb hn hm h1) hD fun⟨⟨a,b⟩,hC⟩=>h2 a b hC
section
variable {l:List Oper} {mm:List Nat} {k0:Nat} {H Bs:List (Nat×List Fact×List Fact)} {rs:List Nat}
theorem JR.inlCG {A B:Type} {i j:Nat} {bo:Bool} {f:FuncId} {fn:Func} {code:Code} {vs:List Value} {m:Nat} {op:Op} (C:A->Prop) (val:A->B->Value) (MI LI:A->B->List Fact) (hi:l[i]? = some ⟨some D,op,ty,pos,aft,some (j,bo)⟩) (hk:Nat.blt i k0=true) (hl:loudOp op=true) (hg:gv l.toArray σ j=some bo) (he:Enter P c n σ M L ⟨some D,op,ty,pos,aft,some (j,bo)⟩ f vs) (hf:P.funcs[f]? = some fn) (hb:fn.body=some code) (hn:fn.ntmps=m) (hm:Nat.ble vs.length m=true) (hD:Nat.blt D n.sz=true)
  (hB:∀a b,BsOk (before mm i) (MI a b) (LI a b) Bs) (h1:J c ⟨m,[]⟩ (frame0 0 vs) M L (code.wpr none P (bodyPost P fn (MidR c C val MI LI)))) (h2:∀a b,C a->JR c n ((D,val a b)::σ) (MI a b) (LI a b) ((i,M,L)::H) Bs (RW P l.toArray Q (before mm) (louds l) k0 rs)):
  JR c n σ M L H Bs (RW P l.toArray Q (before mm) (louds l) k0 (i::rs)):=
 JR.loudG hi hk hl hg (Loud.inlM C val MI LI he hf hb hn hm h1) hD (fun _=>hB _ _) fun⟨⟨a,b⟩,hC⟩=>h2 a b hC
end


end
end Go.Sx
end
section
namespace Go.Sx
open Go.RowKit
def Dfr (D:Nat):Fact where
 p w F:=F D∧w.heap[D]? = some (.deferred (some []))
 mono:=fun⟨h1,h2⟩ h=>by
  obtain⟨h3,h4⟩:=h D h1 (Array.getElem?_eq_some_iff.1 h2).1
  exact⟨h3,by rw[h4];exact h2⟩
structure Rec where
 n:Nat
 σ:Fr
 ps:Array Tmp
 assign:Code
 body:Code
 D:Nat
def Lp (l:Nat) (R:Rec) (st:LoopState) (pend:Option Code):Fact where
 p w F:=F l∧∃(fn:FuncId) (tmps:Array Value),tmps.size=R.n∧(∀t v,lk R.σ t=some v->tmps[t]? = some v)∧
  w.heap[l]? = some (.loop {state:=st,pending:=pend,fn:=fn,tmps:=tmps,params:=R.ps,assign:=R.assign,body:=R.body,defers:=R.D})
 mono:=fun⟨h1,fn,tmps,h2,h3,h4⟩ h=>by
  obtain⟨h5,h6⟩:=h l h1 (Array.getElem?_eq_some_iff.1 h4).1
  exact⟨h5,fn,tmps,h2,h3,by rw[h6];exact h4⟩
def mark (D:Nat):Deferred:={target:= .collected D,args:= #[]}
def yieldV (l:Nat):Value:= .func (.yield l) #[] #[]
section
variable {P:Program} {rd:Option Nat} {c:Ctx} {n m:Sz} {σ σ':Fr} {M L:List Fact} {Q:Exit->Act->World->Prop} {K G:Act->World->Prop}
theorem St.putLp {w:World} {l i:Nat} {R:Rec} {st st':LoopState} {pend pend':Option Code} (t:St c M L w) (hi:M[i]? = some (Lp l R st pend)) {r:Loop} (hr:w.heap[l]? = some (.loop r)):
  St c (M.set i (Lp l R st' pend')) L (w.putObj l (.loop {r with state:=st',pending:=pend'})):=by
 refine t.upd hi rfl rfl rfl (by simp) fun F hF _=>⟨fun k _ hk=> ?_,F,?_,fun _ h=> .inl h⟩
 ·exact World.putObj_heap_other (fun e=>hk (by subst e;exact hF.1))
 ·obtain⟨h1,fn,tmps,h2,h3,h4⟩:=hF
  rw[h4]at hr
  cases hr
  exact⟨h1,fn,tmps,h2,h3,World.putObj_heap_same (Array.getElem?_eq_some_iff.1 h4).1⟩
def RetF (P:Program) (n:Sz) (σ:Fr) (l D:Nat) (Q:Exit->Act->World->Prop) (e:Ending) (w:World):Prop:=
 ∀a,Sub ⟨n.sz,mark D::n.ds⟩ σ a->rangePost (FR none) 0 P l Q a e w
theorem J.rangeFunc {g:Operand} {ps:Array Tmp} {assign body:Code} {f:FuncId} {fn:Func} {code:Code} {cs:List Value} {k:Nat} (hb:HasBody P f) (hx:ev σ g=some (.func (.func f) #[] cs.toArray)) (hf:P.funcs[f]? = some fn) (hbd:fn.body=some code) (hn:fn.ntmps=k) (hm:Nat.ble (cs.length+1) k=true)
  (h:∀l D,J c ⟨k,[]⟩ (frame0 0 (yieldV l::cs)) (Lp l ⟨n.sz,σ,ps,assign,body,D⟩ .ready none::Dfr D::M) L (code.wpr none P (bodyPost P fn (RetF P n σ l D Q)))):
  J c n σ M L ((Code.rangeFunc g ps assign body).wpr none P Q):=fun a w s t=>by
 refine wpIn_rangeFunc fun fn' _=> ?_
 have hev:a.eval g = .func (.func f) #[] cs.toArray:=s.eval hx
 let W:World:=(w.alloc (.deferred (some []))).alloc (.loop {state:= .ready,pending:=none,fn:=fn',tmps:=a.tmps,params:=ps,assign:=assign,body:=body,defers:=w.heap.size})
 refine⟨_,_,_,{target:= .fn (.func f) cs.toArray,args:= #[yieldV (w.heap.size+1)]},W,f,(yieldV (w.heap.size+1)::cs).toArray,W,run_enterLoop_outer fn' a.tmps ps assign body,?_,fun _ _=>trivial,?_,(fun hc=>by cases hc),?_⟩
 ·have hc:∀v,a.eval (.const v)=v:=fun _=>rfl
  simp[resolve,hev,hc,Deferred.ofValue,yieldV,W]
 ·simp[invoke,hb _ _,yieldV]
 ·have t1:St c (Dfr w.heap.size::M) L (w.alloc (.deferred (some []))):=t.push _ ⟨rfl,heap_alloc_new w _⟩
  have t2:St c (Lp (w.heap.size+1) ⟨n.sz,σ,ps,assign,body,w.heap.size⟩ .ready none::Dfr w.heap.size::M) L ((w.alloc (.deferred (some []))).alloc (.loop {state:= .ready,pending:=none,fn:=fn',tmps:=a.tmps,params:=ps,assign:=assign,body:=body,defers:=w.heap.size})):=by
   have:=t1.push (.loop {state:= .ready,pending:=none,fn:=fn',tmps:=a.tmps,params:=ps,assign:=assign,body:=body,defers:=w.heap.size}) (m:=Lp (w.heap.size+1) ⟨n.sz,σ,ps,assign,body,w.heap.size⟩ .ready none)
    ⟨by simp,fn',a.tmps,s.size,s.slot,by rw[<-World.size_alloc w (.deferred (some []))];exact heap_alloc_new _ _⟩
   exact this
  refine callsFR ((calls_of_wpr hf hbd (h (w.heap.size+1) w.heap.size _ _ (frame0_sub hn (by simpa using hm)) t2)).mono ?_)
  intro e w' he
  exact he _ ⟨by simp[mark,s.defers],s.size,s.slot⟩
theorem J.retF {fn:Func} {ex:Exit} {v:Value} {l D i:Nat} {R:Rec} (hex:ex = .ret∨ex = .normal) (hi:M[i]? = some (Lp l R .ready none)) (hr:Res P c m σ' M L fn v) (h:J c ⟨n.sz,mark D::n.ds⟩ σ (M.set i (Lp l R .exhausted none)) L (Q .normal)) (hds:m.ds=[]:=by rfl):
  J c m σ' M L (bodyPost P fn (RetF P n σ l D Q) ex):=fun a w s t=>by
 refine body_end hex (s.defers.trans hds) (hr a w s t) fun a' s'=> ?_
 obtain⟨F,h1,fn',tmps,h2,h3,h4⟩:=t.res hi
 exact⟨none,_,run_endLoop h4 (by simp),h a' _ s' (t.putLp hi h4)⟩
theorem J.retFR {fn:Func} {ex:Exit} {v:Value} {l D i:Nat} {R:Rec} (hex:ex = .ret∨ex = .normal) (hi:M[i]? = some (Lp l R .done (some .ret))) (hr:Res P c m σ' M L fn v) (h:J c ⟨n.sz,mark D::n.ds⟩ σ (M.set i (Lp l R .exhausted (some .ret))) L (Q .ret)) (hds:m.ds=[]:=by rfl):
  J c m σ' M L (bodyPost P fn (RetF P n σ l D Q) ex):=fun a w s t=>by
 refine body_end hex (s.defers.trans hds) (hr a w s t) fun a' s'=> ?_
 obtain⟨F,h1,fn',tmps,h2,h3,h4⟩:=t.res hi
 exact⟨some .ret,_,run_endLoop h4 (by simp),wpIn_ret (h a' _ s' (t.putLp hi h4))⟩
def Begin (P:Program) (l:Nat) (G:Act->World->Prop) (a:Act) (w:World):Prop:=∃w',(Instr.beginRound l).run P w = .ok () w'∧G a w'
theorem J.begin {l i:Nat} {R:Rec} {pend:Option Code} (hi:M[i]? = some (Lp l R .ready pend)) (h:J c n σ (M.set i (Lp l R .busy pend)) L G):J c n σ M L (Begin P l G):=fun a w s t=>by
 obtain⟨F,h1,fn',tmps,h2,h3,h4⟩:=t.res hi
 exact⟨_,run_beginRound h4 rfl,h a _ s (t.putLp hi h4)⟩
def RetY (n:Sz) (σ:Fr) (d:Nat) (K:Act->World->Prop) (e:Ending) (w:World):Prop:=∃v,e = .returned v∧∀a,Sub n ((d,v)::σ) a->K a w
theorem J.roundN {l i d:Nat} {R:Rec} {pend:Option Code} (hi:M[i]? = some (Lp l R .busy pend)) (h:J c m ((d,.bool true)::σ') (M.set i (Lp l R .ready none)) L K):J c n σ M L (roundPost P l (RetY m σ' d K) .normal):=fun a w s t=>by
 obtain⟨F,h1,fn',tmps,h2,h3,h4⟩:=t.res hi
 exact⟨_,_,run_endRound none h4,_,rfl,fun a' s'=>h a' _ s' (t.putLp hi h4)⟩
theorem J.roundR {l i d:Nat} {R:Rec} {pend:Option Code} (hi:M[i]? = some (Lp l R .busy pend)) (h:J c m ((d,.bool false)::σ') (M.set i (Lp l R .done (some .ret))) L K):J c n σ M L (roundPost P l (RetY m σ' d K) .ret):=fun a w s t=>by
 obtain⟨F,h1,fn',tmps,h2,h3,h4⟩:=t.res hi
 exact⟨_,_,run_endRound (some .ret) h4,_,rfl,fun a' s'=>h a' _ s' (t.putLp hi h4)⟩
def putAll:List Tmp->List Value->Fr->Fr
 |t::ts,v::vs,σ=>putAll ts vs ((t,v)::σ)
 |_,_,σ=>σ
theorem fold_slots:∀(ps:List Tmp) (vs:List Value) (tmps:Array Value) (σ:Fr) (k:Nat),tmps.size=k->ps.all (fun t=>Nat.blt t k)=true->(∀t v,lk σ t=some v->tmps[t]? = some v)->
  ((ps.zip vs).foldl (fun tmps (x:Tmp×Value)=>tmps.setIfInBounds x.1 x.2) tmps).size=k∧∀t v,lk (putAll ps vs σ) t=some v->((ps.zip vs).foldl (fun tmps (x:Tmp×Value)=>tmps.setIfInBounds x.1 x.2) tmps)[t]? = some v
 | [],_,tmps,σ,k,h1,_,h3=>by simpa [putAll]using ⟨h1,h3⟩
 |_::_,[],tmps,σ,k,h1,_,h3=>by simpa [putAll]using ⟨h1,h3⟩
 | p :: ps, x :: vs, tmps, σ, k, h1, h2, h3 => by
  simp only[List.all_cons,Bool.and_eq_true]at h2
  have hp:p<k:=by simpa [Nat.blt_eq]using h2.1
  simp only[List.zip_cons_cons,List.foldl_cons,putAll]
  refine fold_slots ps vs _ _ k (by simp[h1]) h2.2 fun t v hv=> ?_
  simp only[lk]at hv
  by_cases e:t=p
  ·subst e
   simp at hv
   subst hv
   simp[h1,hp]
  ·rw[beq_ne e]at hv
   simp only[cond_false]at hv
   rw[Array.getElem?_setIfInBounds_ne (Ne.symm e)]
   exact h3 t v hv
theorem J.yield {ops:Array Oper} {rest:List Oper} {t:Tmp} {xs:List Operand} {us:List Value} {ats:Array TypeId} {d:Nat} {ty:TypeId} {pos:String} {aft:Array Edge} {l i:Nat} {R:Rec} {ps:List Tmp} (ht:lk σ t=some (yieldV l)) (hx:xs.map (ev σ)=us.map some) (hi:M[i]? = some (Lp l R .ready none)) (hps:R.ps=ps.toArray) (hlen:us.length=ps.length) (hall:ps.all (fun t=>Nat.blt t R.n)=true) (hd:Nat.blt d n.sz=true)
  (h:J c ⟨R.n,[]⟩ (putAll ps us R.σ) M L (R.assign.wpr (some l) P (Exit.then (Begin P l (R.body.wpr (some l) P (roundPost P l (RetY n σ d (wpList P ops Q rest))))) (fun _ _ _=>False)))):
  J c n σ M L (wpList P ops Q (⟨some d,.call ⟨.value (.tmp t),xs.toArray,ats⟩,ty,pos,aft,none⟩::rest)):=fun a w s tt=>by
 obtain⟨F,h1,fn',tmps,h2,h3,h4⟩:=tt.res hi
 have e:=evs s hx
 have e2:a.eval (.tmp t)=yieldV l:=s.eval (x:= .tmp t) ht
 have hy:=run_yield (P:=P) (args:=us.toArray) h4 (by simp[hps,hlen])
 have hrun:(execOp a.eval ⟨some d,.call ⟨.value (.tmp t),xs.toArray,ats⟩,ty,pos,aft,none⟩).run P w=(Instr.yield l us.toArray).run P w:=by
  simp[execOp,resolve,e2,yieldV,Deferred.ofValue,invoke,e]
 unfold wpList
 rw[if_pos (show Region.wanted _ _=true from rfl)]
 refine .inr ⟨_,_,_,_,_,_,hrun.trans hy,?_⟩
 refine RoundIn.mono (R:=RetY n σ d (wpList P ops Q rest)) (roundIn_of_wpIn (F:=FR none) trivial ?_) ?_
 ·obtain⟨f1,f2⟩:=fold_slots ps us tmps R.σ R.n h2 hall h3
  have:=h {tmps:=(ps.zip us).foldl (fun tmps (x:Tmp×Value)=>tmps.setIfInBounds x.1 x.2) tmps,defers:=[]} w ⟨rfl,f1,f2⟩ tt
  simp only[hps,List.zip_toArray,List.foldl_toArray]
  exact this
 ·rintro e w'' ⟨v,rfl,hv⟩
  exact⟨v,rfl,hv _ (s.put d v hd)⟩
theorem J.rangeFuncR {g:Operand} {ps:Array Tmp} {assign body:Code} {f:FuncId} {fn:Func} {code:Code} {cs:List Value} {k:Nat} (hb:HasBody P f) (hx:ev σ g=some (.func (.func f) #[] cs.toArray)) (hf:P.funcs[f]? = some fn) (hbd:fn.body=some code) (hn:fn.ntmps=k) (hm:Nat.ble (cs.length+1) k=true)
  (h:∀(l D:Nat) (R:Rec),R.n=n.sz∧R.σ=σ∧R.ps=ps∧R.assign=assign∧R.body=body->J c ⟨k,[]⟩ (frame0 0 (yieldV l::cs)) (Lp l R .ready none::Dfr D::M) L (code.wpr none P (bodyPost P fn (RetF P n σ l D Q)))):
  J c n σ M L ((Code.rangeFunc g ps assign body).wpr none P Q):=J.rangeFunc hb hx hf hbd hn hm fun l D=>h l D _ ⟨rfl,rfl,rfl,rfl,rfl⟩
theorem J.yieldR {ops:Array Oper} {rest:List Oper} {t:Tmp} {xs:List Operand} {us:List Value} {ats:Array TypeId} {d:Nat} {ty:TypeId} {pos:String} {aft:Array Edge} {l i k:Nat} {R:Rec} {ps:List Tmp} {σR:Fr} {assign body:Code} (hR:R.n=k∧R.σ=σR∧R.ps=ps.toArray∧R.assign=assign∧R.body=body) (ht:lk σ t=some (yieldV l)) (hx:xs.map (ev σ)=us.map some) (hi:M[i]? = some (Lp l R .ready none)) (hlen:us.length=ps.length) (hall:ps.all (fun t=>Nat.blt t k)=true) (hd:Nat.blt d n.sz=true)
  (h:J c ⟨k,[]⟩ (putAll ps us σR) M L (assign.wpr (some l) P (Exit.then (Begin P l (body.wpr (some l) P (roundPost P l (RetY n σ d (wpList P ops Q rest))))) (fun _ _ _=>False)))):
  J c n σ M L (wpList P ops Q (⟨some d,.call ⟨.value (.tmp t),xs.toArray,ats⟩,ty,pos,aft,none⟩::rest)):=by
 obtain⟨rfl,rfl,h3,rfl,rfl⟩:=hR
 exact J.yield ht hx hi h3 hlen hall hd h
end
end Go.Sx
end
section
namespace Go.Sx
open Go.RowKit
def marks (Ds:List Nat):List Deferred:=Ds.map mark
def Dfs (Ds:List Nat):Fact where
 p w F:=Ds.Nodup∧∀D∈Ds,F D∧w.heap[D]? = some (.deferred (some []))
 mono:=fun⟨h1,h2⟩ h=>⟨h1,fun D hD=>by
  obtain⟨h3,h4⟩:=h D (h2 D hD).1 (Array.getElem?_eq_some_iff.1 (h2 D hD).2).1
  exact⟨h3,by rw[h4];exact(h2 D hD).2⟩⟩
section
variable {P:Program} {rd:Option Nat} {c:Ctx} {n m:Sz} {σ σ':Fr} {M L:List Fact} {Q:Exit->Act->World->Prop} {K G:Act->World->Prop}
theorem Stp.dfs0:Stp M L (Dfs []::M) L:=Stp.add fun _=>⟨List.nodup_nil,by simp⟩
theorem Stp.dfsCons (i j:Nat) {D:Nat} {Ds:List Nat} (hij:i≠j) (hf:M[i]? = some (Dfs Ds)) (hg:M[j]? = some (Dfr D)):Stp M L ((M.set i (Dfs (D::Ds))).eraseIdx j) L:=fun c w t=>
 t.merge i j hij hf hg (by
  rintro w F1 F2 ⟨h1,h2⟩ ⟨h3,h4⟩ hd
  refine⟨List.nodup_cons.2 ⟨fun hm=>hd D (h2 D hm).1 h3,h1⟩,fun E hE=> ?_⟩
  rcases List.mem_cons.1 hE with rfl|hE
  ·exact⟨.inr h3,h4⟩
  ·exact⟨.inl (h2 E hE).1,(h2 E hE).2⟩)
theorem J.rangeFuncD {g:Operand} {ps:Array Tmp} {assign body:Code} {f:FuncId} {fn:Func} {code:Code} {cs:List Value} {k i s:Nat} (Ds:List Nat) (hi:M[i]? = some (Dfs Ds)) (hb:HasBody P f) (hx:ev σ g=some (.func (.func f) #[] cs.toArray)) (hf:P.funcs[f]? = some fn) (hbd:fn.body=some code) (hn:fn.ntmps=k) (hm:Nat.ble (cs.length+1) k=true)
  (h:∀(l D:Nat) (R:Rec),R.n=s∧R.σ=σ∧R.ps=ps∧R.assign=assign∧R.body=body->J c ⟨k,[]⟩ (frame0 0 (yieldV l::cs)) (Lp l R .ready none::M.set i (Dfs (D::Ds))) L (code.wpr none P (bodyPost P fn (RetF P ⟨s,marks Ds⟩ σ l D Q)))):
  J c ⟨s,marks Ds⟩ σ M L ((Code.rangeFunc g ps assign body).wpr none P Q):=J.rangeFuncR hb hx hf hbd hn hm fun l D R hR=>
 J.stp (Stp.dfsCons (i+2) 1 (by omega) hi rfl) (h l D R hR)
theorem J.unmarkAll {fn:Func} {R:Ending->World->Prop} {ex:Exit} {i k:Nat} (hex:ex = .ret∨ex = .normal):∀{Ds:List Nat} {M:List Fact},M[i]? = some (Dfs Ds)->J c ⟨k,[]⟩ σ (M.set i (Dfs [])) L (bodyPost P fn R ex)->J c ⟨k,marks Ds⟩ σ M L (bodyPost P fn R ex)
 | [], M, hi, h => by
  have:M.set i (Dfs [])=M:=by
   apply List.ext_getElem?
   intro j
   by_cases e:i=j
   ·subst e
    rw[hi]
    simp[(List.getElem?_eq_some_iff.1 hi).1]
   ·simp[List.getElem?_set_ne e]
  rw[this]at h
  exact h
 | D :: Ds, M, hi, h => fun a w s t => by
  obtain⟨F,h1,h2⟩:=t.res hi
  have t':St c (M.set i (Dfs Ds)) L (w.putObj D (.deferred none)):=by
   refine t.upd hi rfl rfl rfl (by simp) fun F hF _=>⟨fun k _ hk=> ?_,F,?_,fun _ h=> .inl h⟩
   ·exact World.putObj_heap_other (fun e=>hk (e▸(hF.2 D (by simp)).1))
   ·obtain⟨hn,hF⟩:=hF
    refine⟨(List.nodup_cons.1 hn).2,fun E hE=>⟨(hF E (by simp[hE])).1,?_⟩⟩
    rw[World.putObj_heap_other (fun e=>(List.nodup_cons.1 hn).1 (by subst e;exact hE))]
    exact(hF E (by simp[hE])).2
  refine body_endM hex s.defers (h2 D (by simp)).2 ?_
  have hi':(M.set i (Dfs Ds))[i]? = some (Dfs Ds):=by simp[(List.getElem?_eq_some_iff.1 hi).1]
  have:=J.unmarkAll hex hi' (by rw[List.set_set];exact h) {tmps:=a.tmps,defers:=marks Ds} _ ⟨rfl,s.size,s.slot⟩ t'
  rcases hex with rfl|rfl<;>exact this
def MidN {A B:Type} (c:Ctx) (nI:A->B->Sz) (C:A->Prop) (σI:A->B->Fr) (MI LI:A->B->List Fact) (a:Act) (w:World):Prop:=∃x y,C x∧Sub (nI x y) (σI x y) a∧St c (MI x y) (LI x y) w
theorem J.midN {A B:Type} {x:Code} (nI:A->B->Sz) (C:A->Prop) (σI:A->B->Fr) (MI LI:A->B->List Fact) (h1:J c n σ M L (x.wpr rd P (Exit.then (MidN c nI C σI MI LI) Q))) (h2:∀a b,C a->J c (nI a b) (σI a b) (MI a b) (LI a b) K):
  J c n σ M L (x.wpr rd P (Exit.then K Q)):=fun a w s t=>wpr_mono (fun e a' w' q=>by
 cases e with
 |normal=>obtain⟨z,y,hC,hs,ht⟩:=q;exact h2 z y hC a' w' hs ht
 |exit id=>exact q
 |goto l=>exact q
 |ret=>exact q
 |panic ch=>exact q
 |outgrown=>exact q) (h1 a w s t)
theorem J.meetN {A B:Type} {nI:A->B->Sz} {C:A->Prop} {σI:A->B->Fr} {MI LI:A->B->List Fact} (x:A) (y:B) (hn:n=nI x y) (hC:C x) (hs:SubF σ (σI x y)) (hM:SubM M (MI x y)) (hL:LentAll [] L (LI x y)):J c n σ M L (MidN c nI C σI MI LI):=
 fun _ _ s t=>⟨x,y,hC,hn▸s.weak hs,t.weakE hM hL⟩
end
end Go.Sx
end
section
namespace Go.Sx
open Go.RowKit
def Gb (b:Nat) (cs:List Value):Fact where
 p w S:=S b∧∃T,w.heap[b]? = some (.cells cs.toArray T (0,0))
 mono:=fun⟨h1,T,h2⟩ h=>by
  obtain⟨h3,h4⟩:=h b h1 (Array.getElem?_eq_some_iff.1 h2).1
  exact⟨h3,T,by rw[h4];exact h2⟩
section
variable {P:Program} {c:Ctx} {n:Sz} {σ:Fr} {M L:List Fact} {d:Option Tmp} {ty:TypeId} {pos:String} {aft:Array Edge} {g:Option (Nat×Bool)} {α:Type} {e:Enc α}
theorem Y.indexArrK [Tab P] {T E:TypeId} {ki:IntKind} {k s1 s2 s3 s4:Nat} {z z':Value} {dE:TypeDesc} {x y:Operand} {b:Nat} {i:Int} (hx:ev σ x=some (.pointer (some ⟨b,0,none⟩))) (hy:ev σ y=some (.int ki i))
  (hT:Tab.tab P T=some ⟨.array k E,s1,s2,z⟩) (hE:Tab.tab P E=some ⟨dE,s3,s4,z'⟩) (h3:(s3==0)=false) (h:0<=i∧i<(k:Int)):
  Y P c n σ M L ⟨d,.indexAddr T x y,ty,pos,aft,g⟩ (.pointer (some ⟨b,i.toNat*s3,none⟩)):=fun a w s t=>by
 have hne:s3≠0:=by simpa using h3
 simp[execOp,s.eval hx,s.eval hy,Instr.indexAt,asIntOf,(Tab.ok hT).run_und w,h,Instr.sureAddr,(Tab.ok hE).run_size w,hne,add_none]
theorem Y.loadGlb [Tab P] [Inhabited α] {T:TypeId} {s2:Nat} {z:Value} {dT:TypeDesc} {x:Operand} {b k:Nat} {i:Int} {xs:List α} {u:Value} (hx:ev σ x=some (.pointer (some ⟨b,i.toNat*1,none⟩)))
  (hM:Lent M L (Gb b (cellsOf e xs))) (hT:Tab.tab P T=some ⟨dT,1,s2,z⟩) (hd:aggD dT=false) (hq:e.sz=1) (hu:(e.enc (at' xs i))=[u]) (h:(0<=i∧i<(k:Int))∧xs.length=k):
  Y P c n σ M L ⟨d,.load T x,ty,pos,aft,g⟩ u:=fun a w s t=>by
 obtain⟨F,hF1,T',hF2⟩:=hM.st t
 have hF:(Blk b (cellsOf e xs) T').p w F:=⟨hF1,hF2⟩
 have hg:=cellsOf_get e xs i.toNat (at' xs i) (at'_some h.1.1 (by omega)) 0 u (by rw[hu];rfl)
 rw[hq,Nat.add_zero]at hg
 rw[Nat.mul_one]at hx hg
 simp[execOp,s.eval hx,run_load1 (Tab.ok hT) hd (Blk.cell hF hg)]
end
end Go.Sx
end
section
namespace Go.Sx
open Go.RowKit
def sl3 (v:Value) (l h m size:Nat):Value:=match v with
 | .slice a _ _=> .slice (if m=l then a else a.map (·.add (l*size))) (h - l) (m - l)
 |v=>v
section
variable {P:Program} {rd:Option Nat} {c:Ctx} {n:Sz} {σ:Fr} {M L:List Fact} {Q:Exit->Act->World->Prop} {ops:Array Oper} {rest:List Oper} {d:Option Tmp} {ty:TypeId} {pos:String} {aft:Array Edge} {g:Option (Nat×Bool)} {α:Type} {e:Enc α} {r:Rep α} {G:Act->World->Prop}
theorem Y.slice3R [Tab P] {T E:TypeId} {s1 s2 s3 s4:Nat} {z z':Value} {dE:TypeDesc} {x lo hi mx:Operand} {v:Value} {i k m:Int} {xs:List α} (hx:ev σ x=some v) (hlo:ev σ lo=some (.int .i64 i)) (hhi:ev σ hi=some (.int .i64 k)) (hmx:ev σ mx=some (.int .i64 m)) (hf:Lent M L (Sl r v xs))
  (hT:Tab.tab P T=some ⟨.slice E,s1,s2,z⟩) (hE:Tab.tab P E=some ⟨dE,s3,s4,z'⟩) (h:0<=i∧i<=k∧k<=m∧m<=xs.length):Y P c n σ M L ⟨d,.slice T x (some lo) (some hi) (some mx),ty,pos,aft,g⟩ (sl3 v i.toNat k.toNat m.toNat s3):=fun a w s t=>by
 have h':=Y.slice3 (P:=P) (c:=c) (n:=n) (d:=d) (ty:=ty) (pos:=pos) (aft:=aft) (g:=g) hx hlo hhi hmx hf hT hE h a w s t
 obtain⟨S,a',cap,hv,_⟩:=hf.st t
 subst hv
 exact h'
theorem SlR.part3 {w:World} {S:Nat->Prop} {v:Value} {xs:List α} (hs:SlR r w S v xs) {l h m:Nat} (hl:l<=h) (hh:h<=m) (hm:m<=xs.length):SlR r w S (sl3 v l h m r.sz) ((xs.take h).drop l):=by
 have hp:=SlR.part hs hl (Nat.le_trans hh hm)
 obtain⟨a,cap,rfl,hb,_⟩:=hs
 obtain⟨a',cap',e',hb',hx'⟩:=hp
 have hlen:((xs.take h).drop l).length=h - l:=by simp;omega
 refine⟨if m=l then a else a.map (·.add (l*r.sz)),m - l,by simp[sl3,hlen],by omega,?_⟩
 rcases hx' with hx'|hx'
 ·exact .inl hx'
 ·by_cases h0:(xs.take h).drop l=[]
  ·exact .inl h0
  ·right
   have hlt:l<h:=by
    rcases Nat.lt_or_ge l h with q|q
    ·exact q
    ·exact absurd (List.eq_nil_of_length_eq_zero (by omega)) h0
   simp only[slq,Value.slice.injEq]at e'
   rw[if_neg (by omega)]at e'
   rw[if_neg (by omega),e'.1]
   exact hx'
theorem Lent.part3 {v:Value} {xs:List α} (hf:Lent M L (Sl r v xs)) {l h m:Int} {q:Nat} (hq:r.sz=q) (hl:0<=l∧l<=h∧h<=m∧m<=xs.length):Lent M L (Sl r (sl3 v l.toNat h.toNat m.toNat q) ((xs.take h.toNat).drop l.toNat)):=by
 subst hq
 exact hf.mono fun hs=>SlR.part3 hs (by omega) (by omega) (by omega)
def Rlf (r:Rep α) (vs:List Value) (xss:List (List α)):Fact where
 p w S:=vs.length=xss.length∧∀(i:Nat) v xs,vs[i]? = some v->xss[i]? = some xs->SlR r w S v xs
 mono:=fun⟨h1,h2⟩ h=>⟨h1,fun i v xs hv hx=>(Sl r v xs).mono (h2 i v xs hv hx) h⟩
theorem J.addRl (r:Rep α) (m:Nat) (h:J c n σ M (Rlf r (List.replicate m (.slice none 0 0)) (List.replicate m ([]:List α))::L) G):J c n σ M L G:=fun a w s t=>h a w s (by
 obtain⟨ho,F,hF,hL⟩:=t
 refine⟨ho,F,hF,fun f hf=> ?_⟩
 rcases List.mem_cons.1 hf with rfl|hf
 ·refine⟨by simp,fun i v xs hv hx=> ?_⟩
  obtain⟨_,rfl⟩:=List.mem_replicate.1 (List.mem_of_getElem? hv)
  obtain⟨_,rfl⟩:=List.mem_replicate.1 (List.mem_of_getElem? hx)
  exact⟨none,0,rfl,by simp,.inl rfl⟩
 ·exact hL f hf)
theorem J.rlset (j:Nat) {vs:List Value} {xss:List (List α)} {t:Value} {xs:List α} {k:Nat} (hj:L[j]? = some (Rlf r vs xss)) (hl:Lent [] L (Sl r t xs)) (h:J c n σ M (L.set j (Rlf r (vs.set k t) (xss.set k xs))) G):J c n σ M L G:=fun a w s t'=>h a w s (by
 obtain⟨ho,F,hF,hL⟩:=t'
 refine⟨ho,F,hF,fun f hf=> ?_⟩
 rcases List.mem_or_eq_of_mem_set hf with hf|rfl
 ·exact hL f hf
 ·obtain⟨h1,h2⟩:=hL _ (List.mem_of_getElem? hj)
  refine⟨by simp[h1],fun i v ys hv hy=> ?_⟩
  by_cases e:k=i
  ·subst e
   have h3:=getElem?_lt hv
   have h4:=getElem?_lt hy
   rw[List.getElem?_set_self (by simpa using h3)]at hv
   rw[List.getElem?_set_self (by simpa using h4)]at hy
   cases hv;cases hy
   exact hl w (Free c F) (fun _ _=>False) (Free c F) hL (fun i m hm=>by simp at hm) (fun _ h=>h) (fun _ _ h=>h.elim)
  ·rw[List.getElem?_set_ne e]at hv hy
   exact h2 i v ys hv hy)
theorem J.storeRl [Tab P] (j q:Nat) {T:TypeId} {s2:Nat} {z:Value} {dT:TypeDesc} {x y:Operand} {v u:Value} {i:Int} {vs:List Value} {xss:List (List α)} (h:0<=i∧i<xss.length) (hx:ev σ x=some (elq v (i.toNat*1))) (hy:ev σ y=some u)
  (hf:M[j]? = some (Ar Enc.raw v vs)) (hr:L[q]? = some (Rlf r vs xss)) (h1u:one u=true) (hT:Tab.tab P T=some ⟨dT,1,s2,z⟩)
  (hh:J c n σ (M.set j (Ar Enc.raw v (vs.set i.toNat u))) L (wpList P ops Q rest)):
  J c n σ M L (wpList P ops Q (⟨none,.store T x y,ty,pos,aft,none⟩::rest)):=fun a w s t=>by
 have hlen:vs.length=xss.length:=by obtain⟨_,F,_,hL⟩:=t;exact(hL _ (List.mem_of_getElem? hr)).1
 exact J.storeA j u hx hy rfl h1u hf hT rfl h.1 (by omega) hh a w s t
theorem Lent.rowsL {i j:Nat} {v:Value} {vs:List Value} {xss:List (List α)} (hi:M[i]? = some (Ar Enc.raw v vs)) (hj:L[j]? = some (Rlf r vs xss)):Lent M L (S2 r v (vs.zip xss) xss):=fun w S T U hL hM hS hT=>by
 have hA:=hM i _ hi
 obtain⟨hlen,hR⟩:=hL _ (List.mem_of_getElem? hj)
 refine⟨?_,by rw[List.map_snd_zip];omega⟩
 have hz:(vs.zip xss).length=vs.length:=by simp[hlen]
 have hA':ArR Enc.raw w (T i) v vs:=hA
 have hA2:=hA'
 obtain⟨hl,_,hh⟩:=hA'
 rcases hh with⟨rfl,rfl⟩|⟨b,off,cap,T',cur,rfl,hFb,hb,hk,hc,ht⟩
 ·exact⟨none,0,rfl,by simp,.inl rfl⟩
 ·refine⟨_,cap,by rw[hz],by rw[hz];omega,.inr ⟨b,off,rfl,hT i _ hFb,fun q x hx=> ?_⟩⟩
  have hv:vs[q]? = some x.1:=by rw[List.getElem?_zip_eq_some]at hx;exact hx.1
  have hxx:xss[q]? = some x.2:=by rw[List.getElem?_zip_eq_some]at hx;exact hx.2
  refine⟨[x.1],fun jj u hu=> ?_,rfl,?_⟩
  ·have:=ArR.cell hA2 hv (j:=jj) (u:=u) hu
   simp only[elA,add_none]at this
   exact this
  ·exact(Sl r x.1 x.2).mono (hR q _ _ hv hxx) (fun k hk _=>⟨hS k hk,rfl⟩)
end
end Go.Sx
end
section
namespace Go.Proofs.YtfbkplemadmbfaaGreatDoor
open Go.Sx
def tab0:List Int:=[0,1,28,2,29,14,24,3,30,22,20,15,25,17,4,8,31,27,13,23,21,19,16,7,26,12,18,6,11,5,10,9]
theorem _root_.Go.Sx.Y.bld5 {P:Program} {c:Ctx} {n:Sz} {σ:Fr} {M L:List Fact} {d:Option Tmp} {ty:TypeId} {pos:String} {aft:Array Edge} {g:Option (Nat×Bool)} {T:TypeId} {i0 i1 i2 i3 i4:Nat} {x0 x1 x2 x3 x4:Operand} {v0 v1 v2 v3 v4:Value} {r:Value} (h0:ev σ x0=some v0) (h1:ev σ x1=some v1) (h2:ev σ x2=some v2) (h3:ev σ x3=some v3) (h4:ev σ x4=some v4) (hr:∀w,(Instr.build T ([(i0,v0),(i1,v1),(i2,v2),(i3,v3),(i4,v4)]:List (Nat×Value)).toArray).run P w = .ok r w):Y P c n σ M L ⟨d,.build T #[(i0,x0),(i1,x1),(i2,x2),(i3,x3),(i4,x4)],ty,pos,aft,g⟩ r:=
 Y.buildOf (ps:=[(i0,x0),(i1,x1),(i2,x2),(i3,x3),(i4,x4)]) (vs:=[(i0,v0),(i1,v1),(i2,v2),(i3,v3),(i4,v4)]) (by simp[h0,h1,h2,h3,h4]) hr
abbrev EU8:Enc Int:=Enc.int .u8
abbrev EI64:Enc Int:=Enc.int .i64
abbrev RI64:Rep Int:=Rep.int .i64
theorem FI64:EI64.Fits RI64:=Enc.int_fits .i64
theorem RI64c0:RI64.Cell 0 (fun x=> .int .i64 x):=Rep.int_cell .i64
abbrev EBo:Enc Bool:=Enc.bool
abbrev EI64I64p:Enc (Int×Int):=Enc.pair EI64 (EI64)
abbrev RI64I64p:Rep (Int×Int):=Rep.pair RI64 (RI64)
theorem FI64I64p:EI64I64p.Fits RI64I64p:=Enc.pair_fits FI64 (FI64)
theorem RI64I64pc0:RI64I64p.Cell 0 (fun x=> .int .i64 x.1):=Rep.pair_cell1 (RI64c0)
theorem RI64I64pc1:RI64I64p.Cell 1 (fun x=> .int .i64 x.2):=Rep.pair_cell2 (RI64c0)
abbrev ESt:Enc ByteArray:=⟨1,Nat.one_pos,fun x=>[.string x],fun _=>rfl⟩
abbrev RSt:Rep ByteArray:=⟨1,Nat.one_pos,fun _ _ cs x=>cs=[.string x],fun h=>by simp[h],fun h _=>h⟩
theorem FSt:ESt.Fits RSt:=⟨rfl,fun h=>h,rfl,fun _=>rfl⟩
abbrev EStI64I64I64I64I64p:Enc (ByteArray×Int×Int×Int×Int×Int):=Enc.pair ESt (Enc.pair EI64 (Enc.pair EI64 (Enc.pair EI64 (Enc.pair EI64 (EI64)))))
abbrev RStI64I64I64I64I64p:Rep (ByteArray×Int×Int×Int×Int×Int):=Rep.pair RSt (Rep.pair RI64 (Rep.pair RI64 (Rep.pair RI64 (Rep.pair RI64 (RI64)))))
theorem FStI64I64I64I64I64p:EStI64I64I64I64I64p.Fits RStI64I64I64I64I64p:=Enc.pair_fits FSt (Enc.pair_fits FI64 (Enc.pair_fits FI64 (Enc.pair_fits FI64 (Enc.pair_fits FI64 (FI64)))))
theorem RStI64I64I64I64I64pc1:RStI64I64I64I64I64p.Cell 1 (fun x=> .int .i64 x.2.1):=Rep.pair_cell2 (Rep.pair_cell1 (RI64c0))
theorem RStI64I64I64I64I64pc2:RStI64I64I64I64I64p.Cell 2 (fun x=> .int .i64 x.2.2.1):=Rep.pair_cell2 (Rep.pair_cell2 (Rep.pair_cell1 (RI64c0)))
theorem RStI64I64I64I64I64pc3:RStI64I64I64I64I64p.Cell 3 (fun x=> .int .i64 x.2.2.2.1):=Rep.pair_cell2 (Rep.pair_cell2 (Rep.pair_cell2 (Rep.pair_cell1 (RI64c0))))
theorem RStI64I64I64I64I64pc4:RStI64I64I64I64I64p.Cell 4 (fun x=> .int .i64 x.2.2.2.2.1):=Rep.pair_cell2 (Rep.pair_cell2 (Rep.pair_cell2 (Rep.pair_cell2 (Rep.pair_cell1 (RI64c0)))))
theorem RStI64I64I64I64I64pc5:RStI64I64I64I64I64p.Cell 5 (fun x=> .int .i64 x.2.2.2.2.2):=Rep.pair_cell2 (Rep.pair_cell2 (Rep.pair_cell2 (Rep.pair_cell2 (Rep.pair_cell2 (RI64c0)))))
abbrev RU32:Rep Int:=Rep.int .u32
theorem RU32c0:RU32.Cell 0 (fun x=> .int .u32 x):=Rep.int_cell .u32
def vI64 (x:Int):Value:=Value.int .i64 (x)
def vI64I64p (x:Int×Int):Value:=Value.agg #[Value.int .i64 (x.1),Value.int .i64 (x.2)]
theorem key_T34 (x y:Int×Bool×Bool×Int×Int) (m:Nat) (w:World):(Op.equalIn (m+2) 34 (.agg #[.int .i64 x.1,.bool x.2.1,.bool x.2.2.1,.int .i64 x.2.2.2.1,.int .i64 x.2.2.2.2]) (.agg #[.int .i64 y.1,.bool y.2.1,.bool y.2.2.1,.int .i64 y.2.2.2.1,.int .i64 y.2.2.2.2])).run Tryz.prog w = .ok (decide (x=y)) w:=by
 have h3:∀a b:Int,(Op.equalIn (m+1) 3 (.int .i64 a) (.int .i64 b)).run Tryz.prog w = .ok (a==b) w:=by
  intro a b
  simp[Op.equalIn]
 have h4:∀a b:Bool,(Op.equalIn (m+1) 4 (.bool a) (.bool b)).run Tryz.prog w = .ok (a==b) w:=by
  intro a b
  simp[Op.equalIn]
 have hs:Tryz.prog.stoodInHeld 34=false:=by kernel_rfl
 unfold Op.equalIn
 simp[hs,part,isAgg,h3,h4]
 obtain⟨a0,a1,a2,a3,a4⟩:=x
 obtain⟨c0,c1,c2,c3,c4⟩:=y
 by_cases e0:a0=c0<;>by_cases e1:a1=c1<;>by_cases e2:a2=c2<;>by_cases e3:a3=c3<;>by_cases e4:a4=c4<;>simp[e0,e1,e2,e3,e4,h3,h4]
theorem guard_T34 (x y:Operand) (u v:Array Value) (op:BinOp) (w:World):(eqGuard op 34 x y (.agg u) (.agg v)).run Tryz.prog w = .ok () w:=by
 have hg:Tryz.prog.eqGuardType Tryz.prog.depth 34=false:=by kernel_rfl
 unfold eqGuard
 cases op<;>simp[hg]
theorem eq_T34 (x y:Int×Bool×Bool×Int×Int) (p q:Operand) (w:World):(eqGuard .eql 34 p q (.agg #[.int .i64 x.1,.bool x.2.1,.bool x.2.2.1,.int .i64 x.2.2.2.1,.int .i64 x.2.2.2.2]) (.agg #[.int .i64 y.1,.bool y.2.1,.bool y.2.2.1,.int .i64 y.2.2.2.1,.int .i64 y.2.2.2.2])).run Tryz.prog w = .ok () w∧(binOp .eql 34 (.agg #[.int .i64 x.1,.bool x.2.1,.bool x.2.2.1,.int .i64 x.2.2.2.1,.int .i64 x.2.2.2.2]) (.agg #[.int .i64 y.1,.bool y.2.1,.bool y.2.2.1,.int .i64 y.2.2.2.1,.int .i64 y.2.2.2.2])).run Tryz.prog w = .ok (.bool (decide (x=y))) w:=by
 refine⟨guard_T34 _ _ _ _ _ _,?_⟩
 have h:(Op.equal 34 (.agg #[.int .i64 x.1,.bool x.2.1,.bool x.2.2.1,.int .i64 x.2.2.2.1,.int .i64 x.2.2.2.2]) (.agg #[.int .i64 y.1,.bool y.2.1,.bool y.2.2.1,.int .i64 y.2.2.2.1,.int .i64 y.2.2.2.2])).run Tryz.prog w = .ok (decide (x=y)) w:=key_T34 x y 9998 w
 simp[binOp,h]
theorem key_T123 (x y:Int×Int) (m:Nat) (w:World):(Op.equalIn (m+2) 123 (.agg #[.int .i64 x.1,.int .i64 x.2]) (.agg #[.int .i64 y.1,.int .i64 y.2])).run Tryz.prog w = .ok (decide (x=y)) w:=by
 have h3:∀a b:Int,(Op.equalIn (m+1) 3 (.int .i64 a) (.int .i64 b)).run Tryz.prog w = .ok (a==b) w:=by
  intro a b
  simp[Op.equalIn]
 unfold Op.equalIn
 simp[show List.range' 0 2=[0,1]from rfl,part,isAgg,h3]
 obtain⟨a0,a1⟩:=x
 obtain⟨c0,c1⟩:=y
 by_cases e0:a0=c0<;>by_cases e1:a1=c1<;>simp[e0,e1,h3]
theorem chk_T123 (b:Bool) (k:Int×Int) (w:World):(Instr.checkKey b 10000 123 (vI64I64p k)).run Tryz.prog w = .ok () w:=by
 have key:∀m:Nat,(Instr.checkKey b (m+2) 123 (vI64I64p k)).run Tryz.prog w = .ok () w:=by
  intro m
  simp[Instr.checkKey,vI64I64p,part,isAgg,show List.range' 0 2=[0,1]from rfl]
 exact key 9998
theorem kok_123:KeyOk Tryz.prog 123 vI64I64p:=KeyOk.deep Tryz.underlying123 chk_T123 (fun _ _=>rfl) (fun a b w=>key_T123 a b 9998 w) (fun k=>by
 have key:∀m:Nat,Instr.sameBits (m+2) (vI64I64p k) (vI64I64p k)=true:=fun m=>by simp[Instr.sameBits,vI64I64p]
 exact key 9998)
theorem fill_1_1 (u0:Value) (h0:one u0=true) (init:Array Value) (h:init.size=1*1):Instr.fill (fun i=>some (i*1,1)) init [(0,u0)]=some [u0].toArray:=by
 obtain⟨l⟩:=init
 match l,h with
 | [z0],_=>simp[Instr.fill,one_cells h0]
theorem fill_1_2 (u0 u1:Value) (init:Array Value) (h:init.size=1*2):Instr.fill (fun i=>some (i*2,2)) init [(0,.agg #[u0,u1])]=some [u0,u1].toArray:=by
 obtain⟨l⟩:=init
 match l,h with
 | [z0,z1],_=>simp[Instr.fill,Value.cells]
theorem fill_2_1 (u0 u1:Value) (h0:one u0=true) (h1:one u1=true) (init:Array Value) (h:init.size=2*1):Instr.fill (fun i=>some (i*1,1)) init [(0,u0),(1,u1)]=some [u0,u1].toArray:=by
 obtain⟨l⟩:=init
 match l,h with
 | [z0,z1],_=>simp[Instr.fill,one_cells h0,one_cells h1]
theorem fill_2_6 (u0 u1 u2 u3 u4 u5 u6 u7 u8 u9 u10 u11:Value) (init:Array Value) (h:init.size=2*6):Instr.fill (fun i=>some (i*6,6)) init [(0,.agg #[u0,u1,u2,u3,u4,u5]),(1,.agg #[u6,u7,u8,u9,u10,u11])]=some [u0,u1,u2,u3,u4,u5,u6,u7,u8,u9,u10,u11].toArray:=by
 obtain⟨l⟩:=init
 match l,h with
 | [z0,z1,z2,z3,z4,z5,z6,z7,z8,z9,z10,z11],_=>simp[Instr.fill,Value.cells]
theorem fill_4_1 (u0 u1 u2 u3:Value) (h0:one u0=true) (h1:one u1=true) (h2:one u2=true) (h3:one u3=true) (init:Array Value) (h:init.size=4*1):Instr.fill (fun i=>some (i*1,1)) init [(0,u0),(1,u1),(2,u2),(3,u3)]=some [u0,u1,u2,u3].toArray:=by
 obtain⟨l⟩:=init
 match l,h with
 | [z0,z1,z2,z3],_=>simp[Instr.fill,one_cells h0,one_cells h1,one_cells h2,one_cells h3]
theorem fill_6_1 (u0 u1 u2 u3 u4 u5:Value) (h0:one u0=true) (h1:one u1=true) (h2:one u2=true) (h3:one u3=true) (h4:one u4=true) (h5:one u5=true) (init:Array Value) (h:init.size=6*1):Instr.fill (fun i=>some (i*1,1)) init [(0,u0),(1,u1),(2,u2),(3,u3),(4,u4),(5,u5)]=some [u0,u1,u2,u3,u4,u5].toArray:=by
 obtain⟨l⟩:=init
 match l,h with
 | [z0,z1,z2,z3,z4,z5],_=>simp[Instr.fill,one_cells h0,one_cells h1,one_cells h2,one_cells h3,one_cells h4,one_cells h5]
end Go.Proofs.YtfbkplemadmbfaaGreatDoor
end
section
namespace Go.Proofs.YtfbkplemadmbfaaGreatDoor
open Go.Sx
def graph_DifferentIDs_k1  (a2:Unit):Option (Bool):=
 some (true)
def graph_DifferentIDs_k2 (p0:List (Int)) (a7:Int×List (Bool)) (ag6:(Int×List (Bool))->Option (Bool)) (a13:Bool):Option (Bool):=
 if a13=true then(some (false))else(ck ((0<=(at' p0 a7.1)∧(at' p0 a7.1)<((256:Nat):Int))∧List.length a7.2=256) (ag6 ((wI .i64 (a7.1+(1:Int))),(List.set a7.2 (Int.toNat (at' p0 a7.1)) true))))
def graph_DifferentIDs_s1 (p0:List (Int)) (a7:Int×List (Bool)) (ag6:(Int×List (Bool))->Option (Bool)):Option (Bool):=
 if a7.1<(List.length p0:Int)then(ck (0<=a7.1∧a7.1<(List.length p0:Int)) (if(at' p0 a7.1)<(0:Int)then(graph_DifferentIDs_k2 p0 a7 ag6 (true))else(if(255:Int)<(at' p0 a7.1)then(graph_DifferentIDs_k2 p0 a7 ag6 (true))else(ck ((0<=(at' p0 a7.1)∧(at' p0 a7.1)<((256:Nat):Int))∧List.length a7.2=256) (graph_DifferentIDs_k2 p0 a7 ag6 ((at' a7.2 (at' p0 a7.1))))))))else(graph_DifferentIDs_k1  (()))
def m_graph_DifferentIDs (fuel:Nat) (p0:List (Int)):Option (Bool):=
 iter (graph_DifferentIDs_s1 p0) fuel ((0:Int),(List.replicate 256 false))
theorem body68:HasBody Tryz.prog 68:=Tryz.call68
theorem t_graph_DifferentIDs (fuel:Nat) {p0:List (Int)} (v0:Value) (r:Bool) (h:m_graph_DifferentIDs fuel p0=some r):
  Meets Tryz.prog 68 #[v0] [Sl RI64 v0 p0] (fun x:Unit=>Value.bool (r)) (fun x l=>l) (fun _ l=>l):=by
 refine Meets.of (vs:=[v0]) Tryz.func68 rfl Tryz.ntmps68 rfl fun c=> ?_
 unfold m_graph_DifferentIDs at h
 refine J.seq<|J.region<|J.quiet (Y.assign rfl) rfl<|J.done<|J.thenN<|J.seq<|J.region ?_
 refine J.loud (Loud.alloc (cs:=cellsOf EBo (List.replicate 256 false)) rfl (by kernel_rfl)) rfl fun b1=> ?_
 refine J.done<|J.thenN<|J.seq<|J.midI (A:=Unit) (B:=Unit) (fun a2=>graph_DifferentIDs_k1  a2=some r) (fun a2 b3=>[]) (fun a2 b3=>[]) (fun a2 b3=>[Sl RI64 v0 p0]) ?_ ?_
 ·refine J.seq<|J.region<|J.quiet (Y.move rfl) rfl<|J.quiet (Y.lenS rfl (Lent.fact 0 rfl) rfl) rfl<|J.quiet (Y.move rfl) rfl<|J.done<|J.thenN<|J.block<|J.loopI (A:=Int×List (Bool)) (B:=Unit) (graph_DifferentIDs_s1 p0) (fun a7 b8=>[(3,Value.pointer (some ⟨b1,0,none⟩)),(6,v0),(7,Value.int .i64 (List.length p0:Int)),(8,Value.int .i64 (a7.1))]) (fun a7 b8=>[Blk b1 (cellsOf EBo a7.2) 121]) (fun a7 b8=>[Sl RI64 v0 p0]) ((0:Int),(List.replicate 256 false)) (()) h SF (SubM.refl _) (LentAll.refl _ _) ?_
  clear h
  intro k9 a7 b8 h
  unfold graph_DifferentIDs_s1 at h
  refine J.seq<|J.region<|J.quiet (Y.lss rfl rfl) rfl<|J.done<|J.thenN<|J.seq ?_
  refine J.condD (by exact rfl) (fun hp10=> ?_) (fun hp10=> ?_)
  ·have h:=ifP hp10 h
   refine J.skip<|J.thenN<|J.seq<|J.block<|J.seq<|J.region ?_
   have h:=ck_some h;obtain⟨hc11,h⟩:=h
   refine J.quiet (Y.indexS rfl rfl (Lent.fact 0 rfl) rfl rfl hc11) rfl<|J.quiet (Y.loadS0 rfl (Lent.fact 0 rfl) rfl rfl rfl RI64c0 hc11) rfl<|J.quiet (Y.assign rfl) rfl<|J.done<|J.thenN<|J.seq<|J.seq<|J.midI (A:=Bool) (B:=Unit) (fun a13=>graph_DifferentIDs_k2 p0 a7 (iter (graph_DifferentIDs_s1 p0) k9) a13=some r) (fun a13 b14=>[(3,Value.pointer (some ⟨b1,0,none⟩)),(5,Value.int .i64 (at' p0 a7.1)),(6,v0),(7,Value.int .i64 (List.length p0:Int)),(8,Value.int .i64 (a7.1)),(22,Value.bool (a13))]) (fun a13 b14=>[Blk b1 (cellsOf EBo a7.2) 121]) (fun a13 b14=>[Sl RI64 v0 p0]) ?_ ?_
   ·refine J.region<|J.quiet (Y.move rfl) rfl<|J.quiet (Y.lss rfl rfl) rfl<|J.quiet (Y.move rfl) rfl ?_
    refine J.guardD (by exact rfl) (by exact rfl) (fun hp17=> ?_) (fun hp17=> ?_)
    ·have h:=ifP hp17 h
     refine J.guardN rfl rfl rfl<|J.guardN rfl rfl rfl<|J.quiet (Y.pickT rfl rfl) rfl<|J.quiet (Y.move rfl) rfl<|J.guardN rfl rfl rfl<|J.guardN rfl rfl rfl<|J.guardN rfl rfl rfl<|J.quiet (Y.pickT rfl rfl) rfl<|J.done<|J.thenN ?_
     exact J.meetI (true) (()) h SF (SubM.refl _) (LentAll.refl _ _)
    ·have h:=ifN hp17 h
     refine J.guardY rfl (Y.move rfl) rfl<|J.guardY rfl (Y.gtr rfl rfl) rfl<|J.quiet (Y.pickF rfl rfl) rfl<|J.quiet (Y.move rfl) rfl ?_
     refine J.guardD (by exact rfl) (by exact rfl) (fun hp18=> ?_) (fun hp18=> ?_)
     ·have h:=ifP hp18 h
      refine J.guardN rfl rfl rfl<|J.guardN rfl rfl rfl<|J.guardN rfl rfl rfl<|J.quiet (Y.pickT rfl rfl) rfl<|J.done<|J.thenN ?_
      exact J.meetI (true) (()) h SF (SubM.refl _) (LentAll.refl _ _)
     ·have h:=ifN hp18 h
      refine J.guardY rfl (Y.move rfl) rfl ?_
      have h:=ck_some h;obtain⟨hc19,h⟩:=h
      refine J.guardY rfl (Y.indexArr rfl rfl rfl rfl rfl hc19.1) rfl<|J.guardY rfl (Y.loadArr (e:=EBo) rfl (Lent.res 0 rfl) rfl rfl rfl rfl hc19) rfl<|J.quiet (Y.pickF rfl rfl) rfl<|J.done<|J.thenN ?_
      exact J.meetI ((at' a7.2 (at' p0 a7.1))) (()) h SF (SubM.refl _) (LentAll.refl _ _)
   ·clear h
    intro a13 b14 h
    unfold graph_DifferentIDs_k2 at h
    refine J.cond (by exact rfl) (fun hp15=> ?_) (fun hp15=> ?_)
    ·have h:=ifP hp15 h
     refine J.seq<|J.region<|J.quiet (Y.assign rfl) rfl<|J.done<|J.thenN<|J.ret<|J.thenR<|J.inR<|J.thenR<|J.thenR<|J.inR<|J.thenR ?_
     obtain rfl:=Option.some.inj h
     exact J.retG1 (()) rfl rfl (RV.tmp rfl) (SubM.nil) LentAll.nil
    ·have h:=ifBN hp15 h
     refine J.skip<|J.thenN<|J.region<|J.quiet (Y.move rfl) rfl ?_
     have h:=ck_some h;obtain⟨hc16,h⟩:=h
     refine J.quiet (Y.indexArr rfl rfl rfl rfl rfl hc16.1) rfl<|J.storeArr 0 (e:=EBo) true hc16 rfl rfl rfl rfl rfl rfl rfl<|J.done<|J.inN<|J.thenN<|J.region<|J.quiet (Y.addW rfl rfl) rfl<|J.quiet (Y.move rfl) rfl<|J.done<|J.thenN ?_
     exact J.againI ((wI .i64 (a7.1+(1:Int))),(List.set a7.2 (Int.toNat (at' p0 a7.1)) true)) (()) h SF (SubM.refl _) (LentAll.refl _ _)
  ·have h:=ifN hp10 h
   refine J.exit<|J.thenX<|J.thenX<|J.inX<|J.thenN ?_
   exact J.meetI (()) (()) h SF (SubM.nil) (LentAll.refl _ _)
 ·clear h
  intro a2 b3 h
  unfold graph_DifferentIDs_k1 at h
  refine J.seq<|J.region<|J.quiet (Y.assign rfl) rfl<|J.done<|J.thenN<|J.ret ?_
  obtain rfl:=Option.some.inj h
  exact J.retG1 (()) rfl rfl (RV.tmp rfl) (SubM.refl _) LentAll.nil
end Go.Proofs.YtfbkplemadmbfaaGreatDoor
end
section
namespace Go.Proofs.YtfbkplemadmbfaaGreatDoor
open Go.Sx
def graph_symmetric_s1 (a3:(List ((Int×Int)×Int))) (kv6:(Int×Int)×Int) (xa9:Option (Bool)):Option (Bool):=
 if(Option.getD (mget (kv6.1.2,kv6.1.1) a3) (0:Int))≠kv6.2 then(some (false))else(xa9)
def graph_symmetric_k1  (a3:(List ((Int×Int)×Int))):Option (Bool):=
 mrun (graph_symmetric_s1 a3) (some (true)) a3
def graph_symmetric_k2 (a17:Int×(List ((Int×Int)×Int))) (ag16:(Int×(List ((Int×Int)×Int)))->Option (Bool)) (a22:(List ((Int×Int)×Int))):Option (Bool):=
 ag16 ((wI .i64 (a17.1+(1:Int))),a22)
def graph_symmetric_k4 (p0:List (List (Int×Int))) (a17:Int×(List ((Int×Int)×Int))) (a28:Int×(List ((Int×Int)×Int))) (ag27:(Int×(List ((Int×Int)×Int)))->Option (Bool)) (a39:Bool):Option (Bool):=
 if a39=true then(some (false))else(if(Option.isSome (mget (a17.1,((at' (at' p0 a17.1) a28.1).1)) a28.2))=true then(some (false))else(ag27 ((wI .i64 (a28.1+(1:Int))),(mset (a17.1,((at' (at' p0 a17.1) a28.1).1)) ((at' (at' p0 a17.1) a28.1).2) a28.2))))
def graph_symmetric_k3 (p0:List (List (Int×Int))) (a17:Int×(List ((Int×Int)×Int))) (a28:Int×(List ((Int×Int)×Int))) (ag27:(Int×(List ((Int×Int)×Int)))->Option (Bool)) (a35:Bool):Option (Bool):=
 if a35=true then(some (false))else(if((at' (at' p0 a17.1) a28.1).2)<(1:Int)then(graph_symmetric_k4 p0 a17 a28 ag27 (true))else(graph_symmetric_k4 p0 a17 a28 ag27 (decide ((15:Int)<((at' (at' p0 a17.1) a28.1).2)))))
def graph_symmetric_s3 (p0:List (List (Int×Int))) (a17:Int×(List ((Int×Int)×Int))) (ag16:(Int×(List ((Int×Int)×Int)))->Option (Bool)) (a28:Int×(List ((Int×Int)×Int))) (ag27:(Int×(List ((Int×Int)×Int)))->Option (Bool)):Option (Bool):=
 if a28.1<(List.length (at' p0 a17.1):Int)then(ck (0<=a28.1∧a28.1<(List.length (at' p0 a17.1):Int)) (if((at' (at' p0 a17.1) a28.1).1)<(0:Int)then(graph_symmetric_k3 p0 a17 a28 ag27 (true))else(if(List.length p0:Int)<=((at' (at' p0 a17.1) a28.1).1)then(graph_symmetric_k3 p0 a17 a28 ag27 (true))else(graph_symmetric_k3 p0 a17 a28 ag27 (decide (((at' (at' p0 a17.1) a28.1).1)=a17.1))))))else(graph_symmetric_k2 a17 ag16 (a28.2))
def graph_symmetric_s2 (fuel:Nat) (p0:List (List (Int×Int))) (a17:Int×(List ((Int×Int)×Int))) (ag16:(Int×(List ((Int×Int)×Int)))->Option (Bool)):Option (Bool):=
 if a17.1<(List.length p0:Int)then(ck (0<=a17.1∧a17.1<(List.length p0:Int)) (iter (graph_symmetric_s3 p0 a17 ag16) fuel ((0:Int),a17.2)))else(graph_symmetric_k1  (a17.2))
def m_graph_symmetric (fuel:Nat) (p0:List (List (Int×Int))):Option (Bool):=
 iter (graph_symmetric_s2 fuel p0) fuel ((0:Int),([]:List ((Int×Int)×Int)))
theorem body69:HasBody Tryz.prog 69:=Tryz.call69
theorem t_graph_symmetric (fuel:Nat) {p0:List (List (Int×Int))} (v0:Value)  (z1:List (Value×List (Int×Int))) (r:Bool) (h:m_graph_symmetric fuel p0=some r):
  Meets Tryz.prog 69 #[v0] [S2 RI64I64p v0 z1 p0] (fun x:Unit=>Value.bool (r)) (fun x l=>l) (fun _ l=>l):=by
 refine Meets.of (vs:=[v0]) Tryz.func69 rfl Tryz.ntmps69 rfl fun c=> ?_
 unfold m_graph_symmetric at h
 refine J.seq<|J.region<|J.quiet (Y.assign rfl) rfl<|J.done<|J.thenN<|J.seq<|J.region<|J.loud (Loud.makeMap vI64I64p vI64) rfl fun b1=>J.quiet (Y.assign rfl) rfl<|J.done<|J.thenN<|J.seq<|J.midI (A:=(List ((Int×Int)×Int))) (B:=Unit) (fun a3=>graph_symmetric_k1  a3=some r) (fun a3 b4=>[(3,Value.map (some b1))]) (fun a3 b4=>[Mp vI64I64p vI64 b1 a3]) (fun a3 b4=>[S2 RI64I64p v0 z1 p0]) ?_ ?_
 ·refine J.seq<|J.region<|J.quiet (Y.move rfl) rfl<|J.quiet (Y.lenN rfl (Lent.fact 0 rfl) rfl) rfl<|J.quiet (Y.move rfl) rfl<|J.done<|J.thenN<|J.block<|J.loopI (A:=Int×(List ((Int×Int)×Int))) (B:=Unit) (graph_symmetric_s2 fuel p0) (fun a17 b18=>[(0,v0),(3,Value.map (some b1)),(14,v0),(15,Value.int .i64 (List.length p0:Int)),(16,Value.int .i64 (a17.1))]) (fun a17 b18=>[Mp vI64I64p vI64 b1 a17.2]) (fun a17 b18=>[S2 RI64I64p v0 z1 p0]) ((0:Int),([]:List ((Int×Int)×Int))) (()) h SF (SubM.refl _) (LentAll.refl _ _) ?_
  clear h
  intro k19 a17 b18 h
  unfold graph_symmetric_s2 at h
  refine J.seq<|J.region<|J.quiet (Y.lss rfl rfl) rfl<|J.done<|J.thenN<|J.seq ?_
  refine J.condD (by exact rfl) (fun hp20=> ?_) (fun hp20=> ?_)
  ·have h:=ifP hp20 h
   refine J.skip<|J.thenN<|J.seq<|J.midI (A:=(List ((Int×Int)×Int))) (B:=Unit) (fun a22=>graph_symmetric_k2 a17 (iter (graph_symmetric_s2 fuel p0) k19) a22=some r) (fun a22 b23=>[(0,v0),(3,Value.map (some b1)),(14,v0),(15,Value.int .i64 (List.length p0:Int)),(16,Value.int .i64 (a17.1))]) (fun a22 b23=>[Mp vI64I64p vI64 b1 a22]) (fun a22 b23=>[S2 RI64I64p v0 z1 p0]) ?_ ?_
   ·refine J.block<|J.seq<|J.region<|J.quiet (Y.move rfl) rfl ?_
    have h:=ck_some h;obtain⟨hc24,h⟩:=h
    refine J.quiet (Y.indexN rfl rfl (Lent.fact 0 rfl) rfl rfl hc24) rfl<|J.quiet (Y.loadRow rfl (Lent.fact 0 rfl) rfl rfl hc24) rfl<|J.quiet (Y.assign rfl) rfl<|J.quiet (Y.assign rfl) rfl<|J.done<|J.thenN<|J.seq<|J.region<|J.quiet (Y.move rfl) rfl<|J.quiet (Y.lenS rfl (Lent.el (Lent.fact 0 rfl) hc24.1 hc24.2) rfl) rfl<|J.quiet (Y.move rfl) rfl<|J.done<|J.thenN<|J.block<|J.loopI (A:=Int×(List ((Int×Int)×Int))) (B:=Unit) (graph_symmetric_s3 p0 a17 (iter (graph_symmetric_s2 fuel p0) k19)) (fun a28 b29=>[(0,v0),(3,Value.map (some b1)),(4,Value.int .i64 (a17.1)),(14,v0),(15,Value.int .i64 (List.length p0:Int)),(16,Value.int .i64 (a17.1)),(21,(at' z1 a17.1).1),(22,Value.int .i64 (List.length (at' p0 a17.1):Int)),(23,Value.int .i64 (a28.1))]) (fun a28 b29=>[Mp vI64I64p vI64 b1 a28.2]) (fun a28 b29=>[S2 RI64I64p v0 z1 p0]) ((0:Int),a17.2) (()) h SF (SubM.refl _) (LentAll.refl _ _) ?_
    clear h
    intro k30 a28 b29 h
    unfold graph_symmetric_s3 at h
    refine J.seq<|J.region<|J.quiet (Y.lss rfl rfl) rfl<|J.done<|J.thenN<|J.seq ?_
    refine J.condD (by exact rfl) (fun hp31=> ?_) (fun hp31=> ?_)
    ·have h:=ifP hp31 h
     refine J.skip<|J.thenN<|J.seq<|J.block<|J.seq<|J.region ?_
     have h:=ck_some h;obtain⟨hc32,h⟩:=h
     refine J.quiet (Y.indexS rfl rfl (Lent.el (Lent.fact 0 rfl) hc24.1 hc24.2) rfl rfl hc32) rfl<|J.quiet (Y.loadAggS (cs:=[Value.int .i64 ((at' (at' p0 a17.1) a28.1).1),Value.int .i64 ((at' (at' p0 a17.1) a28.1).2)]) rfl (Lent.el (Lent.fact 0 rfl) hc24.1 hc24.2) FI64I64p rfl rfl rfl rfl hc32) rfl<|J.loud (Loud.alloc (cs:=[Value.int .i64 (0:Int),Value.int .i64 (0:Int)]) rfl rfl) rfl fun b33=>J.storeAll 0 (vs:=[Value.int .i64 ((at' (at' p0 a17.1) a28.1).1),Value.int .i64 ((at' (at' p0 a17.1) a28.1).2)]) rfl rfl rfl rfl rfl rfl<|J.done<|J.thenN<|J.seq<|J.seq<|J.midI (A:=Bool) (B:=Unit) (fun a35=>graph_symmetric_k3 p0 a17 a28 (iter (graph_symmetric_s3 p0 a17 (iter (graph_symmetric_s2 fuel p0) k19)) k30) a35=some r) (fun a35 b36=>[(0,v0),(3,Value.map (some b1)),(4,Value.int .i64 (a17.1)),(7,Value.pointer (some ⟨b33,0,none⟩)),(14,v0),(15,Value.int .i64 (List.length p0:Int)),(16,Value.int .i64 (a17.1)),(21,(at' z1 a17.1).1),(22,Value.int .i64 (List.length (at' p0 a17.1):Int)),(23,Value.int .i64 (a28.1)),(42,Value.bool (a35))]) (fun a35 b36=>[Blk b33 [Value.int .i64 ((at' (at' p0 a17.1) a28.1).1),Value.int .i64 ((at' (at' p0 a17.1) a28.1).2)] 87,Mp vI64I64p vI64 b1 a28.2]) (fun a35 b36=>[S2 RI64I64p v0 z1 p0]) ?_ ?_
     ·refine J.region<|J.quiet (Y.fieldB rfl rfl rfl rfl rfl) rfl<|J.quiet (Y.loadB 0 rfl rfl rfl rfl rfl) rfl<|J.quiet (Y.lss rfl rfl) rfl<|J.quiet (Y.move rfl) rfl ?_
      refine J.guardD (by exact rfl) (by exact rfl) (fun hp45=> ?_) (fun hp45=> ?_)
      ·have h:=ifP hp45 h
       refine J.guardN rfl rfl rfl<|J.guardN rfl rfl rfl<|J.guardN rfl rfl rfl<|J.guardN rfl rfl rfl<|J.guardN rfl rfl rfl<|J.quiet (Y.pickT rfl rfl) rfl<|J.quiet (Y.move rfl) rfl<|J.guardN rfl rfl rfl<|J.guardN rfl rfl rfl<|J.guardN rfl rfl rfl<|J.guardN rfl rfl rfl<|J.quiet (Y.pickT rfl rfl) rfl<|J.done<|J.thenN ?_
       exact J.meetI (true) (()) h SF (SubM.refl _) (LentAll.refl _ _)
      ·have h:=ifN hp45 h
       refine J.guardY rfl (Y.fieldB rfl rfl rfl rfl rfl) rfl<|J.guardY rfl (Y.loadB 0 rfl rfl rfl rfl rfl) rfl<|J.guardY rfl (Y.move rfl) rfl<|J.guardY rfl (Y.lenN rfl (Lent.fact 0 rfl) rfl) rfl<|J.guardY rfl (Y.geq rfl rfl) rfl<|J.quiet (Y.pickF rfl rfl) rfl<|J.quiet (Y.move rfl) rfl ?_
       refine J.guardD (by exact rfl) (by exact rfl) (fun hp46=> ?_) (fun hp46=> ?_)
       ·have h:=ifP hp46 h
        refine J.guardN rfl rfl rfl<|J.guardN rfl rfl rfl<|J.guardN rfl rfl rfl<|J.guardN rfl rfl rfl<|J.quiet (Y.pickT rfl rfl) rfl<|J.done<|J.thenN ?_
        exact J.meetI (true) (()) h SF (SubM.refl _) (LentAll.refl _ _)
       ·have h:=ifN hp46 h
        refine J.guardY rfl (Y.fieldB rfl rfl rfl rfl rfl) rfl<|J.guardY rfl (Y.loadB 0 rfl rfl rfl rfl rfl) rfl<|J.guardY rfl (Y.move rfl) rfl<|J.guardY rfl (Y.eql rfl rfl) rfl<|J.quiet (Y.pickF rfl rfl) rfl<|J.done<|J.thenN ?_
        exact J.meetI (decide (((at' (at' p0 a17.1) a28.1).1)=a17.1)) (()) h SF (SubM.refl _) (LentAll.refl _ _)
     ·clear h
      intro a35 b36 h
      unfold graph_symmetric_k3 at h
      refine J.cond (by exact rfl) (fun hp37=> ?_) (fun hp37=> ?_)
      ·have h:=ifP hp37 h
       refine J.seq<|J.region<|J.quiet (Y.assign rfl) rfl<|J.done<|J.thenN<|J.ret<|J.thenR<|J.inR<|J.thenR<|J.thenR<|J.inR<|J.inR<|J.thenR<|J.thenR<|J.inR<|J.thenR ?_
       obtain rfl:=Option.some.inj h
       exact J.retG1 (()) rfl rfl (RV.tmp rfl) (SubM.nil) LentAll.nil
      ·have h:=ifBN hp37 h
       refine J.skip<|J.thenN<|J.seq<|J.seq<|J.midI (A:=Bool) (B:=Unit) (fun a39=>graph_symmetric_k4 p0 a17 a28 (iter (graph_symmetric_s3 p0 a17 (iter (graph_symmetric_s2 fuel p0) k19)) k30) a39=some r) (fun a39 b40=>[(0,v0),(3,Value.map (some b1)),(4,Value.int .i64 (a17.1)),(7,Value.pointer (some ⟨b33,0,none⟩)),(14,v0),(15,Value.int .i64 (List.length p0:Int)),(16,Value.int .i64 (a17.1)),(21,(at' z1 a17.1).1),(22,Value.int .i64 (List.length (at' p0 a17.1):Int)),(23,Value.int .i64 (a28.1)),(50,Value.bool (a39))]) (fun a39 b40=>[Blk b33 [Value.int .i64 ((at' (at' p0 a17.1) a28.1).1),Value.int .i64 ((at' (at' p0 a17.1) a28.1).2)] 87,Mp vI64I64p vI64 b1 a28.2]) (fun a39 b40=>[S2 RI64I64p v0 z1 p0]) ?_ ?_
       ·refine J.region<|J.quiet (Y.fieldB rfl rfl rfl rfl rfl) rfl<|J.quiet (Y.loadB 0 rfl rfl rfl rfl rfl) rfl<|J.quiet (Y.lss rfl rfl) rfl<|J.quiet (Y.move rfl) rfl ?_
        refine J.guardD (by exact rfl) (by exact rfl) (fun hp44=> ?_) (fun hp44=> ?_)
        ·have h:=ifP hp44 h
         refine J.guardN rfl rfl rfl<|J.guardN rfl rfl rfl<|J.guardN rfl rfl rfl<|J.quiet (Y.pickT rfl rfl) rfl<|J.done<|J.thenN ?_
         exact J.meetI (true) (()) h SF (SubM.refl _) (LentAll.refl _ _)
        ·have h:=ifN hp44 h
         refine J.guardY rfl (Y.fieldB rfl rfl rfl rfl rfl) rfl<|J.guardY rfl (Y.loadB 0 rfl rfl rfl rfl rfl) rfl<|J.guardY rfl (Y.gtr rfl rfl) rfl<|J.quiet (Y.pickF rfl rfl) rfl<|J.done<|J.thenN ?_
         exact J.meetI (decide ((15:Int)<((at' (at' p0 a17.1) a28.1).2))) (()) h SF (SubM.refl _) (LentAll.refl _ _)
       ·clear h
        intro a39 b40 h
        unfold graph_symmetric_k4 at h
        refine J.cond (by exact rfl) (fun hp41=> ?_) (fun hp41=> ?_)
        ·have h:=ifP hp41 h
         refine J.seq<|J.region<|J.quiet (Y.assign rfl) rfl<|J.done<|J.thenN<|J.ret<|J.thenR<|J.inR<|J.thenR<|J.thenR<|J.inR<|J.inR<|J.thenR<|J.thenR<|J.inR<|J.thenR ?_
         obtain rfl:=Option.some.inj h
         exact J.retG1 (()) rfl rfl (RV.tmp rfl) (SubM.nil) LentAll.nil
        ·have h:=ifBN hp41 h
         refine J.skip<|J.thenN<|J.seq<|J.region<|J.quiet (Y.move rfl) rfl<|J.quiet (Y.fieldB rfl rfl rfl rfl rfl) rfl<|J.quiet (Y.loadB 0 rfl rfl rfl rfl rfl) rfl ?_
         refine J.quiet (Y.bld2 (r:=Value.agg #[Value.int .i64 (a17.1),Value.int .i64 ((at' (at' p0 a17.1) a28.1).1)]) rfl rfl (by intro w;simp[Instr.build,Instr.fill,cells_intV,cells_boolV,cells_sliceV,cells_ptrV,cells_strV,cells_funcV,cells_agg])) rfl ?_
         refine J.loud (Loud.alloc (cs:=[Value.int .i64 (0:Int),Value.int .i64 (0:Int)]) rfl rfl) rfl fun b42=>J.storeAll 0 (vs:=[Value.int .i64 (a17.1),Value.int .i64 ((at' (at' p0 a17.1) a28.1).1)]) rfl rfl rfl rfl rfl rfl<|J.done<|J.thenN<|J.seq<|J.seq<|J.region<|J.quiet (Y.move rfl) rfl<|J.quiet (Y.loadBAll 0 rfl rfl rfl rfl) rfl ?_
         refine J.quiet (Y.lookup 2 ((a17.1,((at' (at' p0 a17.1) a28.1).1))) (u:=Value.int .i64 (Option.getD (mget (a17.1,((at' (at' p0 a17.1) a28.1).1)) a28.2) (0:Int))) kok_123 rfl rfl rfl rfl rfl (by cases mget ((a17.1,((at' (at' p0 a17.1) a28.1).1))) a28.2<;>rfl)) rfl ?_
         refine J.quiet (Y.move rfl) rfl<|J.quiet (Y.extract rfl rfl) rfl<|J.quiet (Y.extract rfl rfl) rfl<|J.quiet (Y.assign rfl) rfl<|J.quiet (Y.assign rfl) rfl<|J.done<|J.thenN<|J.seq<|J.region<|J.quiet (Y.move rfl) rfl<|J.done<|J.thenN ?_
         refine J.cond (by exact rfl) (fun hp43=> ?_) (fun hp43=> ?_)
         ·have h:=ifP hp43 h
          refine J.seq<|J.region<|J.quiet (Y.assign rfl) rfl<|J.done<|J.thenN<|J.ret<|J.thenR<|J.inR<|J.thenR<|J.thenR<|J.inR<|J.inR<|J.thenR<|J.thenR<|J.inR<|J.thenR ?_
          obtain rfl:=Option.some.inj h
          exact J.retG1 (()) rfl rfl (RV.tmp rfl) (SubM.nil) LentAll.nil
         ·have h:=ifBN hp43 h
          refine J.skip<|J.thenN<|J.region<|J.quiet (Y.move rfl) rfl<|J.quiet (Y.loadBAll 0 rfl rfl rfl rfl) rfl<|J.quiet (Y.fieldB rfl rfl rfl rfl rfl) rfl<|J.quiet (Y.loadB 1 rfl rfl rfl rfl rfl) rfl<|J.mapUpdate 2 ((a17.1,((at' (at' p0 a17.1) a28.1).1))) ((at' (at' p0 a17.1) a28.1).2) kok_123 rfl rfl rfl rfl rfl<|J.done<|J.inN<|J.thenN<|J.region<|J.quiet (Y.addW rfl rfl) rfl<|J.quiet (Y.move rfl) rfl<|J.done<|J.thenN ?_
          exact J.againI ((wI .i64 (a28.1+(1:Int))),(mset (a17.1,((at' (at' p0 a17.1) a28.1).1)) ((at' (at' p0 a17.1) a28.1).2) a28.2)) (()) h SF (SubM.cons 2 rfl (SubM.nil)) (LentAll.refl _ _)
    ·have h:=ifN hp31 h
     refine J.exit<|J.thenX<|J.thenX<|J.inX<|J.inN<|J.thenN ?_
     exact J.meetI (a28.2) (()) h SF (SubM.refl _) (LentAll.refl _ _)
   ·clear h
    intro a22 b23 h
    unfold graph_symmetric_k2 at h
    refine J.region<|J.quiet (Y.addW rfl rfl) rfl<|J.quiet (Y.move rfl) rfl<|J.done<|J.thenN ?_
    exact J.againI ((wI .i64 (a17.1+(1:Int))),a22) (()) h SF (SubM.refl _) (LentAll.refl _ _)
  ·have h:=ifN hp20 h
   refine J.exit<|J.thenX<|J.thenX<|J.inX<|J.thenN ?_
   exact J.meetI (a17.2) (()) h SF (SubM.refl _) (LentAll.refl _ _)
 ·clear h
  intro a3 b4 h
  unfold graph_symmetric_k1 at h
  refine J.seq<|J.seq<|J.region<|J.quiet (Y.move rfl) rfl<|J.loud (Loud.range 0 rfl rfl rfl) rfl fun b5=>J.done<|J.thenN<|J.block<|J.weakE [(3,Value.map (some b1)),(69,Value.pointer (some ⟨b5,0,none⟩))] [It b5 b1 (List.length a3) ([]),Mp vI64I64p vI64 b1 a3] [S2 RI64I64p v0 z1 p0] SF (SubM.refl _) (LentAll.refl _ _) ?_
  refine J.loopMap (graph_symmetric_s1 a3) 1 0 (by intro a b x;unfold graph_symmetric_s1;repeat' split;all_goals first|rfl|contradiction|simp_all) h rfl rfl rfl rfl rfl rfl ?_ ?_
  ·clear h
   intro kv6 i7 se8 xa9 hkv10 h
   unfold graph_symmetric_s1 at h
   refine J.block<|J.seq<|J.region<|J.loud (Loud.entry 1 0 hkv10 rfl rfl rfl) rfl fun x11=>J.quiet (Y.extract rfl rfl) rfl<|J.quiet (Y.extract rfl rfl) rfl<|J.loud (Loud.alloc (cs:=[Value.int .i64 (0:Int),Value.int .i64 (0:Int)]) rfl rfl) rfl fun b12=>J.storeAll 0 (vs:=[Value.int .i64 (kv6.1.1),Value.int .i64 (kv6.1.2)]) rfl rfl rfl rfl rfl rfl<|J.quiet (Y.assign rfl) rfl<|J.done<|J.thenN<|J.seq<|J.region<|J.quiet (Y.move rfl) rfl ?_
   refine J.quiet (Y.indexArr (i:=1) rfl rfl rfl rfl rfl (by decide)) rfl ?_
   refine J.quiet (Y.loadB 0 rfl rfl rfl rfl rfl) rfl ?_
   refine J.quiet (Y.indexArr (i:=0) rfl rfl rfl rfl rfl (by decide)) rfl ?_
   refine J.quiet (Y.loadB 0 rfl rfl rfl rfl rfl) rfl ?_
   refine J.quiet (Y.bld2 (r:=Value.agg #[Value.int .i64 (kv6.1.2),Value.int .i64 (kv6.1.1)]) rfl rfl (by intro w;simp[Instr.build,Instr.fill,cells_intV,cells_boolV,cells_sliceV,cells_ptrV,cells_strV,cells_funcV,cells_agg])) rfl ?_
   refine J.quiet (Y.lookup 2 ((kv6.1.2,kv6.1.1)) (u:=Value.int .i64 (Option.getD (mget (kv6.1.2,kv6.1.1) a3) (0:Int))) kok_123 rfl rfl rfl rfl rfl (by cases mget ((kv6.1.2,kv6.1.1)) a3<;>rfl)) rfl ?_
   refine J.quiet (Y.move rfl) rfl<|J.quiet (Y.neq rfl rfl) rfl<|J.done<|J.thenN ?_
   refine J.condD (by exact rfl) (fun hp13=> ?_) (fun hp13=> ?_)
   ·have h:=ifP hp13 h
    refine J.seq<|J.region<|J.quiet (Y.assign rfl) rfl<|J.done<|J.thenN<|J.ret<|J.inR<|J.thenR<|J.inR<|J.thenR ?_
    obtain rfl:=Option.some.inj h
    exact J.retG1 (()) rfl rfl (RV.tmp rfl) (SubM.nil) LentAll.nil
   ·have h:=ifN hp13 h
    refine J.skip<|J.inN<|J.thenN ?_
    exact J.mapAgain h SF (SubM.cons 1 rfl (SubM.cons 1 rfl (SubM.nil))) (LentAll.refl _ _)
  ·clear h
   intro se8 h
   refine J.inX<|J.thenN<|J.seq<|J.region<|J.quiet (Y.assign rfl) rfl<|J.done<|J.thenN<|J.ret ?_
   obtain rfl:=Option.some.inj h
   exact J.retG1 (()) rfl rfl (RV.tmp rfl) (SubM.nil) LentAll.nil
end Go.Proofs.YtfbkplemadmbfaaGreatDoor
end
section
namespace Go.Proofs.YtfbkplemadmbfaaGreatDoor
open Go.Sx
def graph_Valid_k2  (a7:Bool):Option (Bool):=
 some (a7)
def graph_Valid_k1 (fuel:Nat) (p0:List (Int)×(List (List (Int×Int)))) (a3:Bool):Option (Bool):=
 if a3=true then(some (false))else(Option.bind (m_graph_DifferentIDs fuel p0.1) fun r9=>(if r9=true then(Option.bind (m_graph_symmetric fuel p0.2) fun r13=>(graph_Valid_k2  (r13)))else(graph_Valid_k2  (false))))
def m_graph_Valid (fuel:Nat) (p0:List (Int)×(List (List (Int×Int)))):Option (Bool):=
 if(List.length p0.1:Int)<(1:Int)then(graph_Valid_k1 fuel p0 (true))else(if(24:Int)<(List.length p0.1:Int)then(graph_Valid_k1 fuel p0 (true))else(graph_Valid_k1 fuel p0 (decide ((List.length p0.2:Int)≠(List.length p0.1:Int)))))
theorem body32:HasBody Tryz.prog 32:=Tryz.call32
theorem t_graph_Valid (fuel:Nat) {p0:List (Int)×(List (List (Int×Int)))} (v0:Value)  (v1:Value)  (z2:List (Value×List (Int×Int))) (r:Bool) (h:m_graph_Valid fuel p0=some r):
  Meets Tryz.prog 32 #[Value.agg #[v0,v1]] [Sl RI64 v0 p0.1,S2 RI64I64p v1 z2 p0.2] (fun x:Unit=>Value.bool (r)) (fun x l=>l) (fun _ l=>l):=by
 refine Meets.of (vs:=[Value.agg #[v0,v1]]) Tryz.func32 rfl Tryz.ntmps32 rfl fun c=> ?_
 unfold m_graph_Valid at h
 refine J.seq<|J.region<|J.loud (Loud.box (cs:=[v0,v1]) rfl rfl) rfl fun b1=>J.quiet (Y.assign rfl) rfl<|J.done<|J.thenN<|J.seq<|J.region<|J.quiet (Y.fieldB rfl rfl rfl rfl rfl) rfl<|J.quiet (Y.loadB 0 rfl rfl rfl rfl rfl) rfl<|J.quiet (Y.lenS rfl (Lent.fact 0 rfl) rfl) rfl<|J.quiet (Y.assign rfl) rfl<|J.done<|J.thenN<|J.seq<|J.seq<|J.midI (A:=Bool) (B:=Unit) (fun a3=>graph_Valid_k1 fuel p0 a3=some r) (fun a3 b4=>[(1,Value.pointer (some ⟨b1,0,none⟩)),(19,Value.bool (a3))]) (fun a3 b4=>[Blk b1 [v0,v1] 25]) (fun a3 b4=>[Sl RI64 v0 p0.1,S2 RI64I64p v1 z2 p0.2]) ?_ ?_
 ·refine J.region<|J.quiet (Y.move rfl) rfl<|J.quiet (Y.lss rfl rfl) rfl<|J.quiet (Y.move rfl) rfl ?_
  refine J.guardD (by exact rfl) (by exact rfl) (fun hp16=> ?_) (fun hp16=> ?_)
  ·have h:=ifP hp16 h
   refine J.guardN rfl rfl rfl<|J.guardN rfl rfl rfl<|J.quiet (Y.pickT rfl rfl) rfl<|J.quiet (Y.move rfl) rfl<|J.guardN rfl rfl rfl<|J.guardN rfl rfl rfl<|J.guardN rfl rfl rfl<|J.guardN rfl rfl rfl<|J.guardN rfl rfl rfl<|J.quiet (Y.pickT rfl rfl) rfl<|J.done<|J.thenN ?_
   exact J.meetI (true) (()) h SF (SubM.refl _) (LentAll.refl _ _)
  ·have h:=ifN hp16 h
   refine J.guardY rfl (Y.move rfl) rfl<|J.guardY rfl (Y.gtr rfl rfl) rfl<|J.quiet (Y.pickF rfl rfl) rfl<|J.quiet (Y.move rfl) rfl ?_
   refine J.guardD (by exact rfl) (by exact rfl) (fun hp17=> ?_) (fun hp17=> ?_)
   ·have h:=ifP hp17 h
    refine J.guardN rfl rfl rfl<|J.guardN rfl rfl rfl<|J.guardN rfl rfl rfl<|J.guardN rfl rfl rfl<|J.guardN rfl rfl rfl<|J.quiet (Y.pickT rfl rfl) rfl<|J.done<|J.thenN ?_
    exact J.meetI (true) (()) h SF (SubM.refl _) (LentAll.refl _ _)
   ·have h:=ifN hp17 h
    refine J.guardY rfl (Y.fieldB rfl rfl rfl rfl rfl) rfl<|J.guardY rfl (Y.loadB 0 rfl rfl rfl rfl rfl) rfl<|J.guardY rfl (Y.lenN rfl (Lent.fact 1 rfl) rfl) rfl<|J.guardY rfl (Y.move rfl) rfl<|J.guardY rfl (Y.neq rfl rfl) rfl<|J.quiet (Y.pickF rfl rfl) rfl<|J.done<|J.thenN ?_
    exact J.meetI (decide ((List.length p0.2:Int)≠(List.length p0.1:Int))) (()) h SF (SubM.refl _) (LentAll.refl _ _)
 ·clear h
  intro a3 b4 h
  unfold graph_Valid_k1 at h
  refine J.cond (by exact rfl) (fun hp5=> ?_) (fun hp5=> ?_)
  ·have h:=ifP hp5 h
   refine J.seq<|J.region<|J.quiet (Y.assign rfl) rfl<|J.done<|J.thenN<|J.ret<|J.thenR ?_
   obtain rfl:=Option.some.inj h
   exact J.retG1 (()) rfl rfl (RV.tmp rfl) (SubM.nil) LentAll.nil
  ·have h:=ifBN hp5 h
   refine J.skip<|J.thenN<|J.seq<|J.midI (A:=Bool) (B:=Unit) (fun a7=>graph_Valid_k2  a7=some r) (fun a7 b8=>[(2,Value.bool (a7))]) (fun a7 b8=>[]) (fun a7 b8=>[Sl RI64 v0 p0.1,S2 RI64I64p v1 z2 p0.2]) ?_ ?_
   ·refine J.region<|J.quiet (Y.fieldB rfl rfl rfl rfl rfl) rfl<|J.quiet (Y.loadB 0 rfl rfl rfl rfl rfl) rfl ?_
    have h:=bnd h;obtain⟨r9,hr10,h⟩:=h
    refine J.loud (Loud.callL body68 (t_graph_DifferentIDs fuel v0 r9 hr10) rfl (LentAll.cons (Lent.fact 0 rfl) .nil) (fun _ _=>rfl)) rfl fun x11=>J.quiet (Y.move rfl) rfl ?_
    refine J.guard (by exact rfl) (by exact rfl) (fun hp12=> ?_) (fun hp12=> ?_)
    ·have h:=ifP hp12 h
     refine J.guardY rfl (Y.fieldB rfl rfl rfl rfl rfl) rfl<|J.guardY rfl (Y.loadB 0 rfl rfl rfl rfl rfl) rfl ?_
     have h:=bnd h;obtain⟨r13,hr14,h⟩:=h
     refine J.loudG rfl (Loud.callL body69 (t_graph_symmetric fuel v1 z2 r13 hr14) rfl (LentAll.cons (Lent.fact 1 rfl) .nil) (fun _ _=>rfl)) rfl fun x15=>J.quiet (Y.pickT rfl rfl) rfl<|J.quiet (Y.assign rfl) rfl<|J.done<|J.thenN ?_
     exact J.meetI (r13) (()) h SF (SubM.nil) (LentAll.refl _ _)
    ·have h:=ifBN hp12 h
     refine J.guardN rfl rfl rfl<|J.guardN rfl rfl rfl<|J.guardN rfl rfl rfl<|J.quiet (Y.pickF rfl rfl) rfl<|J.quiet (Y.assign rfl) rfl<|J.done<|J.thenN ?_
     exact J.meetI (false) (()) h SF (SubM.nil) (LentAll.refl _ _)
   ·clear h
    intro a7 b8 h
    unfold graph_Valid_k2 at h
    refine J.ret ?_
    obtain rfl:=Option.some.inj h
    exact J.retG1 (()) rfl rfl (RV.tmp rfl) (SubM.refl _) LentAll.nil
end Go.Proofs.YtfbkplemadmbfaaGreatDoor
end
section
namespace Go.Proofs.YtfbkplemadmbfaaGreatDoor
open Go.Sx
def ref01_In_k1  (a2:Bool):Option (Bool):=
 some (a2)
def m_ref01_In (fuel:Nat) (p0:Int) (p1:Int) (p2:Int):Option (Bool):=
 if p1<=p0 then(ref01_In_k1  (decide (p0<=p2)))else(ref01_In_k1  (false))
theorem body71:HasBody Tryz.prog 71:=Tryz.call71
theorem t_ref01_In (fuel:Nat) {p0:Int} {p1:Int} {p2:Int} (r:Bool) (h:m_ref01_In fuel p0 p1 p2=some r):
  Meets Tryz.prog 71 #[Value.int .i64 (p0),Value.int .i64 (p1),Value.int .i64 (p2)] [] (fun x:Unit=>Value.bool (r)) (fun x l=>l) (fun _ l=>l):=by
 refine Meets.of (vs:=[Value.int .i64 (p0),Value.int .i64 (p1),Value.int .i64 (p2)]) Tryz.func71 rfl Tryz.ntmps71 rfl fun c=> ?_
 unfold m_ref01_In at h
 refine J.seq<|J.region<|J.quiet (Y.assign rfl) rfl<|J.done<|J.thenN<|J.seq<|J.midI (A:=Bool) (B:=Unit) (fun a2=>ref01_In_k1  a2=some r) (fun a2 b3=>[(6,Value.bool (a2))]) (fun a2 b3=>[]) (fun a2 b3=>[]) ?_ ?_
 ·refine J.region<|J.quiet (Y.move rfl) rfl<|J.quiet (Y.move rfl) rfl<|J.quiet (Y.geq rfl rfl) rfl<|J.quiet (Y.move rfl) rfl ?_
  refine J.guardD (by exact rfl) (by exact rfl) (fun hp4=> ?_) (fun hp4=> ?_)
  ·have h:=ifP hp4 h
   refine J.guardY rfl (Y.move rfl) rfl<|J.guardY rfl (Y.move rfl) rfl<|J.guardY rfl (Y.leq rfl rfl) rfl<|J.quiet (Y.pickT rfl rfl) rfl<|J.quiet (Y.assign rfl) rfl<|J.done<|J.thenN ?_
   exact J.meetI (decide (p0<=p2)) (()) h SF (SubM.refl _) (LentAll.refl _ _)
  ·have h:=ifN hp4 h
   refine J.guardN rfl rfl rfl<|J.guardN rfl rfl rfl<|J.guardN rfl rfl rfl<|J.quiet (Y.pickF rfl rfl) rfl<|J.quiet (Y.assign rfl) rfl<|J.done<|J.thenN ?_
   exact J.meetI (false) (()) h SF (SubM.refl _) (LentAll.refl _ _)
 ·clear h
  intro a2 b3 h
  unfold ref01_In_k1 at h
  refine J.ret ?_
  obtain rfl:=Option.some.inj h
  exact J.retG1 (()) rfl rfl (RV.tmp rfl) (SubM.refl _) LentAll.nil
end Go.Proofs.YtfbkplemadmbfaaGreatDoor
end
section
namespace Go.Proofs.YtfbkplemadmbfaaGreatDoor
open Go.Sx
def ref01_linksValid_k1  (a1:Unit):Option (Bool):=
 some (true)
def ref01_linksValid_k2 (a5:Int) (ag4:(Int)->Option (Bool)) (a9:Unit):Option (Bool):=
 ag4 (wI .i64 (a5+(1:Int)))
def ref01_linksValid_s2 (p0:List (Int×Int)) (a5:Int) (ag4:(Int)->Option (Bool)) (a17:Int) (ag16:(Int)->Option (Bool)):Option (Bool):=
 if a17<a5 then(ck (0<=a17∧a17<(List.length p0:Int)) (ck (0<=a5∧a5<(List.length p0:Int)) (if((at' p0 a17).1)=((at' p0 a5).1)then(some (false))else(ag16 (wI .i64 (a17+(1:Int)))))))else(ref01_linksValid_k2 a5 ag4 (()))
def ref01_linksValid_k3 (fuel:Nat) (p0:List (Int×Int)) (a5:Int) (ag4:(Int)->Option (Bool)) (a12:Bool):Option (Bool):=
 if a12=true then(some (false))else(iter (ref01_linksValid_s2 p0 a5 ag4) fuel (0:Int))
def ref01_linksValid_s1 (fuel:Nat) (p0:List (Int×Int)) (p1:Int) (p2:Int) (a5:Int) (ag4:(Int)->Option (Bool)):Option (Bool):=
 if a5<(List.length p0:Int)then(ck (0<=a5∧a5<(List.length p0:Int)) (Option.bind (m_ref01_In fuel ((at' p0 a5).1) (0:Int) (wI .i64 (p2 - (1:Int)))) fun r25=>(if(!r25)=true then(ref01_linksValid_k3 fuel p0 a5 ag4 (true))else(ck (0<=a5∧a5<(List.length p0:Int)) (if((at' p0 a5).1)=p1 then(ref01_linksValid_k3 fuel p0 a5 ag4 (true))else(ck (0<=a5∧a5<(List.length p0:Int)) (Option.bind (m_ref01_In fuel ((at' p0 a5).2) (1:Int) (15:Int)) fun r32=>(ref01_linksValid_k3 fuel p0 a5 ag4 ((!r32))))))))))else(ref01_linksValid_k1  (()))
def m_ref01_linksValid (fuel:Nat) (p0:List (Int×Int)) (p1:Int) (p2:Int):Option (Bool):=
 iter (ref01_linksValid_s1 fuel p0 p1 p2) fuel (0:Int)
theorem body72:HasBody Tryz.prog 72:=Tryz.call72
theorem t_ref01_linksValid (fuel:Nat) {p0:List (Int×Int)} {p1:Int} {p2:Int} (v0:Value) (r:Bool) (h:m_ref01_linksValid fuel p0 p1 p2=some r):
  Meets Tryz.prog 72 #[v0,Value.int .i64 (p1),Value.int .i64 (p2)] [Sl RI64I64p v0 p0] (fun x:Unit=>Value.bool (r)) (fun x l=>l) (fun _ l=>l):=by
 refine Meets.of (vs:=[v0,Value.int .i64 (p1),Value.int .i64 (p2)]) Tryz.func72 rfl Tryz.ntmps72 rfl fun c=> ?_
 unfold m_ref01_linksValid at h
 refine J.seq<|J.region<|J.quiet (Y.assign rfl) rfl<|J.done<|J.thenN<|J.seq<|J.midI (A:=Unit) (B:=Unit) (fun a1=>ref01_linksValid_k1  a1=some r) (fun a1 b2=>[]) (fun a1 b2=>[]) (fun a1 b2=>[Sl RI64I64p v0 p0]) ?_ ?_
 ·refine J.seq<|J.region<|J.quiet (Y.assign rfl) rfl<|J.done<|J.thenN<|J.block<|J.loopI (A:=Int) (B:=Unit) (ref01_linksValid_s1 fuel p0 p1 p2) (fun a5 b6=>[(0,v0),(1,Value.int .i64 (p1)),(2,Value.int .i64 (p2)),(7,Value.int .i64 (a5))]) (fun a5 b6=>[]) (fun a5 b6=>[Sl RI64I64p v0 p0]) (0:Int) (()) h SF (SubM.refl _) (LentAll.refl _ _) ?_
  clear h
  intro k7 a5 b6 h
  unfold ref01_linksValid_s1 at h
  refine J.seq<|J.seq<|J.region<|J.quiet (Y.move rfl) rfl<|J.quiet (Y.move rfl) rfl<|J.quiet (Y.lenS rfl (Lent.fact 0 rfl) rfl) rfl<|J.quiet (Y.lss rfl rfl) rfl<|J.done<|J.thenN ?_
  refine J.condD (by exact rfl) (fun hp8=> ?_) (fun hp8=> ?_)
  ·have h:=ifP hp8 h
   refine J.skip<|J.thenN<|J.seq<|J.midI (A:=Unit) (B:=Unit) (fun a9=>ref01_linksValid_k2 a5 (iter (ref01_linksValid_s1 fuel p0 p1 p2) k7) a9=some r) (fun a9 b10=>[(0,v0),(1,Value.int .i64 (p1)),(2,Value.int .i64 (p2)),(7,Value.int .i64 (a5))]) (fun a9 b10=>[]) (fun a9 b10=>[Sl RI64I64p v0 p0]) ?_ ?_
   ·refine J.block<|J.seq<|J.seq<|J.midI (A:=Bool) (B:=Unit) (fun a12=>ref01_linksValid_k3 fuel p0 a5 (iter (ref01_linksValid_s1 fuel p0 p1 p2) k7) a12=some r) (fun a12 b13=>[(0,v0),(1,Value.int .i64 (p1)),(2,Value.int .i64 (p2)),(7,Value.int .i64 (a5)),(41,Value.bool (a12))]) (fun a12 b13=>[]) (fun a12 b13=>[Sl RI64I64p v0 p0]) ?_ ?_
    ·refine J.region<|J.quiet (Y.move rfl) rfl<|J.quiet (Y.move rfl) rfl ?_
     have h:=ck_some h;obtain⟨hc24,h⟩:=h
     refine J.quiet (Y.indexS rfl rfl (Lent.fact 0 rfl) rfl rfl hc24) rfl<|J.quiet (Y.fieldEl rfl rfl rfl rfl rfl) rfl<|J.quiet (Y.loadS rfl (Lent.fact 0 rfl) rfl rfl rfl RI64I64pc0 hc24) rfl<|J.quiet (Y.move rfl) rfl<|J.quiet (Y.subW rfl rfl) rfl ?_
     have h:=bnd h;obtain⟨r25,hr26,h⟩:=h
     refine J.loud (Loud.callL body71 (t_ref01_In fuel  r25 hr26) rfl .nil (fun _ _=>rfl)) rfl fun x27=>J.quiet (Y.not rfl) rfl<|J.quiet (Y.move rfl) rfl ?_
     refine J.guard (by exact rfl) (by exact rfl) (fun hp28=> ?_) (fun hp28=> ?_)
     ·have h:=ifP hp28 h
      refine J.guardN rfl rfl rfl<|J.guardN rfl rfl rfl<|J.guardN rfl rfl rfl<|J.guardN rfl rfl rfl<|J.guardN rfl rfl rfl<|J.guardN rfl rfl rfl<|J.guardN rfl rfl rfl<|J.quiet (Y.pickT rfl rfl) rfl<|J.quiet (Y.move rfl) rfl<|J.guardN rfl rfl rfl<|J.guardN rfl rfl rfl<|J.guardN rfl rfl rfl<|J.guardN rfl rfl rfl<|J.guardN rfl rfl rfl<|J.guardN rfl rfl rfl<|J.guardN rfl rfl rfl<|J.quiet (Y.pickT rfl rfl) rfl<|J.done<|J.thenN ?_
      exact J.meetI (true) (()) h SF (SubM.refl _) (LentAll.refl _ _)
     ·have h:=ifBN hp28 h
      refine J.guardY rfl (Y.move rfl) rfl<|J.guardY rfl (Y.move rfl) rfl ?_
      have h:=ck_some h;obtain⟨hc29,h⟩:=h
      refine J.guardY rfl (Y.indexS rfl rfl (Lent.fact 0 rfl) rfl rfl hc29) rfl<|J.guardY rfl (Y.fieldEl rfl rfl rfl rfl rfl) rfl<|J.guardY rfl (Y.loadS rfl (Lent.fact 0 rfl) rfl rfl rfl RI64I64pc0 hc29) rfl<|J.guardY rfl (Y.move rfl) rfl<|J.guardY rfl (Y.eql rfl rfl) rfl<|J.quiet (Y.pickF rfl rfl) rfl<|J.quiet (Y.move rfl) rfl ?_
      refine J.guardD (by exact rfl) (by exact rfl) (fun hp30=> ?_) (fun hp30=> ?_)
      ·have h:=ifP hp30 h
       refine J.guardN rfl rfl rfl<|J.guardN rfl rfl rfl<|J.guardN rfl rfl rfl<|J.guardN rfl rfl rfl<|J.guardN rfl rfl rfl<|J.guardN rfl rfl rfl<|J.guardN rfl rfl rfl<|J.quiet (Y.pickT rfl rfl) rfl<|J.done<|J.thenN ?_
       exact J.meetI (true) (()) h SF (SubM.refl _) (LentAll.refl _ _)
      ·have h:=ifN hp30 h
       refine J.guardY rfl (Y.move rfl) rfl<|J.guardY rfl (Y.move rfl) rfl ?_
       have h:=ck_some h;obtain⟨hc31,h⟩:=h
       refine J.guardY rfl (Y.indexS rfl rfl (Lent.fact 0 rfl) rfl rfl hc31) rfl<|J.guardY rfl (Y.fieldEl rfl rfl rfl rfl rfl) rfl<|J.guardY rfl (Y.loadS rfl (Lent.fact 0 rfl) rfl rfl rfl RI64I64pc1 hc31) rfl ?_
       have h:=bnd h;obtain⟨r32,hr33,h⟩:=h
       refine J.loudG rfl (Loud.callL body71 (t_ref01_In fuel  r32 hr33) rfl .nil (fun _ _=>rfl)) rfl fun x34=>J.guardY rfl (Y.not rfl) rfl<|J.quiet (Y.pickF rfl rfl) rfl<|J.done<|J.thenN ?_
       exact J.meetI ((!r32)) (()) h SF (SubM.refl _) (LentAll.refl _ _)
    ·clear h
     intro a12 b13 h
     unfold ref01_linksValid_k3 at h
     refine J.cond (by exact rfl) (fun hp14=> ?_) (fun hp14=> ?_)
     ·have h:=ifP hp14 h
      refine J.seq<|J.region<|J.quiet (Y.assign rfl) rfl<|J.done<|J.thenN<|J.ret<|J.thenR<|J.inR<|J.thenR<|J.thenR<|J.inR<|J.thenR ?_
      obtain rfl:=Option.some.inj h
      exact J.retG1 (()) rfl rfl (RV.tmp rfl) (SubM.refl _) LentAll.nil
     ·have h:=ifBN hp14 h
      refine J.skip<|J.thenN<|J.seq<|J.region<|J.quiet (Y.assign rfl) rfl<|J.done<|J.thenN<|J.block<|J.loopI (A:=Int) (B:=Unit) (ref01_linksValid_s2 p0 a5 (iter (ref01_linksValid_s1 fuel p0 p1 p2) k7)) (fun a17 b18=>[(0,v0),(1,Value.int .i64 (p1)),(2,Value.int .i64 (p2)),(7,Value.int .i64 (a5)),(8,Value.int .i64 (a17))]) (fun a17 b18=>[]) (fun a17 b18=>[Sl RI64I64p v0 p0]) (0:Int) (()) h SF (SubM.refl _) (LentAll.refl _ _) ?_
      clear h
      intro k19 a17 b18 h
      unfold ref01_linksValid_s2 at h
      refine J.seq<|J.seq<|J.region<|J.quiet (Y.move rfl) rfl<|J.quiet (Y.move rfl) rfl<|J.quiet (Y.lss rfl rfl) rfl<|J.done<|J.thenN ?_
      refine J.condD (by exact rfl) (fun hp20=> ?_) (fun hp20=> ?_)
      ·have h:=ifP hp20 h
       refine J.skip<|J.thenN<|J.seq<|J.block<|J.seq ?_
       refine JR.start [0,0,3,7,15,0,0,96,224,480,1023] 10 mixedOrders (by decide +kernel) ?_
       refine JR.open (by exact rfl) ?_
       refine JR.qt rfl (SubM.refl _) (SubL.nil) (Y.move rfl) HistOk.z<|JR.qt rfl (SubM.refl _) (SubL.nil) (Y.move rfl) HistOk.z ?_
       have h:=ck_some h;obtain⟨hc21,h⟩:=h
       refine JR.qt rfl (SubM.refl _) (SubL.cons (List.mem_of_getElem? (i:=0) rfl) (SubL.nil)) (Y.indexS rfl rfl (Lent.fact 0 rfl) rfl rfl hc21) HistOk.z<|JR.qt rfl (SubM.refl _) (SubL.nil) (Y.fieldEl rfl rfl rfl rfl rfl) HistOk.z<|JR.qt rfl (SubM.refl _) (SubL.cons (List.mem_of_getElem? (i:=0) rfl) (SubL.nil)) (Y.loadS rfl (Lent.fact 0 rfl) rfl rfl rfl RI64I64pc0 hc21) HistOk.z<|JR.qt rfl (SubM.refl _) (SubL.nil) (Y.move rfl) HistOk.z<|JR.qt rfl (SubM.refl _) (SubL.nil) (Y.move rfl) HistOk.z ?_
       have h:=ck_some h;obtain⟨hc22,h⟩:=h
       refine JR.qt rfl (SubM.refl _) (SubL.cons (List.mem_of_getElem? (i:=0) rfl) (SubL.nil)) (Y.indexS rfl rfl (Lent.fact 0 rfl) rfl rfl hc22) HistOk.z<|JR.qt rfl (SubM.refl _) (SubL.nil) (Y.fieldEl rfl rfl rfl rfl rfl) HistOk.z<|JR.qt rfl (SubM.refl _) (SubL.cons (List.mem_of_getElem? (i:=0) rfl) (SubL.nil)) (Y.loadS rfl (Lent.fact 0 rfl) rfl rfl rfl RI64I64pc0 hc22) HistOk.z<|JR.tailD 10 rfl rfl<|J.quiet (Y.eql rfl rfl) rfl<|J.done<|J.thenN ?_
       refine J.condD (by exact rfl) (fun hp23=> ?_) (fun hp23=> ?_)
       ·have h:=ifP hp23 h
        refine J.seq<|J.region<|J.quiet (Y.assign rfl) rfl<|J.done<|J.thenN<|J.ret<|J.inR<|J.thenR<|J.thenR<|J.inR<|J.inR<|J.thenR<|J.thenR<|J.inR<|J.thenR ?_
        obtain rfl:=Option.some.inj h
        exact J.retG1 (()) rfl rfl (RV.tmp rfl) (SubM.refl _) LentAll.nil
       ·have h:=ifN hp23 h
        refine J.skip<|J.inN<|J.thenN<|J.region<|J.quiet (Y.move rfl) rfl<|J.quiet (Y.addW rfl rfl) rfl<|J.quiet (Y.assign rfl) rfl<|J.done<|J.thenN ?_
        exact J.againI (wI .i64 (a17+(1:Int))) (()) h SF (SubM.refl _) (LentAll.refl _ _)
      ·have h:=ifN hp20 h
       refine J.exit<|J.thenX<|J.thenX<|J.inX<|J.inN<|J.thenN ?_
       exact J.meetI (()) (()) h SF (SubM.refl _) (LentAll.refl _ _)
   ·clear h
    intro a9 b10 h
    unfold ref01_linksValid_k2 at h
    refine J.region<|J.quiet (Y.move rfl) rfl<|J.quiet (Y.addW rfl rfl) rfl<|J.quiet (Y.assign rfl) rfl<|J.done<|J.thenN ?_
    exact J.againI (wI .i64 (a5+(1:Int))) (()) h SF (SubM.refl _) (LentAll.refl _ _)
  ·have h:=ifN hp8 h
   refine J.exit<|J.thenX<|J.thenX<|J.inX<|J.thenN ?_
   exact J.meetI (()) (()) h SF (SubM.refl _) (LentAll.refl _ _)
 ·clear h
  intro a1 b2 h
  unfold ref01_linksValid_k1 at h
  refine J.seq<|J.region<|J.quiet (Y.assign rfl) rfl<|J.done<|J.thenN<|J.ret ?_
  obtain rfl:=Option.some.inj h
  exact J.retG1 (()) rfl rfl (RV.tmp rfl) (SubM.refl _) LentAll.nil
end Go.Proofs.YtfbkplemadmbfaaGreatDoor
end
section
namespace Go.Proofs.YtfbkplemadmbfaaGreatDoor
open Go.Sx
def ref01_Port_k1  (a2:Unit):Option (Int):=
 some (-1:Int)
def ref01_Port_s1 (p0:List (Int)×(List (List (Int×Int)))) (p1:Int) (p2:Int) (a6:Int) (ag5:(Int)->Option (Int)):Option (Int):=
 ck (0<=p1∧p1<(List.length p0.2:Int)) (if a6<(List.length (at' p0.2 p1):Int)then(ck (0<=p1∧p1<(List.length p0.2:Int)) (ck (0<=a6∧a6<(List.length (at' p0.2 p1):Int)) (if((at' (at' p0.2 p1) a6).1)=p2 then(some (a6))else(ag5 (wI .i64 (a6+(1:Int)))))))else(ref01_Port_k1  (())))
def m_ref01_Port (fuel:Nat) (p0:List (Int)×(List (List (Int×Int)))) (p1:Int) (p2:Int):Option (Int):=
 iter (ref01_Port_s1 p0 p1 p2) fuel (0:Int)
theorem body73:HasBody Tryz.prog 73:=Tryz.call73
theorem t_ref01_Port (fuel:Nat) {p0:List (Int)×(List (List (Int×Int)))} {p1:Int} {p2:Int} (v0:Value)  (v1:Value)  (z2:List (Value×List (Int×Int))) (r:Int) (h:m_ref01_Port fuel p0 p1 p2=some r):
  Meets Tryz.prog 73 #[Value.agg #[v0,v1],Value.int .i64 (p1),Value.int .i64 (p2)] [Sl RI64 v0 p0.1,S2 RI64I64p v1 z2 p0.2] (fun x:Unit=>Value.int .i64 (r)) (fun x l=>l) (fun _ l=>l):=by
 refine Meets.of (vs:=[Value.agg #[v0,v1],Value.int .i64 (p1),Value.int .i64 (p2)]) Tryz.func73 rfl Tryz.ntmps73 rfl fun c=> ?_
 unfold m_ref01_Port at h
 refine J.seq<|J.region<|J.loud (Loud.box (cs:=[v0,v1]) rfl rfl) rfl fun b1=>J.quiet (Y.assign rfl) rfl<|J.done<|J.thenN<|J.seq<|J.midI (A:=Unit) (B:=Unit) (fun a2=>ref01_Port_k1  a2=some r) (fun a2 b3=>[]) (fun a2 b3=>[]) (fun a2 b3=>[Sl RI64 v0 p0.1,S2 RI64I64p v1 z2 p0.2]) ?_ ?_
 ·refine J.seq<|J.region<|J.quiet (Y.assign rfl) rfl<|J.done<|J.thenN<|J.block<|J.loopI (A:=Int) (B:=Unit) (ref01_Port_s1 p0 p1 p2) (fun a6 b7=>[(1,Value.int .i64 (p1)),(2,Value.int .i64 (p2)),(3,Value.pointer (some ⟨b1,0,none⟩)),(7,Value.int .i64 (a6))]) (fun a6 b7=>[Blk b1 [v0,v1] 25]) (fun a6 b7=>[Sl RI64 v0 p0.1,S2 RI64I64p v1 z2 p0.2]) (0:Int) (()) h SF (SubM.refl _) (LentAll.refl _ _) ?_
  clear h
  intro k8 a6 b7 h
  unfold ref01_Port_s1 at h
  refine J.seq<|J.seq<|J.region<|J.quiet (Y.move rfl) rfl<|J.quiet (Y.fieldB rfl rfl rfl rfl rfl) rfl<|J.quiet (Y.loadB 0 rfl rfl rfl rfl rfl) rfl<|J.quiet (Y.move rfl) rfl ?_
  have h:=ck_some h;obtain⟨hc9,h⟩:=h
  refine J.quiet (Y.indexN rfl rfl (Lent.fact 1 rfl) rfl rfl hc9) rfl<|J.quiet (Y.loadRow rfl (Lent.fact 1 rfl) rfl rfl hc9) rfl<|J.quiet (Y.lenS rfl (Lent.el (Lent.fact 1 rfl) hc9.1 hc9.2) rfl) rfl<|J.quiet (Y.lss rfl rfl) rfl<|J.done<|J.thenN ?_
  refine J.condD (by exact rfl) (fun hp10=> ?_) (fun hp10=> ?_)
  ·have h:=ifP hp10 h
   refine J.skip<|J.thenN<|J.seq<|J.block<|J.seq<|J.region<|J.quiet (Y.fieldB rfl rfl rfl rfl rfl) rfl<|J.quiet (Y.loadB 0 rfl rfl rfl rfl rfl) rfl<|J.quiet (Y.move rfl) rfl ?_
   have h:=ck_some h;obtain⟨hc11,h⟩:=h
   refine J.quiet (Y.indexN rfl rfl (Lent.fact 1 rfl) rfl rfl hc11) rfl<|J.quiet (Y.loadRow rfl (Lent.fact 1 rfl) rfl rfl hc11) rfl<|J.quiet (Y.move rfl) rfl ?_
   have h:=ck_some h;obtain⟨hc12,h⟩:=h
   refine J.quiet (Y.indexS rfl rfl (Lent.el (Lent.fact 1 rfl) hc11.1 hc11.2) rfl rfl hc12) rfl<|J.quiet (Y.fieldEl rfl rfl rfl rfl rfl) rfl<|J.quiet (Y.loadS rfl (Lent.el (Lent.fact 1 rfl) hc11.1 hc11.2) rfl rfl rfl RI64I64pc0 hc12) rfl<|J.quiet (Y.move rfl) rfl<|J.quiet (Y.eql rfl rfl) rfl<|J.done<|J.thenN ?_
   refine J.condD (by exact rfl) (fun hp13=> ?_) (fun hp13=> ?_)
   ·have h:=ifP hp13 h
    refine J.seq<|J.region<|J.quiet (Y.move rfl) rfl<|J.quiet (Y.assign rfl) rfl<|J.done<|J.thenN<|J.ret<|J.inR<|J.thenR<|J.thenR<|J.inR<|J.thenR ?_
    obtain rfl:=Option.some.inj h
    exact J.retG1 (()) rfl rfl (RV.tmp rfl) (SubM.nil) LentAll.nil
   ·have h:=ifN hp13 h
    refine J.skip<|J.inN<|J.thenN<|J.region<|J.quiet (Y.move rfl) rfl<|J.quiet (Y.addW rfl rfl) rfl<|J.quiet (Y.assign rfl) rfl<|J.done<|J.thenN ?_
    exact J.againI (wI .i64 (a6+(1:Int))) (()) h SF (SubM.refl _) (LentAll.refl _ _)
  ·have h:=ifN hp10 h
   refine J.exit<|J.thenX<|J.thenX<|J.inX<|J.thenN ?_
   exact J.meetI (()) (()) h SF (SubM.nil) (LentAll.refl _ _)
 ·clear h
  intro a2 b3 h
  unfold ref01_Port_k1 at h
  refine J.seq<|J.region<|J.quiet (Y.assign rfl) rfl<|J.done<|J.thenN<|J.ret ?_
  obtain rfl:=Option.some.inj h
  exact J.retG1 (()) rfl rfl (RV.tmp rfl) (SubM.refl _) LentAll.nil
end Go.Proofs.YtfbkplemadmbfaaGreatDoor
end
section
namespace Go.Proofs.YtfbkplemadmbfaaGreatDoor
open Go.Sx
def ref01_Valid_k3  (a8:Unit):Option (Bool):=
 some (true)
def ref01_Valid_k4 (a12:Int) (ag11:(Int)->Option (Bool)) (a16:Unit):Option (Bool):=
 ag11 (wI .i64 (a12+(1:Int)))
def ref01_Valid_k5 (a20:Int) (ag19:(Int)->Option (Bool)) (a32:Bool):Option (Bool):=
 if a32=true then(some (false))else(ag19 (wI .i64 (a20+(1:Int))))
def ref01_Valid_s2 (fuel:Nat) (p0:List (Int)×(List (List (Int×Int)))) (a12:Int) (ag11:(Int)->Option (Bool)) (a20:Int) (ag19:(Int)->Option (Bool)):Option (Bool):=
 ck (0<=a12∧a12<(List.length p0.2:Int)) (if a20<(List.length (at' p0.2 a12):Int)then(ck (0<=a12∧a12<(List.length p0.2:Int)) (ck (0<=a20∧a20<(List.length (at' p0.2 a12):Int)) (Option.bind (m_ref01_Port fuel ((p0.1,p0.2)) ((at' (at' p0.2 a12) a20).1) a12) fun r28=>(if r28<(0:Int)then(ref01_Valid_k5 a20 ag19 (true))else(ck (0<=((at' (at' p0.2 a12) a20).1)∧((at' (at' p0.2 a12) a20).1)<(List.length p0.2:Int)) (ck (0<=r28∧r28<(List.length (at' p0.2 ((at' (at' p0.2 a12) a20).1)):Int)) (ref01_Valid_k5 a20 ag19 (decide (((at' (at' p0.2 ((at' (at' p0.2 a12) a20).1)) r28).2)≠((at' (at' p0.2 a12) a20).2))))))))))else(ref01_Valid_k4 a12 ag11 (())))
def ref01_Valid_s1 (fuel:Nat) (p0:List (Int)×(List (List (Int×Int)))) (a12:Int) (ag11:(Int)->Option (Bool)):Option (Bool):=
 if a12<(List.length p0.2:Int)then(iter (ref01_Valid_s2 fuel p0 a12 ag11) fuel (0:Int))else(ref01_Valid_k3  (()))
def ref01_Valid_k2 (fuel:Nat) (p0:List (Int)×(List (List (Int×Int)))) (a6:Unit):Option (Bool):=
 iter (ref01_Valid_s1 fuel p0) fuel (0:Int)
def ref01_Valid_k6 (a40:Int) (ag39:(Int)->Option (Bool)) (a44:Unit):Option (Bool):=
 ag39 (wI .i64 (a40+(1:Int)))
def ref01_Valid_s4 (p0:List (Int)×(List (List (Int×Int)))) (a40:Int) (ag39:(Int)->Option (Bool)) (a52:Int) (ag51:(Int)->Option (Bool)):Option (Bool):=
 if a52<a40 then(ck (0<=a52∧a52<(List.length p0.1:Int)) (ck (0<=a40∧a40<(List.length p0.1:Int)) (if(at' p0.1 a52)=(at' p0.1 a40)then(some (false))else(ag51 (wI .i64 (a52+(1:Int)))))))else(ref01_Valid_k6 a40 ag39 (()))
def ref01_Valid_k7 (fuel:Nat) (p0:List (Int)×(List (List (Int×Int)))) (a40:Int) (ag39:(Int)->Option (Bool)) (a47:Bool):Option (Bool):=
 if a47=true then(some (false))else(iter (ref01_Valid_s4 p0 a40 ag39) fuel (0:Int))
def ref01_Valid_s3 (fuel:Nat) (p0:List (Int)×(List (List (Int×Int)))) (a40:Int) (ag39:(Int)->Option (Bool)):Option (Bool):=
 if a40<(List.length p0.2:Int)then(ck (0<=a40∧a40<(List.length p0.1:Int)) (Option.bind (m_ref01_In fuel (at' p0.1 a40) (0:Int) (255:Int)) fun r60=>(if(!r60)=true then(ref01_Valid_k7 fuel p0 a40 ag39 (true))else(ck (0<=a40∧a40<(List.length p0.2:Int)) (if(List.length p0.2:Int)<=(List.length (at' p0.2 a40):Int)then(ref01_Valid_k7 fuel p0 a40 ag39 (true))else(ck (0<=a40∧a40<(List.length p0.2:Int)) (Option.bind (m_ref01_linksValid fuel (at' p0.2 a40) a40 (List.length p0.2:Int)) fun r67=>(ref01_Valid_k7 fuel p0 a40 ag39 ((!r67))))))))))else(ref01_Valid_k2 fuel p0 (()))
def ref01_Valid_k1 (fuel:Nat) (p0:List (Int)×(List (List (Int×Int)))) (a3:Bool):Option (Bool):=
 if a3=true then(some (false))else(iter (ref01_Valid_s3 fuel p0) fuel (0:Int))
def m_ref01_Valid (fuel:Nat) (p0:List (Int)×(List (List (Int×Int)))):Option (Bool):=
 Option.bind (m_ref01_In fuel (List.length p0.2:Int) (1:Int) (24:Int)) fun r70=>(if(!r70)=true then(ref01_Valid_k1 fuel p0 (true))else(ref01_Valid_k1 fuel p0 (decide ((List.length p0.1:Int)≠(List.length p0.2:Int)))))
theorem body34:HasBody Tryz.prog 34:=Tryz.call34
theorem t_ref01_Valid (fuel:Nat) {p0:List (Int)×(List (List (Int×Int)))} (v0:Value)  (v1:Value)  (z2:List (Value×List (Int×Int))) (r:Bool) (h:m_ref01_Valid fuel p0=some r):
  Meets Tryz.prog 34 #[Value.agg #[v0,v1]] [Sl RI64 v0 p0.1,S2 RI64I64p v1 z2 p0.2] (fun x:Unit=>Value.bool (r)) (fun x l=>l) (fun _ l=>l):=by
 refine Meets.of (vs:=[Value.agg #[v0,v1]]) Tryz.func34 rfl Tryz.ntmps34 rfl fun c=> ?_
 unfold m_ref01_Valid at h
 refine J.seq<|J.region<|J.loud (Loud.box (cs:=[v0,v1]) rfl rfl) rfl fun b1=>J.quiet (Y.assign rfl) rfl<|J.done<|J.thenN<|J.seq<|J.region<|J.quiet (Y.fieldB rfl rfl rfl rfl rfl) rfl<|J.quiet (Y.loadB 0 rfl rfl rfl rfl rfl) rfl<|J.quiet (Y.lenN rfl (Lent.fact 1 rfl) rfl) rfl<|J.quiet (Y.assign rfl) rfl<|J.done<|J.thenN<|J.seq<|J.seq<|J.midI (A:=Bool) (B:=Unit) (fun a3=>ref01_Valid_k1 fuel p0 a3=some r) (fun a3 b4=>[(1,Value.pointer (some ⟨b1,0,none⟩)),(3,Value.int .i64 (List.length p0.2:Int)),(22,Value.bool (a3))]) (fun a3 b4=>[Blk b1 [v0,v1] 25]) (fun a3 b4=>[Sl RI64 v0 p0.1,S2 RI64I64p v1 z2 p0.2]) ?_ ?_
 ·refine J.region<|J.quiet (Y.move rfl) rfl ?_
  have h:=bnd h;obtain⟨r70,hr71,h⟩:=h
  refine J.loud (Loud.callL body71 (t_ref01_In fuel  r70 hr71) rfl .nil (fun _ _=>rfl)) rfl fun x72=>J.quiet (Y.not rfl) rfl<|J.quiet (Y.move rfl) rfl ?_
  refine J.guard (by exact rfl) (by exact rfl) (fun hp73=> ?_) (fun hp73=> ?_)
  ·have h:=ifP hp73 h
   refine J.guardN rfl rfl rfl<|J.guardN rfl rfl rfl<|J.guardN rfl rfl rfl<|J.guardN rfl rfl rfl<|J.guardN rfl rfl rfl<|J.quiet (Y.pickT rfl rfl) rfl<|J.done<|J.thenN ?_
   exact J.meetI (true) (()) h SF (SubM.refl _) (LentAll.refl _ _)
  ·have h:=ifBN hp73 h
   refine J.guardY rfl (Y.fieldB rfl rfl rfl rfl rfl) rfl<|J.guardY rfl (Y.loadB 0 rfl rfl rfl rfl rfl) rfl<|J.guardY rfl (Y.lenS rfl (Lent.fact 0 rfl) rfl) rfl<|J.guardY rfl (Y.move rfl) rfl<|J.guardY rfl (Y.neq rfl rfl) rfl<|J.quiet (Y.pickF rfl rfl) rfl<|J.done<|J.thenN ?_
   exact J.meetI (decide ((List.length p0.1:Int)≠(List.length p0.2:Int))) (()) h SF (SubM.refl _) (LentAll.refl _ _)
 ·clear h
  intro a3 b4 h
  unfold ref01_Valid_k1 at h
  refine J.cond (by exact rfl) (fun hp5=> ?_) (fun hp5=> ?_)
  ·have h:=ifP hp5 h
   refine J.seq<|J.region<|J.quiet (Y.assign rfl) rfl<|J.done<|J.thenN<|J.ret<|J.thenR ?_
   obtain rfl:=Option.some.inj h
   exact J.retG1 (()) rfl rfl (RV.tmp rfl) (SubM.nil) LentAll.nil
  ·have h:=ifBN hp5 h
   refine J.skip<|J.thenN<|J.seq<|J.midI (A:=Unit) (B:=Unit) (fun a6=>ref01_Valid_k2 fuel p0 a6=some r) (fun a6 b7=>[(1,Value.pointer (some ⟨b1,0,none⟩)),(3,Value.int .i64 (List.length p0.2:Int))]) (fun a6 b7=>[Blk b1 [v0,v1] 25]) (fun a6 b7=>[Sl RI64 v0 p0.1,S2 RI64I64p v1 z2 p0.2]) ?_ ?_
   ·refine J.seq<|J.region<|J.quiet (Y.assign rfl) rfl<|J.done<|J.thenN<|J.block<|J.loopI (A:=Int) (B:=Unit) (ref01_Valid_s3 fuel p0) (fun a40 b41=>[(1,Value.pointer (some ⟨b1,0,none⟩)),(3,Value.int .i64 (List.length p0.2:Int)),(4,Value.int .i64 (a40))]) (fun a40 b41=>[Blk b1 [v0,v1] 25]) (fun a40 b41=>[Sl RI64 v0 p0.1,S2 RI64I64p v1 z2 p0.2]) (0:Int) (()) h SF (SubM.refl _) (LentAll.refl _ _) ?_
    clear h
    intro k42 a40 b41 h
    unfold ref01_Valid_s3 at h
    refine J.seq<|J.seq<|J.region<|J.quiet (Y.move rfl) rfl<|J.quiet (Y.move rfl) rfl<|J.quiet (Y.lss rfl rfl) rfl<|J.done<|J.thenN ?_
    refine J.condD (by exact rfl) (fun hp43=> ?_) (fun hp43=> ?_)
    ·have h:=ifP hp43 h
     refine J.skip<|J.thenN<|J.seq<|J.midI (A:=Unit) (B:=Unit) (fun a44=>ref01_Valid_k6 a40 (iter (ref01_Valid_s3 fuel p0) k42) a44=some r) (fun a44 b45=>[(1,Value.pointer (some ⟨b1,0,none⟩)),(3,Value.int .i64 (List.length p0.2:Int)),(4,Value.int .i64 (a40))]) (fun a44 b45=>[Blk b1 [v0,v1] 25]) (fun a44 b45=>[Sl RI64 v0 p0.1,S2 RI64I64p v1 z2 p0.2]) ?_ ?_
     ·refine J.block<|J.seq<|J.seq<|J.midI (A:=Bool) (B:=Unit) (fun a47=>ref01_Valid_k7 fuel p0 a40 (iter (ref01_Valid_s3 fuel p0) k42) a47=some r) (fun a47 b48=>[(1,Value.pointer (some ⟨b1,0,none⟩)),(3,Value.int .i64 (List.length p0.2:Int)),(4,Value.int .i64 (a40)),(55,Value.bool (a47))]) (fun a47 b48=>[Blk b1 [v0,v1] 25]) (fun a47 b48=>[Sl RI64 v0 p0.1,S2 RI64I64p v1 z2 p0.2]) ?_ ?_
      ·refine J.region<|J.quiet (Y.fieldB rfl rfl rfl rfl rfl) rfl<|J.quiet (Y.loadB 0 rfl rfl rfl rfl rfl) rfl<|J.quiet (Y.move rfl) rfl ?_
       have h:=ck_some h;obtain⟨hc59,h⟩:=h
       refine J.quiet (Y.indexS rfl rfl (Lent.fact 0 rfl) rfl rfl hc59) rfl<|J.quiet (Y.loadS0 rfl (Lent.fact 0 rfl) rfl rfl rfl RI64c0 hc59) rfl ?_
       have h:=bnd h;obtain⟨r60,hr61,h⟩:=h
       refine J.loud (Loud.callL body71 (t_ref01_In fuel  r60 hr61) rfl .nil (fun _ _=>rfl)) rfl fun x62=>J.quiet (Y.not rfl) rfl<|J.quiet (Y.move rfl) rfl ?_
       refine J.guard (by exact rfl) (by exact rfl) (fun hp63=> ?_) (fun hp63=> ?_)
       ·have h:=ifP hp63 h
        refine J.guardN rfl rfl rfl<|J.guardN rfl rfl rfl<|J.guardN rfl rfl rfl<|J.guardN rfl rfl rfl<|J.guardN rfl rfl rfl<|J.guardN rfl rfl rfl<|J.guardN rfl rfl rfl<|J.guardN rfl rfl rfl<|J.quiet (Y.pickT rfl rfl) rfl<|J.quiet (Y.move rfl) rfl<|J.guardN rfl rfl rfl<|J.guardN rfl rfl rfl<|J.guardN rfl rfl rfl<|J.guardN rfl rfl rfl<|J.guardN rfl rfl rfl<|J.guardN rfl rfl rfl<|J.guardN rfl rfl rfl<|J.guardN rfl rfl rfl<|J.guardN rfl rfl rfl<|J.quiet (Y.pickT rfl rfl) rfl<|J.done<|J.thenN ?_
        exact J.meetI (true) (()) h SF (SubM.refl _) (LentAll.refl _ _)
       ·have h:=ifBN hp63 h
        refine J.guardY rfl (Y.fieldB rfl rfl rfl rfl rfl) rfl<|J.guardY rfl (Y.loadB 0 rfl rfl rfl rfl rfl) rfl<|J.guardY rfl (Y.move rfl) rfl ?_
        have h:=ck_some h;obtain⟨hc64,h⟩:=h
        refine J.guardY rfl (Y.indexN rfl rfl (Lent.fact 1 rfl) rfl rfl hc64) rfl<|J.guardY rfl (Y.loadRow rfl (Lent.fact 1 rfl) rfl rfl hc64) rfl<|J.guardY rfl (Y.lenS rfl (Lent.el (Lent.fact 1 rfl) hc64.1 hc64.2) rfl) rfl<|J.guardY rfl (Y.move rfl) rfl<|J.guardY rfl (Y.geq rfl rfl) rfl<|J.quiet (Y.pickF rfl rfl) rfl<|J.quiet (Y.move rfl) rfl ?_
        refine J.guardD (by exact rfl) (by exact rfl) (fun hp65=> ?_) (fun hp65=> ?_)
        ·have h:=ifP hp65 h
         refine J.guardN rfl rfl rfl<|J.guardN rfl rfl rfl<|J.guardN rfl rfl rfl<|J.guardN rfl rfl rfl<|J.guardN rfl rfl rfl<|J.guardN rfl rfl rfl<|J.guardN rfl rfl rfl<|J.guardN rfl rfl rfl<|J.guardN rfl rfl rfl<|J.quiet (Y.pickT rfl rfl) rfl<|J.done<|J.thenN ?_
         exact J.meetI (true) (()) h SF (SubM.refl _) (LentAll.refl _ _)
        ·have h:=ifN hp65 h
         refine J.guardY rfl (Y.fieldB rfl rfl rfl rfl rfl) rfl<|J.guardY rfl (Y.loadB 0 rfl rfl rfl rfl rfl) rfl<|J.guardY rfl (Y.move rfl) rfl ?_
         have h:=ck_some h;obtain⟨hc66,h⟩:=h
         refine J.guardY rfl (Y.indexN rfl rfl (Lent.fact 1 rfl) rfl rfl hc66) rfl<|J.guardY rfl (Y.loadRow rfl (Lent.fact 1 rfl) rfl rfl hc66) rfl<|J.guardY rfl (Y.move rfl) rfl<|J.guardY rfl (Y.move rfl) rfl ?_
         have h:=bnd h;obtain⟨r67,hr68,h⟩:=h
         refine J.loudG rfl (Loud.callL body72 (t_ref01_linksValid fuel ((at' z2 a40).1) r67 hr68) rfl (LentAll.cons (Lent.el (Lent.fact 1 rfl) hc66.1 hc66.2) .nil) (fun _ _=>rfl)) rfl fun x69=>J.guardY rfl (Y.not rfl) rfl<|J.quiet (Y.pickF rfl rfl) rfl<|J.done<|J.thenN ?_
         exact J.meetI ((!r67)) (()) h SF (SubM.refl _) (LentAll.refl _ _)
      ·clear h
       intro a47 b48 h
       unfold ref01_Valid_k7 at h
       refine J.cond (by exact rfl) (fun hp49=> ?_) (fun hp49=> ?_)
       ·have h:=ifP hp49 h
        refine J.seq<|J.region<|J.quiet (Y.assign rfl) rfl<|J.done<|J.thenN<|J.ret<|J.thenR<|J.inR<|J.thenR<|J.thenR<|J.inR<|J.thenR ?_
        obtain rfl:=Option.some.inj h
        exact J.retG1 (()) rfl rfl (RV.tmp rfl) (SubM.nil) LentAll.nil
       ·have h:=ifBN hp49 h
        refine J.skip<|J.thenN<|J.seq<|J.region<|J.quiet (Y.assign rfl) rfl<|J.done<|J.thenN<|J.block<|J.loopI (A:=Int) (B:=Unit) (ref01_Valid_s4 p0 a40 (iter (ref01_Valid_s3 fuel p0) k42)) (fun a52 b53=>[(1,Value.pointer (some ⟨b1,0,none⟩)),(3,Value.int .i64 (List.length p0.2:Int)),(4,Value.int .i64 (a40)),(5,Value.int .i64 (a52))]) (fun a52 b53=>[Blk b1 [v0,v1] 25]) (fun a52 b53=>[Sl RI64 v0 p0.1,S2 RI64I64p v1 z2 p0.2]) (0:Int) (()) h SF (SubM.refl _) (LentAll.refl _ _) ?_
        clear h
        intro k54 a52 b53 h
        unfold ref01_Valid_s4 at h
        refine J.seq<|J.seq<|J.region<|J.quiet (Y.move rfl) rfl<|J.quiet (Y.move rfl) rfl<|J.quiet (Y.lss rfl rfl) rfl<|J.done<|J.thenN ?_
        refine J.condD (by exact rfl) (fun hp55=> ?_) (fun hp55=> ?_)
        ·have h:=ifP hp55 h
         refine J.skip<|J.thenN<|J.seq<|J.block<|J.seq ?_
         refine JR.start [0,1,0,7,15,0,32,0,224,480,1023] 10 mixedOrders (by decide +kernel) ?_
         refine JR.open (by exact rfl) ?_
         refine JR.qt rfl (SubM.nil) (SubL.nil) (Y.fieldB rfl rfl rfl rfl rfl) HistOk.z<|JR.qt rfl (SubM.refl _) (SubL.nil) (Y.loadB 0 rfl rfl rfl rfl rfl) HistOk.z<|JR.qt rfl (SubM.nil) (SubL.nil) (Y.move rfl) HistOk.z ?_
         have h:=ck_some h;obtain⟨hc56,h⟩:=h
         refine JR.qt rfl (SubM.nil) (SubL.cons (List.mem_of_getElem? (i:=0) rfl) (SubL.nil)) (Y.indexS rfl rfl (Lent.fact 0 rfl) rfl rfl hc56) HistOk.z<|JR.qt rfl (SubM.nil) (SubL.cons (List.mem_of_getElem? (i:=0) rfl) (SubL.nil)) (Y.loadS0 rfl (Lent.fact 0 rfl) rfl rfl rfl RI64c0 hc56) HistOk.z<|JR.qt rfl (SubM.nil) (SubL.nil) (Y.fieldB rfl rfl rfl rfl rfl) HistOk.z<|JR.qt rfl (SubM.refl _) (SubL.nil) (Y.loadB 0 rfl rfl rfl rfl rfl) HistOk.z<|JR.qt rfl (SubM.nil) (SubL.nil) (Y.move rfl) HistOk.z ?_
         have h:=ck_some h;obtain⟨hc57,h⟩:=h
         refine JR.qt rfl (SubM.nil) (SubL.cons (List.mem_of_getElem? (i:=0) rfl) (SubL.nil)) (Y.indexS rfl rfl (Lent.fact 0 rfl) rfl rfl hc57) HistOk.z<|JR.qt rfl (SubM.nil) (SubL.cons (List.mem_of_getElem? (i:=0) rfl) (SubL.nil)) (Y.loadS0 rfl (Lent.fact 0 rfl) rfl rfl rfl RI64c0 hc57) HistOk.z<|JR.tailD 10 rfl rfl<|J.quiet (Y.eql rfl rfl) rfl<|J.done<|J.thenN ?_
         refine J.condD (by exact rfl) (fun hp58=> ?_) (fun hp58=> ?_)
         ·have h:=ifP hp58 h
          refine J.seq<|J.region<|J.quiet (Y.assign rfl) rfl<|J.done<|J.thenN<|J.ret<|J.inR<|J.thenR<|J.thenR<|J.inR<|J.inR<|J.thenR<|J.thenR<|J.inR<|J.thenR ?_
          obtain rfl:=Option.some.inj h
          exact J.retG1 (()) rfl rfl (RV.tmp rfl) (SubM.nil) LentAll.nil
         ·have h:=ifN hp58 h
          refine J.skip<|J.inN<|J.thenN<|J.region<|J.quiet (Y.move rfl) rfl<|J.quiet (Y.addW rfl rfl) rfl<|J.quiet (Y.assign rfl) rfl<|J.done<|J.thenN ?_
          exact J.againI (wI .i64 (a52+(1:Int))) (()) h SF (SubM.refl _) (LentAll.refl _ _)
        ·have h:=ifN hp55 h
         refine J.exit<|J.thenX<|J.thenX<|J.inX<|J.inN<|J.thenN ?_
         exact J.meetI (()) (()) h SF (SubM.refl _) (LentAll.refl _ _)
     ·clear h
      intro a44 b45 h
      unfold ref01_Valid_k6 at h
      refine J.region<|J.quiet (Y.move rfl) rfl<|J.quiet (Y.addW rfl rfl) rfl<|J.quiet (Y.assign rfl) rfl<|J.done<|J.thenN ?_
      exact J.againI (wI .i64 (a40+(1:Int))) (()) h SF (SubM.refl _) (LentAll.refl _ _)
    ·have h:=ifN hp43 h
     refine J.exit<|J.thenX<|J.thenX<|J.inX<|J.thenN ?_
     exact J.meetI (()) (()) h SF (SubM.refl _) (LentAll.refl _ _)
   ·clear h
    intro a6 b7 h
    unfold ref01_Valid_k2 at h
    refine J.seq<|J.midI (A:=Unit) (B:=Unit) (fun a8=>ref01_Valid_k3  a8=some r) (fun a8 b9=>[]) (fun a8 b9=>[]) (fun a8 b9=>[Sl RI64 v0 p0.1,S2 RI64I64p v1 z2 p0.2]) ?_ ?_
    ·refine J.seq<|J.region<|J.quiet (Y.assign rfl) rfl<|J.done<|J.thenN<|J.block<|J.loopI (A:=Int) (B:=Unit) (ref01_Valid_s1 fuel p0) (fun a12 b13=>[(1,Value.pointer (some ⟨b1,0,none⟩)),(3,Value.int .i64 (List.length p0.2:Int)),(6,Value.int .i64 (a12))]) (fun a12 b13=>[Blk b1 [v0,v1] 25]) (fun a12 b13=>[Sl RI64 v0 p0.1,S2 RI64I64p v1 z2 p0.2]) (0:Int) (()) h SF (SubM.refl _) (LentAll.refl _ _) ?_
     clear h
     intro k14 a12 b13 h
     unfold ref01_Valid_s1 at h
     refine J.seq<|J.seq<|J.region<|J.quiet (Y.move rfl) rfl<|J.quiet (Y.move rfl) rfl<|J.quiet (Y.lss rfl rfl) rfl<|J.done<|J.thenN ?_
     refine J.condD (by exact rfl) (fun hp15=> ?_) (fun hp15=> ?_)
     ·have h:=ifP hp15 h
      refine J.skip<|J.thenN<|J.seq<|J.midI (A:=Unit) (B:=Unit) (fun a16=>ref01_Valid_k4 a12 (iter (ref01_Valid_s1 fuel p0) k14) a16=some r) (fun a16 b17=>[(1,Value.pointer (some ⟨b1,0,none⟩)),(3,Value.int .i64 (List.length p0.2:Int)),(6,Value.int .i64 (a12))]) (fun a16 b17=>[Blk b1 [v0,v1] 25]) (fun a16 b17=>[Sl RI64 v0 p0.1,S2 RI64I64p v1 z2 p0.2]) ?_ ?_
      ·refine J.block<|J.seq<|J.region<|J.quiet (Y.assign rfl) rfl<|J.done<|J.thenN<|J.block<|J.loopI (A:=Int) (B:=Unit) (ref01_Valid_s2 fuel p0 a12 (iter (ref01_Valid_s1 fuel p0) k14)) (fun a20 b21=>[(1,Value.pointer (some ⟨b1,0,none⟩)),(3,Value.int .i64 (List.length p0.2:Int)),(6,Value.int .i64 (a12)),(7,Value.int .i64 (a20))]) (fun a20 b21=>[Blk b1 [v0,v1] 25]) (fun a20 b21=>[Sl RI64 v0 p0.1,S2 RI64I64p v1 z2 p0.2]) (0:Int) (()) h SF (SubM.refl _) (LentAll.refl _ _) ?_
       clear h
       intro k22 a20 b21 h
       unfold ref01_Valid_s2 at h
       refine J.seq<|J.seq<|J.region<|J.quiet (Y.move rfl) rfl<|J.quiet (Y.fieldB rfl rfl rfl rfl rfl) rfl<|J.quiet (Y.loadB 0 rfl rfl rfl rfl rfl) rfl<|J.quiet (Y.move rfl) rfl ?_
       have h:=ck_some h;obtain⟨hc23,h⟩:=h
       refine J.quiet (Y.indexN rfl rfl (Lent.fact 1 rfl) rfl rfl hc23) rfl<|J.quiet (Y.loadRow rfl (Lent.fact 1 rfl) rfl rfl hc23) rfl<|J.quiet (Y.lenS rfl (Lent.el (Lent.fact 1 rfl) hc23.1 hc23.2) rfl) rfl<|J.quiet (Y.lss rfl rfl) rfl<|J.done<|J.thenN ?_
       refine J.condD (by exact rfl) (fun hp24=> ?_) (fun hp24=> ?_)
       ·have h:=ifP hp24 h
        refine J.skip<|J.thenN<|J.seq<|J.block<|J.seq<|J.region<|J.quiet (Y.fieldB rfl rfl rfl rfl rfl) rfl<|J.quiet (Y.loadB 0 rfl rfl rfl rfl rfl) rfl<|J.quiet (Y.move rfl) rfl ?_
        have h:=ck_some h;obtain⟨hc25,h⟩:=h
        refine J.quiet (Y.indexN rfl rfl (Lent.fact 1 rfl) rfl rfl hc25) rfl<|J.quiet (Y.loadRow rfl (Lent.fact 1 rfl) rfl rfl hc25) rfl<|J.quiet (Y.move rfl) rfl ?_
        have h:=ck_some h;obtain⟨hc26,h⟩:=h
        refine J.quiet (Y.indexS rfl rfl (Lent.el (Lent.fact 1 rfl) hc25.1 hc25.2) rfl rfl hc26) rfl<|J.quiet (Y.loadAggS (cs:=[Value.int .i64 ((at' (at' p0.2 a12) a20).1),Value.int .i64 ((at' (at' p0.2 a12) a20).2)]) rfl (Lent.el (Lent.fact 1 rfl) hc25.1 hc25.2) FI64I64p rfl rfl rfl rfl hc26) rfl<|J.loud (Loud.alloc (cs:=[Value.int .i64 (0:Int),Value.int .i64 (0:Int)]) rfl rfl) rfl fun b27=>J.storeAll 0 (vs:=[Value.int .i64 ((at' (at' p0.2 a12) a20).1),Value.int .i64 ((at' (at' p0.2 a12) a20).2)]) rfl rfl rfl rfl rfl rfl<|J.done<|J.thenN<|J.seq<|J.region<|J.quiet (Y.loadBAll 1 rfl rfl rfl rfl) rfl<|J.quiet (Y.fieldB rfl rfl rfl rfl rfl) rfl<|J.quiet (Y.loadB 0 rfl rfl rfl rfl rfl) rfl<|J.quiet (Y.move rfl) rfl ?_
        have h:=bnd h;obtain⟨r28,hr29,h⟩:=h
        refine J.loud (Loud.callL body73 (t_ref01_Port fuel v0 v1 z2 r28 hr29) rfl (LentAll.cons (Lent.fact 0 rfl) (LentAll.cons (Lent.fact 1 rfl) .nil)) (fun _ _=>rfl)) rfl fun x30=>J.quiet (Y.assign rfl) rfl<|J.done<|J.thenN<|J.seq<|J.midI (A:=Bool) (B:=Unit) (fun a32=>ref01_Valid_k5 a20 (iter (ref01_Valid_s2 fuel p0 a12 (iter (ref01_Valid_s1 fuel p0) k14)) k22) a32=some r) (fun a32 b33=>[(1,Value.pointer (some ⟨b1,0,none⟩)),(3,Value.int .i64 (List.length p0.2:Int)),(6,Value.int .i64 (a12)),(7,Value.int .i64 (a20)),(116,Value.bool (a32))]) (fun a32 b33=>[Blk b1 [v0,v1] 25]) (fun a32 b33=>[Sl RI64 v0 p0.1,S2 RI64I64p v1 z2 p0.2]) ?_ ?_
        ·refine JR.start [0,1,3,7,15,7,39,127,255,7,1023,2047,4095,7,8199,32767,65535] 15 mixedOrders (by decide +kernel) ?_
         refine JR.open (by exact rfl) ?_
         refine JR.qt rfl (SubM.nil) (SubL.nil) (Y.move rfl) HistOk.z<|JR.qt rfl (SubM.nil) (SubL.nil) (Y.lss rfl rfl) HistOk.z<|JR.qt rfl (SubM.nil) (SubL.nil) (Y.move rfl) HistOk.z ?_
         refine JR.guardD (by exact rfl) (by exact rfl) (by exact rfl) (fun hp35=> ?_) (fun hp35=> ?_)
         ·have h:=ifP hp35 h
          refine JR.guardN rfl rfl rfl rfl<|JR.guardN rfl rfl rfl rfl<|JR.guardN rfl rfl rfl rfl<|JR.guardN rfl rfl rfl rfl<|JR.guardN rfl rfl rfl rfl<|JR.guardN rfl rfl rfl rfl<|JR.guardN rfl rfl rfl rfl<|JR.guardN rfl rfl rfl rfl<|JR.guardN rfl rfl rfl rfl<|JR.guardN rfl rfl rfl rfl<|JR.guardN rfl rfl rfl rfl<|JR.guardN rfl rfl rfl rfl<|JR.tailD 15 rfl rfl<|J.guardN rfl rfl rfl<|J.quiet (Y.pickT rfl rfl) rfl<|J.done<|J.thenN ?_
          exact J.meetI (true) (()) h SF (SubM.cons 1 rfl (SubM.nil)) (LentAll.refl _ _)
         ·have h:=ifN hp35 h
          refine JR.qtG rfl (SubM.nil) (SubL.nil) (Y.fieldB rfl rfl rfl rfl rfl) HistOk.z<|JR.qtG rfl (SubM.cons 1 rfl (SubM.nil)) (SubL.nil) (Y.loadB 0 rfl rfl rfl rfl rfl) HistOk.z<|JR.qtG rfl (SubM.nil) (SubL.nil) (Y.fieldB rfl rfl rfl rfl rfl) HistOk.z<|JR.qtG rfl (SubM.cons 0 rfl (SubM.nil)) (SubL.nil) (Y.loadB 0 rfl rfl rfl rfl rfl) HistOk.z ?_
          have h:=ck_some h;obtain⟨hc36,h⟩:=h
          refine JR.qtG rfl (SubM.nil) (SubL.cons (List.mem_of_getElem? (i:=1) rfl) (SubL.nil)) (Y.indexN rfl rfl (Lent.fact 0 rfl) rfl rfl hc36) HistOk.z<|JR.qtG rfl (SubM.nil) (SubL.cons (List.mem_of_getElem? (i:=1) rfl) (SubL.nil)) (Y.loadRow rfl (Lent.fact 0 rfl) rfl rfl hc36) HistOk.z<|JR.qtG rfl (SubM.nil) (SubL.nil) (Y.move rfl) HistOk.z ?_
          have h:=ck_some h;obtain⟨hc37,h⟩:=h
          refine JR.qtG rfl (SubM.nil) (SubL.cons (List.mem_of_getElem? (i:=1) rfl) (SubL.nil)) (Y.indexS rfl rfl (Lent.el (Lent.fact 0 rfl) hc36.1 hc36.2) rfl rfl hc37) HistOk.z<|JR.qtG rfl (SubM.nil) (SubL.nil) (Y.fieldEl rfl rfl rfl rfl rfl) HistOk.z<|JR.qtG rfl (SubM.nil) (SubL.cons (List.mem_of_getElem? (i:=1) rfl) (SubL.nil)) (Y.loadS rfl (Lent.el (Lent.fact 0 rfl) hc36.1 hc36.2) rfl rfl rfl RI64I64pc1 hc37) HistOk.z<|JR.qtG rfl (SubM.nil) (SubL.nil) (Y.fieldB rfl rfl rfl rfl rfl) HistOk.z<|JR.qtG rfl (SubM.cons 0 rfl (SubM.nil)) (SubL.nil) (Y.loadB 0 rfl rfl rfl rfl rfl) HistOk.z<|JR.tailD 15 rfl rfl<|J.guardY rfl (Y.neq rfl rfl) rfl<|J.quiet (Y.pickF rfl rfl) rfl<|J.done<|J.thenN ?_
          exact J.meetI (decide (((at' (at' p0.2 ((at' (at' p0.2 a12) a20).1)) r28).2)≠((at' (at' p0.2 a12) a20).2))) (()) h SF (SubM.cons 1 rfl (SubM.nil)) (LentAll.refl _ _)
        ·clear h
         intro a32 b33 h
         unfold ref01_Valid_k5 at h
         refine J.cond (by exact rfl) (fun hp34=> ?_) (fun hp34=> ?_)
         ·have h:=ifP hp34 h
          refine J.seq<|J.region<|J.quiet (Y.assign rfl) rfl<|J.done<|J.thenN<|J.ret<|J.inR<|J.thenR<|J.thenR<|J.inR<|J.inR<|J.thenR<|J.thenR<|J.inR<|J.thenR ?_
          obtain rfl:=Option.some.inj h
          exact J.retG1 (()) rfl rfl (RV.tmp rfl) (SubM.nil) LentAll.nil
         ·have h:=ifBN hp34 h
          refine J.skip<|J.inN<|J.thenN<|J.region<|J.quiet (Y.move rfl) rfl<|J.quiet (Y.addW rfl rfl) rfl<|J.quiet (Y.assign rfl) rfl<|J.done<|J.thenN ?_
          exact J.againI (wI .i64 (a20+(1:Int))) (()) h SF (SubM.refl _) (LentAll.refl _ _)
       ·have h:=ifN hp24 h
        refine J.exit<|J.thenX<|J.thenX<|J.inX<|J.inN<|J.thenN ?_
        exact J.meetI (()) (()) h SF (SubM.refl _) (LentAll.refl _ _)
      ·clear h
       intro a16 b17 h
       unfold ref01_Valid_k4 at h
       refine J.region<|J.quiet (Y.move rfl) rfl<|J.quiet (Y.addW rfl rfl) rfl<|J.quiet (Y.assign rfl) rfl<|J.done<|J.thenN ?_
       exact J.againI (wI .i64 (a12+(1:Int))) (()) h SF (SubM.refl _) (LentAll.refl _ _)
     ·have h:=ifN hp15 h
      refine J.exit<|J.thenX<|J.thenX<|J.inX<|J.thenN ?_
      exact J.meetI (()) (()) h SF (SubM.nil) (LentAll.refl _ _)
    ·clear h
     intro a8 b9 h
     unfold ref01_Valid_k3 at h
     refine J.seq<|J.region<|J.quiet (Y.assign rfl) rfl<|J.done<|J.thenN<|J.ret ?_
     obtain rfl:=Option.some.inj h
     exact J.retG1 (()) rfl rfl (RV.tmp rfl) (SubM.refl _) LentAll.nil
end Go.Proofs.YtfbkplemadmbfaaGreatDoor
end
section
namespace Go.Proofs.YtfbkplemadmbfaaGreatDoor
open Go.Sx
def graph_search_k2  (a10:List (Int)):Option (List (Int)):=
 some (a10)
def graph_search_k3 (a29:Int×List (Int)×List (Int)) (ag28:(Int×List (Int)×List (Int))->Option (List (Int))) (a36:List (Int)×List (Int)):Option (List (Int)):=
 ag28 ((wI .i64 (a29.1+(1:Int))),a36.1,a36.2)
def graph_search_s2 (p0:List (Int)×(List (List (Int×Int)))) (a16:List (Int)×List (Int)) (ag15:(List (Int)×List (Int))->Option (List (Int))) (a29:Int×List (Int)×List (Int)) (ag28:(Int×List (Int)×List (Int))->Option (List (Int))):Option (List (Int)):=
 if a29.1<(List.length (at' p0.2 (at' a16.1 (0:Int))):Int)then(ck (0<=a29.1∧a29.1<(List.length (at' p0.2 (at' a16.1 (0:Int))):Int)) (ck (0<=((at' (at' p0.2 (at' a16.1 (0:Int))) a29.1).1)∧((at' (at' p0.2 (at' a16.1 (0:Int))) a29.1).1)<(List.length a29.2.2:Int)) (if(at' a29.2.2 ((at' (at' p0.2 (at' a16.1 (0:Int))) a29.1).1))<(0:Int)then(ck (0<=(at' a16.1 (0:Int))∧(at' a16.1 (0:Int))<(List.length a29.2.2:Int)) (ck (0<=((at' (at' p0.2 (at' a16.1 (0:Int))) a29.1).1)∧((at' (at' p0.2 (at' a16.1 (0:Int))) a29.1).1)<(List.length a29.2.2:Int)) (ck ((List.length a29.2.1:Int)+(List.length ([((at' (at' p0.2 (at' a16.1 (0:Int))) a29.1).1)]):Int)<=1099511627) (graph_search_k3 a29 ag28 ((a29.2.1++([((at' (at' p0.2 (at' a16.1 (0:Int))) a29.1).1)])),(List.set a29.2.2 (Int.toNat ((at' (at' p0.2 (at' a16.1 (0:Int))) a29.1).1)) (wI .i64 ((at' a29.2.2 (at' a16.1 (0:Int)))+(1:Int)))))))))else(graph_search_k3 a29 ag28 (a29.2.1,a29.2.2)))))else(ag15 (a29.2.1,a29.2.2))
def graph_search_s1 (fuel:Nat) (p0:List (Int)×(List (List (Int×Int)))) (a16:List (Int)×List (Int)) (ag15:(List (Int)×List (Int))->Option (List (Int))):Option (List (Int)):=
 if(0:Int)<(List.length a16.1:Int)then(ck (0<=(0:Int)∧(0:Int)<(List.length a16.1:Int)) (ck (0<=(1:Int)∧(1:Int)<=(List.length a16.1:Int)) (ck (0<=(at' a16.1 (0:Int))∧(at' a16.1 (0:Int))<(List.length p0.2:Int)) (iter (graph_search_s2 p0 a16 ag15) fuel ((0:Int),(List.drop (Int.toNat (1:Int)) a16.1),a16.2)))))else(graph_search_k2  (a16.2))
def graph_search_k1 (fuel:Nat) (p0:List (Int)×(List (List (Int×Int)))) (p1:Int) (a5:List (Int)):Option (List (Int)):=
 ck (0<=p1∧p1<(List.length a5:Int)) (iter (graph_search_s1 fuel p0) fuel (([p1]),(List.set a5 (Int.toNat p1) (0:Int))))
def graph_search_s3 (fuel:Nat) (p0:List (Int)×(List (List (Int×Int)))) (p1:Int) (a50:Int×List (Int)) (ag49:(Int×List (Int))->Option (List (Int))):Option (List (Int)):=
 if a50.1<(List.length (List.replicate (Int.toNat (List.length p0.2:Int)) (0:Int)):Int)then(ck (0<=a50.1∧a50.1<(List.length a50.2:Int)) (ag49 ((wI .i64 (a50.1+(1:Int))),(List.set a50.2 (Int.toNat a50.1) (-1:Int)))))else(graph_search_k1 fuel p0 p1 (a50.2))
def m_graph_search (fuel:Nat) (p0:List (Int)×(List (List (Int×Int)))) (p1:Int):Option (List (Int)):=
 ck (0<=(List.length p0.2:Int)∧(List.length p0.2:Int)<=1099511627) (iter (graph_search_s3 fuel p0 p1) fuel ((0:Int),(List.replicate (Int.toNat (List.length p0.2:Int)) (0:Int))))
theorem body79:HasBody Tryz.prog 79:=Tryz.call79
theorem t_graph_search (fuel:Nat) {p0:List (Int)×(List (List (Int×Int)))} {p1:Int} (v0:Value)  (v1:Value)  (z2:List (Value×List (Int×Int))) (r:List (Int)) (h:m_graph_search fuel p0 p1=some r):
  Meets Tryz.prog 79 #[Value.agg #[v0,v1],Value.int .i64 (p1)] [Sl RI64 v0 p0.1,S2 RI64I64p v1 z2 p0.2] (fun x:Value=>x) (fun x l=>Ar EI64 x r::l) (fun _ l=>l):=by
 refine Meets.of (vs:=[Value.agg #[v0,v1],Value.int .i64 (p1)]) Tryz.func79 rfl Tryz.ntmps79 rfl fun c=> ?_
 unfold m_graph_search at h
 refine J.seq<|J.region<|J.loud (Loud.box (cs:=[v0,v1]) rfl rfl) rfl fun b1=>J.quiet (Y.assign rfl) rfl<|J.done<|J.thenN<|J.seq<|J.region<|J.quiet (Y.fieldB rfl rfl rfl rfl rfl) rfl<|J.quiet (Y.loadB 0 rfl rfl rfl rfl rfl) rfl<|J.quiet (Y.lenN rfl (Lent.fact 1 rfl) rfl) rfl ?_
 have h:=ck_some h;obtain⟨hc2,h⟩:=h
 refine J.loud (Loud.makeS (e:=EI64) (0:Int) rfl rfl rfl rfl hc2 rfl rfl rfl) rfl fun u3=>J.quiet (Y.assign rfl) rfl<|J.done<|J.thenN<|J.seq<|J.midI (A:=List (Int)) (B:=Unit) (fun a5=>graph_search_k1 fuel p0 p1 a5=some r) (fun a5 b6=>[(1,Value.int .i64 (p1)),(2,Value.pointer (some ⟨b1,0,none⟩)),(5,u3)]) (fun a5 b6=>[Ar EI64 u3 a5,Blk b1 [v0,v1] 25]) (fun a5 b6=>[Sl RI64 v0 p0.1,S2 RI64I64p v1 z2 p0.2]) ?_ ?_
 ·refine J.seq<|J.region<|J.quiet (Y.move rfl) rfl<|J.quiet (Y.lenS rfl (Lent.ar (Lent.res 0 rfl) FI64) rfl) rfl<|J.quiet (Y.move rfl) rfl<|J.done<|J.thenN<|J.block<|J.loopI (A:=Int×List (Int)) (B:=Unit) (graph_search_s3 fuel p0 p1) (fun a50 b51=>[(1,Value.int .i64 (p1)),(2,Value.pointer (some ⟨b1,0,none⟩)),(5,u3),(16,Value.int .i64 (List.length (List.replicate (Int.toNat (List.length p0.2:Int)) (0:Int)):Int)),(17,Value.int .i64 (a50.1))]) (fun a50 b51=>[Ar EI64 u3 a50.2,Blk b1 [v0,v1] 25]) (fun a50 b51=>[Sl RI64 v0 p0.1,S2 RI64I64p v1 z2 p0.2]) ((0:Int),(List.replicate (Int.toNat (List.length p0.2:Int)) (0:Int))) (()) h SF (SubM.refl _) (LentAll.refl _ _) ?_
  clear h
  intro k52 a50 b51 h
  unfold graph_search_s3 at h
  refine J.seq<|J.region<|J.quiet (Y.lss rfl rfl) rfl<|J.done<|J.thenN<|J.seq ?_
  refine J.condD (by exact rfl) (fun hp53=> ?_) (fun hp53=> ?_)
  ·have h:=ifP hp53 h
   refine J.skip<|J.thenN<|J.seq<|J.block<|J.seq<|J.region<|J.quiet (Y.move rfl) rfl<|J.quiet (Y.assign rfl) rfl<|J.done<|J.thenN<|J.region<|J.quiet (Y.move rfl) rfl<|J.quiet (Y.move rfl) rfl ?_
   have h:=ck_some h;obtain⟨hc54,h⟩:=h
   refine J.quiet (Y.indexS rfl rfl (Lent.ar (Lent.res 0 rfl) FI64) rfl rfl hc54) rfl<|J.storeS 0 (-1:Int) hc54 rfl rfl rfl rfl rfl rfl rfl<|J.done<|J.inN<|J.thenN<|J.region<|J.quiet (Y.addW rfl rfl) rfl<|J.quiet (Y.move rfl) rfl<|J.done<|J.thenN ?_
   exact J.againI ((wI .i64 (a50.1+(1:Int))),(List.set a50.2 (Int.toNat a50.1) (-1:Int))) (()) h SF (SubM.refl _) (LentAll.refl _ _)
  ·have h:=ifN hp53 h
   refine J.exit<|J.thenX<|J.thenX<|J.inX<|J.thenN ?_
   exact J.meetI (a50.2) (()) h SF (SubM.refl _) (LentAll.refl _ _)
 ·clear h
  intro a5 b6 h
  unfold graph_search_k1 at h
  refine J.seq<|J.region<|J.quiet (Y.move rfl) rfl<|J.quiet (Y.move rfl) rfl ?_
  have h:=ck_some h;obtain⟨hc7,h⟩:=h
  refine J.quiet (Y.indexS rfl rfl (Lent.ar (Lent.res 0 rfl) FI64) rfl rfl hc7) rfl<|J.storeS 0 (0:Int) hc7 rfl rfl rfl rfl rfl rfl rfl<|J.done<|J.thenN<|J.seq<|J.region<|J.quiet (Y.move rfl) rfl<|J.loud (Loud.buildS (e:=EI64) ([p1]) [(0,Value.int .i64 (p1))] rfl rfl rfl rfl (fill_1_1 (Value.int .i64 (p1)) rfl) rfl rfl rfl) rfl fun u8=>J.quiet (Y.assign rfl) rfl<|J.done<|J.thenN<|J.seq<|J.midI (A:=List (Int)) (B:=Unit) (fun a10=>graph_search_k2  a10=some r) (fun a10 b11=>[(5,u3)]) (fun a10 b11=>[Ar EI64 u3 a10]) (fun a10 b11=>[Sl RI64 v0 p0.1,S2 RI64I64p v1 z2 p0.2]) ?_ ?_
  ·refine J.block<|J.loopI (A:=List (Int)×List (Int)) (B:=Value) (graph_search_s1 fuel p0) (fun a16 b17=>[(2,Value.pointer (some ⟨b1,0,none⟩)),(5,u3),(7,b17)]) (fun a16 b17=>[Ar EI64 b17 a16.1,Ar EI64 u3 a16.2,Blk b1 [v0,v1] 25]) (fun a16 b17=>[Sl RI64 v0 p0.1,S2 RI64I64p v1 z2 p0.2]) (([p1]),(List.set a5 (Int.toNat p1) (0:Int))) (u8) h SF (SubM.refl _) (LentAll.refl _ _) ?_
   clear h
   intro k18 a16 b17 h
   unfold graph_search_s1 at h
   refine J.seq<|J.seq<|J.region<|J.quiet (Y.move rfl) rfl<|J.quiet (Y.lenS rfl (Lent.ar (Lent.res 0 rfl) FI64) rfl) rfl<|J.quiet (Y.gtr rfl rfl) rfl<|J.done<|J.thenN ?_
   refine J.condD (by exact rfl) (fun hp19=> ?_) (fun hp19=> ?_)
   ·have h:=ifP hp19 h
    refine J.skip<|J.thenN<|J.block<|J.seq<|J.region<|J.quiet (Y.move rfl) rfl ?_
    have h:=ck_some h;obtain⟨hc20,h⟩:=h
    refine J.quiet (Y.indexS rfl rfl (Lent.ar (Lent.res 0 rfl) FI64) rfl rfl hc20) rfl<|J.quiet (Y.loadS0 rfl (Lent.ar (Lent.res 0 rfl) FI64) rfl rfl rfl RI64c0 hc20) rfl<|J.quiet (Y.assign rfl) rfl<|J.done<|J.thenN<|J.seq<|J.region<|J.quiet (Y.move rfl) rfl ?_
    have h:=ck_some h;obtain⟨hc21,h⟩:=h
    refine J.loud (Loud.sliceA 0 hc21 rfl rfl rfl rfl rfl rfl) rfl fun u22=>J.quiet (Y.assign rfl) rfl<|J.done<|J.thenN<|J.seq<|J.region<|J.quiet (Y.fieldB rfl rfl rfl rfl rfl) rfl<|J.quiet (Y.loadB 2 rfl rfl rfl rfl rfl) rfl<|J.quiet (Y.move rfl) rfl ?_
    have h:=ck_some h;obtain⟨hc23,h⟩:=h
    refine J.quiet (Y.indexN rfl rfl (Lent.fact 1 rfl) rfl rfl hc23) rfl<|J.quiet (Y.loadRow rfl (Lent.fact 1 rfl) rfl rfl hc23) rfl<|J.quiet (Y.lenS rfl (Lent.el (Lent.fact 1 rfl) hc23.1 hc23.2) rfl) rfl<|J.quiet (Y.move rfl) rfl<|J.done<|J.thenN<|J.block<|J.loopI (A:=Int×List (Int)×List (Int)) (B:=Value) (graph_search_s2 p0 a16 (iter (graph_search_s1 fuel p0) k18)) (fun a29 b30=>[(2,Value.pointer (some ⟨b1,0,none⟩)),(5,u3),(7,b30),(8,Value.int .i64 (at' a16.1 (0:Int))),(41,(at' z2 (at' a16.1 (0:Int))).1),(42,Value.int .i64 (List.length (at' p0.2 (at' a16.1 (0:Int))):Int)),(43,Value.int .i64 (a29.1))]) (fun a29 b30=>[Ar EI64 b30 a29.2.1,Ar EI64 u3 a29.2.2,Blk b1 [v0,v1] 25]) (fun a29 b30=>[Sl RI64 v0 p0.1,S2 RI64I64p v1 z2 p0.2]) ((0:Int),(List.drop (Int.toNat (1:Int)) a16.1),a16.2) (u22) h SF (SubM.refl _) (LentAll.refl _ _) ?_
    clear h
    intro k31 a29 b30 h
    unfold graph_search_s2 at h
    refine J.seq<|J.region<|J.quiet (Y.lss rfl rfl) rfl<|J.done<|J.thenN<|J.seq ?_
    refine J.condD (by exact rfl) (fun hp32=> ?_) (fun hp32=> ?_)
    ·have h:=ifP hp32 h
     refine J.skip<|J.thenN<|J.seq<|J.midI (A:=List (Int)×List (Int)) (B:=Value) (fun a36=>graph_search_k3 a29 (iter (graph_search_s2 p0 a16 (iter (graph_search_s1 fuel p0) k18)) k31) a36=some r) (fun a36 b37=>[(2,Value.pointer (some ⟨b1,0,none⟩)),(5,u3),(7,b37),(8,Value.int .i64 (at' a16.1 (0:Int))),(41,(at' z2 (at' a16.1 (0:Int))).1),(42,Value.int .i64 (List.length (at' p0.2 (at' a16.1 (0:Int))):Int)),(43,Value.int .i64 (a29.1))]) (fun a36 b37=>[Ar EI64 b37 a36.1,Ar EI64 u3 a36.2,Blk b1 [v0,v1] 25]) (fun a36 b37=>[Sl RI64 v0 p0.1,S2 RI64I64p v1 z2 p0.2]) ?_ ?_
     ·refine J.block<|J.seq<|J.region ?_
      have h:=ck_some h;obtain⟨hc38,h⟩:=h
      refine J.quiet (Y.indexS rfl rfl (Lent.el (Lent.fact 1 rfl) hc23.1 hc23.2) rfl rfl hc38) rfl<|J.quiet (Y.loadAggS (cs:=[Value.int .i64 ((at' (at' p0.2 (at' a16.1 (0:Int))) a29.1).1),Value.int .i64 ((at' (at' p0.2 (at' a16.1 (0:Int))) a29.1).2)]) rfl (Lent.el (Lent.fact 1 rfl) hc23.1 hc23.2) FI64I64p rfl rfl rfl rfl hc38) rfl<|J.loud (Loud.alloc (cs:=[Value.int .i64 (0:Int),Value.int .i64 (0:Int)]) rfl rfl) rfl fun b39=>J.storeAll 0 (vs:=[Value.int .i64 ((at' (at' p0.2 (at' a16.1 (0:Int))) a29.1).1),Value.int .i64 ((at' (at' p0.2 (at' a16.1 (0:Int))) a29.1).2)]) rfl rfl rfl rfl rfl rfl<|J.done<|J.thenN<|J.seq<|J.region<|J.quiet (Y.move rfl) rfl<|J.quiet (Y.fieldB rfl rfl rfl rfl rfl) rfl<|J.quiet (Y.loadB 0 rfl rfl rfl rfl rfl) rfl ?_
      have h:=ck_some h;obtain⟨hc40,h⟩:=h
      refine J.quiet (Y.indexS rfl rfl (Lent.ar (Lent.res 2 rfl) FI64) rfl rfl hc40) rfl<|J.quiet (Y.loadS0 rfl (Lent.ar (Lent.res 2 rfl) FI64) rfl rfl rfl RI64c0 hc40) rfl<|J.quiet (Y.lss rfl rfl) rfl<|J.done<|J.thenN ?_
      refine J.condD (by exact rfl) (fun hp41=> ?_) (fun hp41=> ?_)
      ·have h:=ifP hp41 h
       refine J.seq ?_
       refine JR.start [0,0,2,0,0,24,56,120,255,511] 8 mixedOrders (by decide +kernel) ?_
       refine JR.open (by exact rfl) ?_
       refine JR.qt rfl (SubM.nil) (SubL.nil) (Y.move rfl) HistOk.z<|JR.qt rfl (SubM.nil) (SubL.nil) (Y.fieldB rfl rfl rfl rfl rfl) HistOk.z<|JR.qt rfl (SubM.cons 0 rfl (SubM.nil)) (SubL.nil) (Y.loadB 0 rfl rfl rfl rfl rfl) HistOk.z<|JR.qt rfl (SubM.nil) (SubL.nil) (Y.move rfl) HistOk.z<|JR.qt rfl (SubM.nil) (SubL.nil) (Y.move rfl) HistOk.z ?_
       have h:=ck_some h;obtain⟨hc42,h⟩:=h
       refine JR.qt rfl (SubM.cons 2 rfl (SubM.nil)) (SubL.nil) (Y.indexS rfl rfl (Lent.ar (Lent.res 0 rfl) FI64) rfl rfl hc42) HistOk.z<|JR.qt rfl (SubM.cons 2 rfl (SubM.nil)) (SubL.nil) (Y.loadS0 rfl (Lent.ar (Lent.res 0 rfl) FI64) rfl rfl rfl RI64c0 hc42) HistOk.z<|JR.qt rfl (SubM.nil) (SubL.nil) (Y.addW rfl rfl) HistOk.z<|JR.tailD 8 rfl rfl ?_
       have h:=ck_some h;obtain⟨hc43,h⟩:=h
       refine J.quiet (Y.indexS rfl rfl (Lent.ar (Lent.res 2 rfl) FI64) rfl rfl hc43) rfl<|J.storeS 2 (wI .i64 ((at' a29.2.2 (at' a16.1 (0:Int)))+(1:Int))) hc43 rfl rfl rfl rfl rfl rfl rfl<|J.done<|J.thenN<|J.region<|J.quiet (Y.move rfl) rfl<|J.quiet (Y.fieldB rfl rfl rfl rfl rfl) rfl<|J.quiet (Y.loadB 0 rfl rfl rfl rfl rfl) rfl<|J.loud (Loud.buildS (e:=EI64) ([((at' (at' p0.2 (at' a16.1 (0:Int))) a29.1).1)]) [(0,Value.int .i64 ((at' (at' p0.2 (at' a16.1 (0:Int))) a29.1).1))] rfl rfl rfl rfl (fill_1_1 (Value.int .i64 ((at' (at' p0.2 (at' a16.1 (0:Int))) a29.1).1)) rfl) rfl rfl rfl) rfl fun u44=> ?_
       have h:=ck_some h;obtain⟨hc46,h⟩:=h
       refine J.loud (Loud.appendL 2 FI64 rfl rfl rfl (Lent.ar (Lent.res 0 rfl) FI64) rfl rfl rfl rfl hc46 rfl) rfl fun u45=>J.quiet (Y.assign rfl) rfl<|J.done<|J.inN<|J.thenN ?_
       exact J.meetI ((a29.2.1++([((at' (at' p0.2 (at' a16.1 (0:Int))) a29.1).1)])),(List.set a29.2.2 (Int.toNat ((at' (at' p0.2 (at' a16.1 (0:Int))) a29.1).1)) (wI .i64 ((at' a29.2.2 (at' a16.1 (0:Int)))+(1:Int))))) (u45) h SF (SubM.cons 2 rfl (SubM.cons 2 rfl (SubM.cons 2 rfl (SubM.nil)))) (LentAll.refl _ _)
      ·have h:=ifN hp41 h
       refine J.skip<|J.inN<|J.thenN ?_
       exact J.meetI (a29.2.1,a29.2.2) (b30) h SF (SubM.cons 1 rfl (SubM.cons 1 rfl (SubM.cons 1 rfl (SubM.nil)))) (LentAll.refl _ _)
     ·clear h
      intro a36 b37 h
      unfold graph_search_k3 at h
      refine J.region<|J.quiet (Y.addW rfl rfl) rfl<|J.quiet (Y.move rfl) rfl<|J.done<|J.thenN ?_
      exact J.againI ((wI .i64 (a29.1+(1:Int))),a36.1,a36.2) (b37) h SF (SubM.refl _) (LentAll.refl _ _)
    ·have h:=ifN hp32 h
     refine J.exit<|J.thenX<|J.thenX<|J.inX<|J.inN<|J.thenN ?_
     exact J.againI (a29.2.1,a29.2.2) (b30) h SF (SubM.refl _) (LentAll.refl _ _)
   ·have h:=ifN hp19 h
    refine J.exit<|J.thenX<|J.thenX<|J.inX<|J.thenN ?_
    exact J.meetI (a16.2) (()) h SF (SubM.cons 1 rfl (SubM.nil)) (LentAll.refl _ _)
  ·clear h
   intro a10 b11 h
   unfold graph_search_k2 at h
   refine J.seq<|J.region<|J.quiet (Y.move rfl) rfl<|J.quiet (Y.assign rfl) rfl<|J.done<|J.thenN<|J.ret ?_
   obtain rfl:=Option.some.inj h
   exact J.retG1 (u3) rfl rfl (RV.tmp rfl) (SubM.refl _) LentAll.nil
end Go.Proofs.YtfbkplemadmbfaaGreatDoor
end
section
namespace Go.Proofs.YtfbkplemadmbfaaGreatDoor
open Go.Sx
def graph_Connected_k1  (a6:Unit):Option (Bool):=
 some (true)
def graph_Connected_s1 (r8:List (Int)) (a13:Int) (ag12:(Int)->Option (Bool)):Option (Bool):=
 if a13<(List.length r8:Int)then(ck (0<=a13∧a13<(List.length r8:Int)) (if(at' r8 a13)<(0:Int)then(some (false))else(ag12 (wI .i64 (a13+(1:Int))))))else(graph_Connected_k1  (()))
def m_graph_Connected (fuel:Nat) (p0:List (Int)×(List (List (Int×Int)))):Option (Bool):=
 Option.bind (m_graph_Valid fuel ((p0.1,p0.2))) fun r2=>(if(!r2)=true then(some (false))else(Option.bind (m_graph_search fuel ((p0.1,p0.2)) (0:Int)) fun r8=>(iter (graph_Connected_s1 r8) fuel (0:Int))))
theorem body40:HasBody Tryz.prog 40:=Tryz.call40
theorem t_graph_Connected (fuel:Nat) {p0:List (Int)×(List (List (Int×Int)))} (v0:Value)  (v1:Value)  (z2:List (Value×List (Int×Int))) (r:Bool) (h:m_graph_Connected fuel p0=some r):
  Meets Tryz.prog 40 #[Value.agg #[v0,v1]] [Sl RI64 v0 p0.1,S2 RI64I64p v1 z2 p0.2] (fun x:Unit=>Value.bool (r)) (fun x l=>l) (fun _ l=>l):=by
 refine Meets.of (vs:=[Value.agg #[v0,v1]]) Tryz.func40 rfl Tryz.ntmps40 rfl fun c=> ?_
 unfold m_graph_Connected at h
 refine J.seq<|J.region<|J.loud (Loud.box (cs:=[v0,v1]) rfl rfl) rfl fun b1=>J.quiet (Y.assign rfl) rfl<|J.done<|J.thenN<|J.seq<|J.seq<|J.region<|J.quiet (Y.loadBAll 0 rfl rfl rfl rfl) rfl ?_
 have h:=bnd h;obtain⟨r2,hr3,h⟩:=h
 refine J.loud (Loud.callL body32 (t_graph_Valid fuel v0 v1 z2 r2 hr3) rfl (LentAll.cons (Lent.fact 0 rfl) (LentAll.cons (Lent.fact 1 rfl) .nil)) (fun _ _=>rfl)) rfl fun x4=>J.quiet (Y.not rfl) rfl<|J.done<|J.thenN ?_
 refine J.cond (by exact rfl) (fun hp5=> ?_) (fun hp5=> ?_)
 ·have h:=ifP hp5 h
  refine J.seq<|J.region<|J.quiet (Y.assign rfl) rfl<|J.done<|J.thenN<|J.ret<|J.thenR ?_
  obtain rfl:=Option.some.inj h
  exact J.retG1 (()) rfl rfl (RV.tmp rfl) (SubM.nil) LentAll.nil
 ·have h:=ifBN hp5 h
  refine J.skip<|J.thenN<|J.seq<|J.midI (A:=Unit) (B:=Unit) (fun a6=>graph_Connected_k1  a6=some r) (fun a6 b7=>[]) (fun a6 b7=>[]) (fun a6 b7=>[Sl RI64 v0 p0.1,S2 RI64I64p v1 z2 p0.2]) ?_ ?_
  ·refine J.seq<|J.region<|J.quiet (Y.loadBAll 0 rfl rfl rfl rfl) rfl ?_
   have h:=bnd h;obtain⟨r8,hr9,h⟩:=h
   refine J.loud (Loud.callL body79 (t_graph_search fuel v0 v1 z2 r8 hr9) rfl (LentAll.cons (Lent.fact 0 rfl) (LentAll.cons (Lent.fact 1 rfl) .nil)) (fun _ _=>rfl)) rfl fun x10=>J.quiet (Y.lenS rfl (Lent.ar (Lent.res 0 rfl) FI64) rfl) rfl<|J.quiet (Y.move rfl) rfl<|J.done<|J.thenN<|J.block<|J.loopI (A:=Int) (B:=Unit) (graph_Connected_s1 r8) (fun a13 b14=>[(9,x10),(10,Value.int .i64 (List.length r8:Int)),(11,Value.int .i64 (a13))]) (fun a13 b14=>[Ar EI64 x10 r8]) (fun a13 b14=>[Sl RI64 v0 p0.1,S2 RI64I64p v1 z2 p0.2]) (0:Int) (()) h SF (SubM.cons 0 rfl (SubM.nil)) (LentAll.refl _ _) ?_
   clear h
   intro k15 a13 b14 h
   unfold graph_Connected_s1 at h
   refine J.seq<|J.region<|J.quiet (Y.lss rfl rfl) rfl<|J.done<|J.thenN<|J.seq ?_
   refine J.condD (by exact rfl) (fun hp16=> ?_) (fun hp16=> ?_)
   ·have h:=ifP hp16 h
    refine J.skip<|J.thenN<|J.seq<|J.block<|J.seq<|J.region ?_
    have h:=ck_some h;obtain⟨hc17,h⟩:=h
    refine J.quiet (Y.indexS rfl rfl (Lent.ar (Lent.res 0 rfl) FI64) rfl rfl hc17) rfl<|J.quiet (Y.loadS0 rfl (Lent.ar (Lent.res 0 rfl) FI64) rfl rfl rfl RI64c0 hc17) rfl<|J.quiet (Y.assign rfl) rfl<|J.done<|J.thenN<|J.seq<|J.region<|J.quiet (Y.move rfl) rfl<|J.quiet (Y.lss rfl rfl) rfl<|J.done<|J.thenN ?_
    refine J.condD (by exact rfl) (fun hp18=> ?_) (fun hp18=> ?_)
    ·have h:=ifP hp18 h
     refine J.seq<|J.region<|J.quiet (Y.assign rfl) rfl<|J.done<|J.thenN<|J.ret<|J.inR<|J.thenR<|J.thenR<|J.inR<|J.thenR ?_
     obtain rfl:=Option.some.inj h
     exact J.retG1 (()) rfl rfl (RV.tmp rfl) (SubM.nil) LentAll.nil
    ·have h:=ifN hp18 h
     refine J.skip<|J.inN<|J.thenN<|J.region<|J.quiet (Y.addW rfl rfl) rfl<|J.quiet (Y.move rfl) rfl<|J.done<|J.thenN ?_
     exact J.againI (wI .i64 (a13+(1:Int))) (()) h SF (SubM.refl _) (LentAll.refl _ _)
   ·have h:=ifN hp16 h
    refine J.exit<|J.thenX<|J.thenX<|J.inX<|J.thenN ?_
    exact J.meetI (()) (()) h SF (SubM.nil) (LentAll.refl _ _)
  ·clear h
   intro a6 b7 h
   unfold graph_Connected_k1 at h
   refine J.seq<|J.region<|J.quiet (Y.assign rfl) rfl<|J.done<|J.thenN<|J.ret ?_
   obtain rfl:=Option.some.inj h
   exact J.retG1 (()) rfl rfl (RV.tmp rfl) (SubM.refl _) LentAll.nil
end Go.Proofs.YtfbkplemadmbfaaGreatDoor
end
section
namespace Go.Proofs.YtfbkplemadmbfaaGreatDoor
open Go.Sx
def ref01_greatest_k1  (a2:Int):Option (Int):=
 some (a2)
def ref01_greatest_s1 (p0:List (Int)) (a7:Int×Int) (ag6:(Int×Int)->Option (Int)):Option (Int):=
 if a7.2<(List.length p0:Int)then(ck (0<=a7.2∧a7.2<(List.length p0:Int)) (if(at' p0 a7.2)<(0:Int)then(some (-1:Int))else(ck (0<=a7.2∧a7.2<(List.length p0:Int)) (ag6 ((max a7.1 (at' p0 a7.2)),(wI .i64 (a7.2+(1:Int))))))))else(ref01_greatest_k1  (a7.1))
def m_ref01_greatest (fuel:Nat) (p0:List (Int)):Option (Int):=
 iter (ref01_greatest_s1 p0) fuel ((-1:Int),(0:Int))
theorem body80:HasBody Tryz.prog 80:=Tryz.call80
theorem t_ref01_greatest (fuel:Nat) {p0:List (Int)} (v0:Value) (r:Int) (h:m_ref01_greatest fuel p0=some r):
  Meets Tryz.prog 80 #[v0] [Sl RI64 v0 p0] (fun x:Unit=>Value.int .i64 (r)) (fun x l=>l) (fun _ l=>l):=by
 refine Meets.of (vs:=[v0]) Tryz.func80 rfl Tryz.ntmps80 rfl fun c=> ?_
 unfold m_ref01_greatest at h
 refine J.seq<|J.region<|J.quiet (Y.assign rfl) rfl<|J.done<|J.thenN<|J.seq<|J.region<|J.quiet (Y.assign rfl) rfl<|J.done<|J.thenN<|J.seq<|J.midI (A:=Int) (B:=Unit) (fun a2=>ref01_greatest_k1  a2=some r) (fun a2 b3=>[(3,Value.int .i64 (a2))]) (fun a2 b3=>[]) (fun a2 b3=>[Sl RI64 v0 p0]) ?_ ?_
 ·refine J.seq<|J.region<|J.quiet (Y.assign rfl) rfl<|J.done<|J.thenN<|J.block<|J.loopI (A:=Int×Int) (B:=Unit) (ref01_greatest_s1 p0) (fun a7 b8=>[(0,v0),(3,Value.int .i64 (a7.1)),(4,Value.int .i64 (a7.2))]) (fun a7 b8=>[]) (fun a7 b8=>[Sl RI64 v0 p0]) ((-1:Int),(0:Int)) (()) h SF (SubM.refl _) (LentAll.refl _ _) ?_
  clear h
  intro k9 a7 b8 h
  unfold ref01_greatest_s1 at h
  refine J.seq<|J.seq<|J.region<|J.quiet (Y.move rfl) rfl<|J.quiet (Y.move rfl) rfl<|J.quiet (Y.lenS rfl (Lent.fact 0 rfl) rfl) rfl<|J.quiet (Y.lss rfl rfl) rfl<|J.done<|J.thenN ?_
  refine J.condD (by exact rfl) (fun hp10=> ?_) (fun hp10=> ?_)
  ·have h:=ifP hp10 h
   refine J.skip<|J.thenN<|J.seq<|J.block<|J.seq<|J.seq<|J.region<|J.quiet (Y.move rfl) rfl<|J.quiet (Y.move rfl) rfl ?_
   have h:=ck_some h;obtain⟨hc11,h⟩:=h
   refine J.quiet (Y.indexS rfl rfl (Lent.fact 0 rfl) rfl rfl hc11) rfl<|J.quiet (Y.loadS0 rfl (Lent.fact 0 rfl) rfl rfl rfl RI64c0 hc11) rfl<|J.quiet (Y.lss rfl rfl) rfl<|J.done<|J.thenN ?_
   refine J.condD (by exact rfl) (fun hp12=> ?_) (fun hp12=> ?_)
   ·have h:=ifP hp12 h
    refine J.seq<|J.region<|J.quiet (Y.assign rfl) rfl<|J.done<|J.thenN<|J.ret<|J.thenR<|J.inR<|J.thenR<|J.thenR<|J.inR<|J.thenR ?_
    obtain rfl:=Option.some.inj h
    exact J.retG1 (()) rfl rfl (RV.tmp rfl) (SubM.refl _) LentAll.nil
   ·have h:=ifN hp12 h
    refine J.skip<|J.thenN<|J.region<|J.quiet (Y.move rfl) rfl<|J.quiet (Y.move rfl) rfl<|J.quiet (Y.move rfl) rfl ?_
    have h:=ck_some h;obtain⟨hc13,h⟩:=h
    refine J.quiet (Y.indexS rfl rfl (Lent.fact 0 rfl) rfl rfl hc13) rfl<|J.quiet (Y.loadS0 rfl (Lent.fact 0 rfl) rfl rfl rfl RI64c0 hc13) rfl<|J.quiet (Y.max rfl rfl) rfl<|J.quiet (Y.assign rfl) rfl<|J.done<|J.inN<|J.thenN<|J.region<|J.quiet (Y.move rfl) rfl<|J.quiet (Y.addW rfl rfl) rfl<|J.quiet (Y.assign rfl) rfl<|J.done<|J.thenN ?_
    exact J.againI ((max a7.1 (at' p0 a7.2)),(wI .i64 (a7.2+(1:Int)))) (()) h SF (SubM.refl _) (LentAll.refl _ _)
  ·have h:=ifN hp10 h
   refine J.exit<|J.thenX<|J.thenX<|J.inX<|J.thenN ?_
   exact J.meetI (a7.1) (()) h SF (SubM.refl _) (LentAll.refl _ _)
 ·clear h
  intro a2 b3 h
  unfold ref01_greatest_k1 at h
  refine J.seq<|J.region<|J.quiet (Y.move rfl) rfl<|J.quiet (Y.assign rfl) rfl<|J.done<|J.thenN<|J.ret ?_
  obtain rfl:=Option.some.inj h
  exact J.retG1 (()) rfl rfl (RV.tmp rfl) (SubM.refl _) LentAll.nil
end Go.Proofs.YtfbkplemadmbfaaGreatDoor
end
section
namespace Go.Proofs.YtfbkplemadmbfaaGreatDoor
open Go.Sx
def ref01_Distances_k3  (a12:List (Int)):Option (List (Int)):=
 some (a12)
def ref01_Distances_k4 (a17:Int×List (Int)) (ag16:(Int×List (Int))->Option (List (Int))) (a22:List (Int)):Option (List (Int)):=
 ag16 ((wI .i64 (a17.1+(1:Int))),a22)
def ref01_Distances_k5 (a27:Int×List (Int)) (ag26:(Int×List (Int))->Option (List (Int))) (a32:List (Int)):Option (List (Int)):=
 ag26 ((wI .i64 (a27.1+(1:Int))),a32)
def ref01_Distances_k7 (a37:Int×List (Int)) (ag36:(Int×List (Int))->Option (List (Int))) (a45:List (Int)):Option (List (Int)):=
 ag36 ((wI .i64 (a37.1+(1:Int))),a45)
def ref01_Distances_k6 (p0:List (Int)×(List (List (Int×Int)))) (a17:Int×List (Int)) (a27:Int×List (Int)) (ag26:(Int×List (Int))->Option (List (Int))) (a37:Int×List (Int)) (ag36:(Int×List (Int))->Option (List (Int))) (a41:Bool):Option (List (Int)):=
 if a41=true then(ck (0<=a27.1∧a27.1<(List.length p0.2:Int)) (ck (0<=a37.1∧a37.1<(List.length (at' p0.2 a27.1):Int)) (ck (0<=((at' (at' p0.2 a27.1) a37.1).1)∧((at' (at' p0.2 a27.1) a37.1).1)<(List.length a37.2:Int)) (if(at' a37.2 ((at' (at' p0.2 a27.1) a37.1).1))=(wI .i64 (a17.1 - (1:Int)))then(ck (0<=a27.1∧a27.1<(List.length a37.2:Int)) (ref01_Distances_k7 a37 ag36 (List.set a37.2 (Int.toNat a27.1) a17.1)))else(ref01_Distances_k7 a37 ag36 (a37.2))))))else(ref01_Distances_k5 a27 ag26 (a37.2))
def ref01_Distances_s3 (p0:List (Int)×(List (List (Int×Int)))) (a17:Int×List (Int)) (a27:Int×List (Int)) (ag26:(Int×List (Int))->Option (List (Int))) (a37:Int×List (Int)) (ag36:(Int×List (Int))->Option (List (Int))):Option (List (Int)):=
 ck (0<=a27.1∧a27.1<(List.length p0.2:Int)) (if a37.1<(List.length (at' p0.2 a27.1):Int)then(ck (0<=a27.1∧a27.1<(List.length a37.2:Int)) (ref01_Distances_k6 p0 a17 a27 ag26 a37 ag36 (decide ((at' a37.2 a27.1)<(0:Int)))))else(ref01_Distances_k6 p0 a17 a27 ag26 a37 ag36 (false)))
def ref01_Distances_s2 (fuel:Nat) (p0:List (Int)×(List (List (Int×Int)))) (a17:Int×List (Int)) (ag16:(Int×List (Int))->Option (List (Int))) (a27:Int×List (Int)) (ag26:(Int×List (Int))->Option (List (Int))):Option (List (Int)):=
 if a27.1<(List.length p0.2:Int)then(iter (ref01_Distances_s3 p0 a17 a27 ag26) fuel ((0:Int),a27.2))else(ref01_Distances_k4 a17 ag16 (a27.2))
def ref01_Distances_s1 (fuel:Nat) (p0:List (Int)×(List (List (Int×Int)))) (a17:Int×List (Int)) (ag16:(Int×List (Int))->Option (List (Int))):Option (List (Int)):=
 if a17.1<(List.length p0.2:Int)then(iter (ref01_Distances_s2 fuel p0 a17 ag16) fuel ((0:Int),a17.2))else(ref01_Distances_k3  (a17.2))
def ref01_Distances_k2 (fuel:Nat) (p0:List (Int)×(List (List (Int×Int)))) (p1:Int) (a8:List (Int)):Option (List (Int)):=
 ck (0<=p1∧p1<(List.length a8:Int)) (iter (ref01_Distances_s1 fuel p0) fuel ((1:Int),(List.set a8 (Int.toNat p1) (0:Int))))
def ref01_Distances_s4 (fuel:Nat) (p0:List (Int)×(List (List (Int×Int)))) (p1:Int) (a59:List (Int)×Int) (ag58:(List (Int)×Int)->Option (List (Int))):Option (List (Int)):=
 if a59.2<(List.length p0.2:Int)then(ck ((List.length a59.1:Int)+(List.length ([(-1:Int)]):Int)<=1099511627) (ag58 ((a59.1++([(-1:Int)])),(wI .i64 (a59.2+(1:Int))))))else(ref01_Distances_k2 fuel p0 p1 (a59.1))
def ref01_Distances_k1 (fuel:Nat) (p0:List (Int)×(List (List (Int×Int)))) (p1:Int) (a3:Bool):Option (List (Int)):=
 if a3=true then(some ([]:List Int))else(iter (ref01_Distances_s4 fuel p0 p1) fuel (([]:List Int),(0:Int)))
def m_ref01_Distances (fuel:Nat) (p0:List (Int)×(List (List (Int×Int)))) (p1:Int):Option (List (Int)):=
 Option.bind (m_ref01_Valid fuel ((p0.1,p0.2))) fun r66=>(if(!r66)=true then(ref01_Distances_k1 fuel p0 p1 (true))else(Option.bind (m_ref01_In fuel p1 (0:Int) (wI .i64 ((List.length p0.2:Int) - (1:Int)))) fun r70=>(ref01_Distances_k1 fuel p0 p1 ((!r70)))))
theorem body81:HasBody Tryz.prog 81:=Tryz.call81
theorem t_ref01_Distances (fuel:Nat) {p0:List (Int)×(List (List (Int×Int)))} {p1:Int} (v0:Value)  (v1:Value)  (z2:List (Value×List (Int×Int))) (r:List (Int)) (h:m_ref01_Distances fuel p0 p1=some r):
  Meets Tryz.prog 81 #[Value.agg #[v0,v1],Value.int .i64 (p1)] [Sl RI64 v0 p0.1,S2 RI64I64p v1 z2 p0.2] (fun x:Value=>x) (fun x l=>Ar EI64 x r::l) (fun _ l=>l):=by
 refine Meets.of (vs:=[Value.agg #[v0,v1],Value.int .i64 (p1)]) Tryz.func81 rfl Tryz.ntmps81 rfl fun c=> ?_
 unfold m_ref01_Distances at h
 refine J.seq<|J.region<|J.loud (Loud.box (cs:=[v0,v1]) rfl rfl) rfl fun b1=>J.quiet (Y.assign rfl) rfl<|J.done<|J.thenN<|J.seq<|J.seq<|J.midI (A:=Bool) (B:=Unit) (fun a3=>ref01_Distances_k1 fuel p0 p1 a3=some r) (fun a3 b4=>[(1,Value.int .i64 (p1)),(2,Value.pointer (some ⟨b1,0,none⟩)),(22,Value.bool (a3))]) (fun a3 b4=>[Blk b1 [v0,v1] 25]) (fun a3 b4=>[Sl RI64 v0 p0.1,S2 RI64I64p v1 z2 p0.2]) ?_ ?_
 ·refine J.region<|J.quiet (Y.loadBAll 0 rfl rfl rfl rfl) rfl ?_
  have h:=bnd h;obtain⟨r66,hr67,h⟩:=h
  refine J.loud (Loud.callL body34 (t_ref01_Valid fuel v0 v1 z2 r66 hr67) rfl (LentAll.cons (Lent.fact 0 rfl) (LentAll.cons (Lent.fact 1 rfl) .nil)) (fun _ _=>rfl)) rfl fun x68=>J.quiet (Y.not rfl) rfl<|J.quiet (Y.move rfl) rfl ?_
  refine J.guard (by exact rfl) (by exact rfl) (fun hp69=> ?_) (fun hp69=> ?_)
  ·have h:=ifP hp69 h
   refine J.guardN rfl rfl rfl<|J.guardN rfl rfl rfl<|J.guardN rfl rfl rfl<|J.guardN rfl rfl rfl<|J.guardN rfl rfl rfl<|J.guardN rfl rfl rfl<|J.guardN rfl rfl rfl<|J.quiet (Y.pickT rfl rfl) rfl<|J.done<|J.thenN ?_
   exact J.meetI (true) (()) h SF (SubM.refl _) (LentAll.refl _ _)
  ·have h:=ifBN hp69 h
   refine J.guardY rfl (Y.move rfl) rfl<|J.guardY rfl (Y.fieldB rfl rfl rfl rfl rfl) rfl<|J.guardY rfl (Y.loadB 0 rfl rfl rfl rfl rfl) rfl<|J.guardY rfl (Y.lenN rfl (Lent.fact 1 rfl) rfl) rfl<|J.guardY rfl (Y.subW rfl rfl) rfl ?_
   have h:=bnd h;obtain⟨r70,hr71,h⟩:=h
   refine J.loudG rfl (Loud.callL body71 (t_ref01_In fuel  r70 hr71) rfl .nil (fun _ _=>rfl)) rfl fun x72=>J.guardY rfl (Y.not rfl) rfl<|J.quiet (Y.pickF rfl rfl) rfl<|J.done<|J.thenN ?_
   exact J.meetI ((!r70)) (()) h SF (SubM.refl _) (LentAll.refl _ _)
 ·clear h
  intro a3 b4 h
  unfold ref01_Distances_k1 at h
  refine J.cond (by exact rfl) (fun hp5=> ?_) (fun hp5=> ?_)
  ·have h:=ifP hp5 h
   refine J.seq<|J.region<|J.quiet (Y.assign rfl) rfl<|J.done<|J.thenN<|J.ret<|J.thenR<|J.stp (Stp.nilAr EI64) ?_
   obtain rfl:=Option.some.inj h
   exact J.retG1 (Value.slice none 0 0) rfl rfl (RV.tmp rfl) (SubM.cons 0 rfl (SubM.nil)) LentAll.nil
  ·have h:=ifBN hp5 h
   refine J.skip<|J.thenN<|J.seq<|J.region<|J.quiet (Y.fieldB rfl rfl rfl rfl rfl) rfl<|J.quiet (Y.loadB 0 rfl rfl rfl rfl rfl) rfl<|J.quiet (Y.lenN rfl (Lent.fact 1 rfl) rfl) rfl<|J.quiet (Y.assign rfl) rfl<|J.done<|J.thenN<|J.seq<|J.region<|J.quiet (Y.assign rfl) rfl<|J.done<|J.thenN<|J.seq<|J.midI (A:=List (Int)) (B:=Value) (fun a8=>ref01_Distances_k2 fuel p0 p1 a8=some r) (fun a8 b9=>[(1,Value.int .i64 (p1)),(2,Value.pointer (some ⟨b1,0,none⟩)),(5,Value.int .i64 (List.length p0.2:Int)),(6,b9)]) (fun a8 b9=>[Blk b1 [v0,v1] 25,Ar EI64 b9 a8]) (fun a8 b9=>[Sl RI64 v0 p0.1,S2 RI64I64p v1 z2 p0.2]) ?_ ?_
   ·refine J.seq<|J.region<|J.quiet (Y.assign rfl) rfl<|J.done<|J.thenN<|J.block<|J.stp (Stp.nilAr EI64)<|J.loopI (A:=List (Int)×Int) (B:=Value) (ref01_Distances_s4 fuel p0 p1) (fun a59 b60=>[(1,Value.int .i64 (p1)),(2,Value.pointer (some ⟨b1,0,none⟩)),(5,Value.int .i64 (List.length p0.2:Int)),(6,b60),(7,Value.int .i64 (a59.2))]) (fun a59 b60=>[Blk b1 [v0,v1] 25,Ar EI64 b60 a59.1]) (fun a59 b60=>[Sl RI64 v0 p0.1,S2 RI64I64p v1 z2 p0.2]) (([]:List Int),(0:Int)) (Value.slice none 0 0) h SF (SubM.cons 1 rfl (SubM.cons 0 rfl (SubM.nil))) (LentAll.refl _ _) ?_
    clear h
    intro k61 a59 b60 h
    unfold ref01_Distances_s4 at h
    refine J.seq<|J.seq<|J.region<|J.quiet (Y.move rfl) rfl<|J.quiet (Y.move rfl) rfl<|J.quiet (Y.lss rfl rfl) rfl<|J.done<|J.thenN ?_
    refine J.condD (by exact rfl) (fun hp62=> ?_) (fun hp62=> ?_)
    ·have h:=ifP hp62 h
     refine J.skip<|J.thenN<|J.seq<|J.block<|J.region<|J.quiet (Y.move rfl) rfl<|J.loud (Loud.buildS (e:=EI64) ([(-1:Int)]) [(0,Value.int .i64 (-1:Int))] rfl rfl rfl rfl (fill_1_1 (Value.int .i64 (-1:Int)) rfl) rfl rfl rfl) rfl fun u63=> ?_
     have h:=ck_some h;obtain⟨hc65,h⟩:=h
     refine J.loud (Loud.appendL 2 FI64 rfl rfl rfl (Lent.ar (Lent.res 0 rfl) FI64) rfl rfl rfl rfl hc65 rfl) rfl fun u64=>J.quiet (Y.assign rfl) rfl<|J.done<|J.inN<|J.thenN<|J.region<|J.quiet (Y.move rfl) rfl<|J.quiet (Y.addW rfl rfl) rfl<|J.quiet (Y.assign rfl) rfl<|J.done<|J.thenN ?_
     exact J.againI ((a59.1++([(-1:Int)])),(wI .i64 (a59.2+(1:Int)))) (u64) h SF (SubM.cons 1 rfl (SubM.cons 1 rfl (SubM.nil))) (LentAll.refl _ _)
    ·have h:=ifN hp62 h
     refine J.exit<|J.thenX<|J.thenX<|J.inX<|J.thenN ?_
     exact J.meetI (a59.1) (b60) h SF (SubM.refl _) (LentAll.refl _ _)
   ·clear h
    intro a8 b9 h
    unfold ref01_Distances_k2 at h
    refine J.seq<|J.region<|J.quiet (Y.move rfl) rfl<|J.quiet (Y.move rfl) rfl ?_
    have h:=ck_some h;obtain⟨hc10,h⟩:=h
    refine J.quiet (Y.indexS rfl rfl (Lent.ar (Lent.res 1 rfl) FI64) rfl rfl hc10) rfl<|J.storeS 1 (0:Int) hc10 rfl rfl rfl rfl rfl rfl rfl<|J.done<|J.thenN<|J.seq<|J.midI (A:=List (Int)) (B:=Unit) (fun a12=>ref01_Distances_k3  a12=some r) (fun a12 b13=>[(6,b9)]) (fun a12 b13=>[Ar EI64 b9 a12]) (fun a12 b13=>[Sl RI64 v0 p0.1,S2 RI64I64p v1 z2 p0.2]) ?_ ?_
    ·refine J.seq<|J.region<|J.quiet (Y.assign rfl) rfl<|J.done<|J.thenN<|J.block<|J.loopI (A:=Int×List (Int)) (B:=Unit) (ref01_Distances_s1 fuel p0) (fun a17 b18=>[(2,Value.pointer (some ⟨b1,0,none⟩)),(5,Value.int .i64 (List.length p0.2:Int)),(6,b9),(8,Value.int .i64 (a17.1))]) (fun a17 b18=>[Blk b1 [v0,v1] 25,Ar EI64 b9 a17.2]) (fun a17 b18=>[Sl RI64 v0 p0.1,S2 RI64I64p v1 z2 p0.2]) ((1:Int),(List.set a8 (Int.toNat p1) (0:Int))) (()) h SF (SubM.refl _) (LentAll.refl _ _) ?_
     clear h
     intro k19 a17 b18 h
     unfold ref01_Distances_s1 at h
     refine J.seq<|J.seq<|J.region<|J.quiet (Y.move rfl) rfl<|J.quiet (Y.move rfl) rfl<|J.quiet (Y.lss rfl rfl) rfl<|J.done<|J.thenN ?_
     refine J.condD (by exact rfl) (fun hp20=> ?_) (fun hp20=> ?_)
     ·have h:=ifP hp20 h
      refine J.skip<|J.thenN<|J.seq<|J.midI (A:=List (Int)) (B:=Unit) (fun a22=>ref01_Distances_k4 a17 (iter (ref01_Distances_s1 fuel p0) k19) a22=some r) (fun a22 b23=>[(2,Value.pointer (some ⟨b1,0,none⟩)),(5,Value.int .i64 (List.length p0.2:Int)),(6,b9),(8,Value.int .i64 (a17.1))]) (fun a22 b23=>[Blk b1 [v0,v1] 25,Ar EI64 b9 a22]) (fun a22 b23=>[Sl RI64 v0 p0.1,S2 RI64I64p v1 z2 p0.2]) ?_ ?_
      ·refine J.block<|J.seq<|J.region<|J.quiet (Y.assign rfl) rfl<|J.done<|J.thenN<|J.block<|J.loopI (A:=Int×List (Int)) (B:=Unit) (ref01_Distances_s2 fuel p0 a17 (iter (ref01_Distances_s1 fuel p0) k19)) (fun a27 b28=>[(2,Value.pointer (some ⟨b1,0,none⟩)),(5,Value.int .i64 (List.length p0.2:Int)),(6,b9),(8,Value.int .i64 (a17.1)),(9,Value.int .i64 (a27.1))]) (fun a27 b28=>[Blk b1 [v0,v1] 25,Ar EI64 b9 a27.2]) (fun a27 b28=>[Sl RI64 v0 p0.1,S2 RI64I64p v1 z2 p0.2]) ((0:Int),a17.2) (()) h SF (SubM.refl _) (LentAll.refl _ _) ?_
       clear h
       intro k29 a27 b28 h
       unfold ref01_Distances_s2 at h
       refine J.seq<|J.seq<|J.region<|J.quiet (Y.move rfl) rfl<|J.quiet (Y.move rfl) rfl<|J.quiet (Y.lss rfl rfl) rfl<|J.done<|J.thenN ?_
       refine J.condD (by exact rfl) (fun hp30=> ?_) (fun hp30=> ?_)
       ·have h:=ifP hp30 h
        refine J.skip<|J.thenN<|J.seq<|J.midI (A:=List (Int)) (B:=Unit) (fun a32=>ref01_Distances_k5 a27 (iter (ref01_Distances_s2 fuel p0 a17 (iter (ref01_Distances_s1 fuel p0) k19)) k29) a32=some r) (fun a32 b33=>[(2,Value.pointer (some ⟨b1,0,none⟩)),(5,Value.int .i64 (List.length p0.2:Int)),(6,b9),(8,Value.int .i64 (a17.1)),(9,Value.int .i64 (a27.1))]) (fun a32 b33=>[Blk b1 [v0,v1] 25,Ar EI64 b9 a32]) (fun a32 b33=>[Sl RI64 v0 p0.1,S2 RI64I64p v1 z2 p0.2]) ?_ ?_
        ·refine J.block<|J.seq<|J.region<|J.quiet (Y.assign rfl) rfl<|J.done<|J.thenN<|J.block<|J.loopI (A:=Int×List (Int)) (B:=Unit) (ref01_Distances_s3 p0 a17 a27 (iter (ref01_Distances_s2 fuel p0 a17 (iter (ref01_Distances_s1 fuel p0) k19)) k29)) (fun a37 b38=>[(2,Value.pointer (some ⟨b1,0,none⟩)),(5,Value.int .i64 (List.length p0.2:Int)),(6,b9),(8,Value.int .i64 (a17.1)),(9,Value.int .i64 (a27.1)),(10,Value.int .i64 (a37.1))]) (fun a37 b38=>[Blk b1 [v0,v1] 25,Ar EI64 b9 a37.2]) (fun a37 b38=>[Sl RI64 v0 p0.1,S2 RI64I64p v1 z2 p0.2]) ((0:Int),a27.2) (()) h SF (SubM.refl _) (LentAll.refl _ _) ?_
         clear h
         intro k39 a37 b38 h
         unfold ref01_Distances_s3 at h
         refine J.seq<|J.seq<|J.midI (A:=Bool) (B:=Unit) (fun a41=>ref01_Distances_k6 p0 a17 a27 (iter (ref01_Distances_s2 fuel p0 a17 (iter (ref01_Distances_s1 fuel p0) k19)) k29) a37 (iter (ref01_Distances_s3 p0 a17 a27 (iter (ref01_Distances_s2 fuel p0 a17 (iter (ref01_Distances_s1 fuel p0) k19)) k29)) k39) a41=some r) (fun a41 b42=>[(2,Value.pointer (some ⟨b1,0,none⟩)),(5,Value.int .i64 (List.length p0.2:Int)),(6,b9),(8,Value.int .i64 (a17.1)),(9,Value.int .i64 (a27.1)),(10,Value.int .i64 (a37.1)),(61,Value.bool (a41))]) (fun a41 b42=>[Blk b1 [v0,v1] 25,Ar EI64 b9 a37.2]) (fun a41 b42=>[Sl RI64 v0 p0.1,S2 RI64I64p v1 z2 p0.2]) ?_ ?_
         ·refine J.region<|J.quiet (Y.move rfl) rfl<|J.quiet (Y.fieldB rfl rfl rfl rfl rfl) rfl<|J.quiet (Y.loadB 0 rfl rfl rfl rfl rfl) rfl<|J.quiet (Y.move rfl) rfl ?_
          have h:=ck_some h;obtain⟨hc52,h⟩:=h
          refine J.quiet (Y.indexN rfl rfl (Lent.fact 1 rfl) rfl rfl hc52) rfl<|J.quiet (Y.loadRow rfl (Lent.fact 1 rfl) rfl rfl hc52) rfl<|J.quiet (Y.lenS rfl (Lent.el (Lent.fact 1 rfl) hc52.1 hc52.2) rfl) rfl<|J.quiet (Y.lss rfl rfl) rfl<|J.quiet (Y.move rfl) rfl ?_
          refine J.guardD (by exact rfl) (by exact rfl) (fun hp53=> ?_) (fun hp53=> ?_)
          ·have h:=ifP hp53 h
           refine J.guardY rfl (Y.move rfl) rfl<|J.guardY rfl (Y.move rfl) rfl ?_
           have h:=ck_some h;obtain⟨hc54,h⟩:=h
           refine J.guardY rfl (Y.indexS rfl rfl (Lent.ar (Lent.res 1 rfl) FI64) rfl rfl hc54) rfl<|J.guardY rfl (Y.loadS0 rfl (Lent.ar (Lent.res 1 rfl) FI64) rfl rfl rfl RI64c0 hc54) rfl<|J.guardY rfl (Y.lss rfl rfl) rfl<|J.quiet (Y.pickT rfl rfl) rfl<|J.done<|J.thenN ?_
           exact J.meetI (decide ((at' a37.2 a27.1)<(0:Int))) (()) h SF (SubM.refl _) (LentAll.refl _ _)
          ·have h:=ifN hp53 h
           refine J.guardN rfl rfl rfl<|J.guardN rfl rfl rfl<|J.guardN rfl rfl rfl<|J.guardN rfl rfl rfl<|J.guardN rfl rfl rfl<|J.quiet (Y.pickF rfl rfl) rfl<|J.done<|J.thenN ?_
           exact J.meetI (false) (()) h SF (SubM.refl _) (LentAll.refl _ _)
         ·clear h
          intro a41 b42 h
          unfold ref01_Distances_k6 at h
          refine J.cond (by exact rfl) (fun hp43=> ?_) (fun hp43=> ?_)
          ·have h:=ifP hp43 h
           refine J.skip<|J.thenN<|J.seq<|J.midI (A:=List (Int)) (B:=Unit) (fun a45=>ref01_Distances_k7 a37 (iter (ref01_Distances_s3 p0 a17 a27 (iter (ref01_Distances_s2 fuel p0 a17 (iter (ref01_Distances_s1 fuel p0) k19)) k29)) k39) a45=some r) (fun a45 b46=>[(2,Value.pointer (some ⟨b1,0,none⟩)),(5,Value.int .i64 (List.length p0.2:Int)),(6,b9),(8,Value.int .i64 (a17.1)),(9,Value.int .i64 (a27.1)),(10,Value.int .i64 (a37.1))]) (fun a45 b46=>[Blk b1 [v0,v1] 25,Ar EI64 b9 a45]) (fun a45 b46=>[Sl RI64 v0 p0.1,S2 RI64I64p v1 z2 p0.2]) ?_ ?_
           ·refine J.block<|J.seq<|J.region<|J.quiet (Y.move rfl) rfl<|J.quiet (Y.fieldB rfl rfl rfl rfl rfl) rfl<|J.quiet (Y.loadB 0 rfl rfl rfl rfl rfl) rfl<|J.quiet (Y.move rfl) rfl ?_
            have h:=ck_some h;obtain⟨hc47,h⟩:=h
            refine J.quiet (Y.indexN rfl rfl (Lent.fact 1 rfl) rfl rfl hc47) rfl<|J.quiet (Y.loadRow rfl (Lent.fact 1 rfl) rfl rfl hc47) rfl<|J.quiet (Y.move rfl) rfl ?_
            have h:=ck_some h;obtain⟨hc48,h⟩:=h
            refine J.quiet (Y.indexS rfl rfl (Lent.el (Lent.fact 1 rfl) hc47.1 hc47.2) rfl rfl hc48) rfl<|J.quiet (Y.fieldEl rfl rfl rfl rfl rfl) rfl<|J.quiet (Y.loadS rfl (Lent.el (Lent.fact 1 rfl) hc47.1 hc47.2) rfl rfl rfl RI64I64pc0 hc48) rfl ?_
            have h:=ck_some h;obtain⟨hc49,h⟩:=h
            refine J.quiet (Y.indexS rfl rfl (Lent.ar (Lent.res 1 rfl) FI64) rfl rfl hc49) rfl<|J.quiet (Y.loadS0 rfl (Lent.ar (Lent.res 1 rfl) FI64) rfl rfl rfl RI64c0 hc49) rfl<|J.quiet (Y.move rfl) rfl<|J.quiet (Y.subW rfl rfl) rfl<|J.quiet (Y.eql rfl rfl) rfl<|J.done<|J.thenN ?_
            refine J.condD (by exact rfl) (fun hp50=> ?_) (fun hp50=> ?_)
            ·have h:=ifP hp50 h
             refine J.region<|J.quiet (Y.move rfl) rfl<|J.quiet (Y.move rfl) rfl<|J.quiet (Y.move rfl) rfl ?_
             have h:=ck_some h;obtain⟨hc51,h⟩:=h
             refine J.quiet (Y.indexS rfl rfl (Lent.ar (Lent.res 1 rfl) FI64) rfl rfl hc51) rfl<|J.storeS 1 a17.1 hc51 rfl rfl rfl rfl rfl rfl rfl<|J.done<|J.inN<|J.thenN ?_
             exact J.meetI (List.set a37.2 (Int.toNat a27.1) a17.1) (()) h SF (SubM.refl _) (LentAll.refl _ _)
            ·have h:=ifN hp50 h
             refine J.skip<|J.inN<|J.thenN ?_
             exact J.meetI (a37.2) (()) h SF (SubM.refl _) (LentAll.refl _ _)
           ·clear h
            intro a45 b46 h
            unfold ref01_Distances_k7 at h
            refine J.region<|J.quiet (Y.move rfl) rfl<|J.quiet (Y.addW rfl rfl) rfl<|J.quiet (Y.assign rfl) rfl<|J.done<|J.thenN ?_
            exact J.againI ((wI .i64 (a37.1+(1:Int))),a45) (()) h SF (SubM.refl _) (LentAll.refl _ _)
          ·have h:=ifBN hp43 h
           refine J.exit<|J.thenX<|J.thenX<|J.inX<|J.inN<|J.thenN ?_
           exact J.meetI (a37.2) (()) h SF (SubM.refl _) (LentAll.refl _ _)
        ·clear h
         intro a32 b33 h
         unfold ref01_Distances_k5 at h
         refine J.region<|J.quiet (Y.move rfl) rfl<|J.quiet (Y.addW rfl rfl) rfl<|J.quiet (Y.assign rfl) rfl<|J.done<|J.thenN ?_
         exact J.againI ((wI .i64 (a27.1+(1:Int))),a32) (()) h SF (SubM.refl _) (LentAll.refl _ _)
       ·have h:=ifN hp30 h
        refine J.exit<|J.thenX<|J.thenX<|J.inX<|J.inN<|J.thenN ?_
        exact J.meetI (a27.2) (()) h SF (SubM.refl _) (LentAll.refl _ _)
      ·clear h
       intro a22 b23 h
       unfold ref01_Distances_k4 at h
       refine J.region<|J.quiet (Y.move rfl) rfl<|J.quiet (Y.addW rfl rfl) rfl<|J.quiet (Y.assign rfl) rfl<|J.done<|J.thenN ?_
       exact J.againI ((wI .i64 (a17.1+(1:Int))),a22) (()) h SF (SubM.refl _) (LentAll.refl _ _)
     ·have h:=ifN hp20 h
      refine J.exit<|J.thenX<|J.thenX<|J.inX<|J.thenN ?_
      exact J.meetI (a17.2) (()) h SF (SubM.cons 1 rfl (SubM.nil)) (LentAll.refl _ _)
    ·clear h
     intro a12 b13 h
     unfold ref01_Distances_k3 at h
     refine J.seq<|J.region<|J.quiet (Y.move rfl) rfl<|J.quiet (Y.assign rfl) rfl<|J.done<|J.thenN<|J.ret ?_
     obtain rfl:=Option.some.inj h
     exact J.retG1 (b9) rfl rfl (RV.tmp rfl) (SubM.refl _) LentAll.nil
end Go.Proofs.YtfbkplemadmbfaaGreatDoor
end
section
namespace Go.Proofs.YtfbkplemadmbfaaGreatDoor
open Go.Sx
def m_ref01_Connected (fuel:Nat) (p0:List (Int)×(List (List (Int×Int)))):Option (Bool):=
 Option.bind (m_ref01_Distances fuel ((p0.1,p0.2)) (0:Int)) fun r2=>(Option.bind (m_ref01_greatest fuel r2) fun r5=>(some (decide ((0:Int)<=r5))))
theorem body41:HasBody Tryz.prog 41:=Tryz.call41
theorem t_ref01_Connected (fuel:Nat) {p0:List (Int)×(List (List (Int×Int)))} (v0:Value)  (v1:Value)  (z2:List (Value×List (Int×Int))) (r:Bool) (h:m_ref01_Connected fuel p0=some r):
  Meets Tryz.prog 41 #[Value.agg #[v0,v1]] [Sl RI64 v0 p0.1,S2 RI64I64p v1 z2 p0.2] (fun x:Unit=>Value.bool (r)) (fun x l=>l) (fun _ l=>l):=by
 refine Meets.of (vs:=[Value.agg #[v0,v1]]) Tryz.func41 rfl Tryz.ntmps41 rfl fun c=> ?_
 unfold m_ref01_Connected at h
 refine J.seq<|J.region<|J.loud (Loud.box (cs:=[v0,v1]) rfl rfl) rfl fun b1=>J.quiet (Y.assign rfl) rfl<|J.done<|J.thenN<|J.seq<|J.region<|J.quiet (Y.loadBAll 0 rfl rfl rfl rfl) rfl ?_
 have h:=bnd h;obtain⟨r2,hr3,h⟩:=h
 refine J.loud (Loud.callL body81 (t_ref01_Distances fuel v0 v1 z2 r2 hr3) rfl (LentAll.cons (Lent.fact 0 rfl) (LentAll.cons (Lent.fact 1 rfl) .nil)) (fun _ _=>rfl)) rfl fun x4=> ?_
 have h:=bnd h;obtain⟨r5,hr6,h⟩:=h
 refine J.loud (Loud.callL body80 (t_ref01_greatest fuel x4 r5 hr6) rfl (LentAll.cons (Lent.ar (Lent.res 0 rfl) FI64) .nil) (fun _ _=>rfl)) rfl fun x7=>J.quiet (Y.geq rfl rfl) rfl<|J.quiet (Y.assign rfl) rfl<|J.done<|J.thenN<|J.ret ?_
 obtain rfl:=Option.some.inj h
 exact J.retG1 (()) rfl rfl (RV.tmp rfl) (SubM.nil) LentAll.nil
end Go.Proofs.YtfbkplemadmbfaaGreatDoor
end
section
namespace Go.Proofs.YtfbkplemadmbfaaGreatDoor
open Go.Sx
def graph_greatest_k1  (a2:Int):Option (Int):=
 some (a2)
def graph_greatest_s1 (p0:List (Int)) (a7:Int×Int) (ag6:(Int×Int)->Option (Int)):Option (Int):=
 if a7.2<(List.length p0:Int)then(ck (0<=a7.2∧a7.2<(List.length p0:Int)) (ag6 ((max a7.1 (at' p0 a7.2)),(wI .i64 (a7.2+(1:Int))))))else(graph_greatest_k1  (a7.1))
def m_graph_greatest (fuel:Nat) (p0:List (Int)):Option (Int):=
 iter (graph_greatest_s1 p0) fuel ((-1:Int),(0:Int))
theorem body89:HasBody Tryz.prog 89:=Tryz.call89
theorem t_graph_greatest (fuel:Nat) {p0:List (Int)} (v0:Value) (r:Int) (h:m_graph_greatest fuel p0=some r):
  Meets Tryz.prog 89 #[v0] [Sl RI64 v0 p0] (fun x:Unit=>Value.int .i64 (r)) (fun x l=>l) (fun _ l=>l):=by
 refine Meets.of (vs:=[v0]) Tryz.func89 rfl Tryz.ntmps89 rfl fun c=> ?_
 unfold m_graph_greatest at h
 refine J.seq<|J.region<|J.quiet (Y.assign rfl) rfl<|J.done<|J.thenN<|J.seq<|J.region<|J.quiet (Y.assign rfl) rfl<|J.done<|J.thenN<|J.seq<|J.midI (A:=Int) (B:=Unit) (fun a2=>graph_greatest_k1  a2=some r) (fun a2 b3=>[(3,Value.int .i64 (a2))]) (fun a2 b3=>[]) (fun a2 b3=>[Sl RI64 v0 p0]) ?_ ?_
 ·refine J.seq<|J.region<|J.quiet (Y.move rfl) rfl<|J.quiet (Y.lenS rfl (Lent.fact 0 rfl) rfl) rfl<|J.quiet (Y.move rfl) rfl<|J.done<|J.thenN<|J.block<|J.loopI (A:=Int×Int) (B:=Unit) (graph_greatest_s1 p0) (fun a7 b8=>[(3,Value.int .i64 (a7.1)),(6,v0),(7,Value.int .i64 (List.length p0:Int)),(8,Value.int .i64 (a7.2))]) (fun a7 b8=>[]) (fun a7 b8=>[Sl RI64 v0 p0]) ((-1:Int),(0:Int)) (()) h SF (SubM.refl _) (LentAll.refl _ _) ?_
  clear h
  intro k9 a7 b8 h
  unfold graph_greatest_s1 at h
  refine J.seq<|J.region<|J.quiet (Y.lss rfl rfl) rfl<|J.done<|J.thenN<|J.seq ?_
  refine J.condD (by exact rfl) (fun hp10=> ?_) (fun hp10=> ?_)
  ·have h:=ifP hp10 h
   refine J.skip<|J.thenN<|J.seq<|J.block<|J.seq<|J.region ?_
   have h:=ck_some h;obtain⟨hc11,h⟩:=h
   refine J.quiet (Y.indexS rfl rfl (Lent.fact 0 rfl) rfl rfl hc11) rfl<|J.quiet (Y.loadS0 rfl (Lent.fact 0 rfl) rfl rfl rfl RI64c0 hc11) rfl<|J.quiet (Y.assign rfl) rfl<|J.done<|J.thenN<|J.region<|J.quiet (Y.move rfl) rfl<|J.quiet (Y.move rfl) rfl<|J.quiet (Y.max rfl rfl) rfl<|J.quiet (Y.assign rfl) rfl<|J.done<|J.inN<|J.thenN<|J.region<|J.quiet (Y.addW rfl rfl) rfl<|J.quiet (Y.move rfl) rfl<|J.done<|J.thenN ?_
   exact J.againI ((max a7.1 (at' p0 a7.2)),(wI .i64 (a7.2+(1:Int)))) (()) h SF (SubM.refl _) (LentAll.refl _ _)
  ·have h:=ifN hp10 h
   refine J.exit<|J.thenX<|J.thenX<|J.inX<|J.thenN ?_
   exact J.meetI (a7.1) (()) h SF (SubM.refl _) (LentAll.refl _ _)
 ·clear h
  intro a2 b3 h
  unfold graph_greatest_k1 at h
  refine J.seq<|J.region<|J.quiet (Y.move rfl) rfl<|J.quiet (Y.assign rfl) rfl<|J.done<|J.thenN<|J.ret ?_
  obtain rfl:=Option.some.inj h
  exact J.retG1 (()) rfl rfl (RV.tmp rfl) (SubM.refl _) LentAll.nil
end Go.Proofs.YtfbkplemadmbfaaGreatDoor
end
section
namespace Go.Proofs.YtfbkplemadmbfaaGreatDoor
open Go.Sx
def graph_Eccentricity_k1 (fuel:Nat) (p0:List (Int)×(List (List (Int×Int)))) (p1:Int) (a3:Bool):Option (Int):=
 if a3=true then(some (-1:Int))else(Option.bind (m_graph_search fuel ((p0.1,p0.2)) p1) fun r6=>(Option.bind (m_graph_greatest fuel r6) fun r9=>(some (r9))))
def m_graph_Eccentricity (fuel:Nat) (p0:List (Int)×(List (List (Int×Int)))) (p1:Int):Option (Int):=
 Option.bind (m_graph_Connected fuel ((p0.1,p0.2))) fun r12=>(if(!r12)=true then(graph_Eccentricity_k1 fuel p0 p1 (true))else(if p1<(0:Int)then(graph_Eccentricity_k1 fuel p0 p1 (true))else(graph_Eccentricity_k1 fuel p0 p1 (decide ((List.length p0.2:Int)<=p1)))))
theorem body48:HasBody Tryz.prog 48:=Tryz.call48
theorem t_graph_Eccentricity (fuel:Nat) {p0:List (Int)×(List (List (Int×Int)))} {p1:Int} (v0:Value)  (v1:Value)  (z2:List (Value×List (Int×Int))) (r:Int) (h:m_graph_Eccentricity fuel p0 p1=some r):
  Meets Tryz.prog 48 #[Value.agg #[v0,v1],Value.int .i64 (p1)] [Sl RI64 v0 p0.1,S2 RI64I64p v1 z2 p0.2] (fun x:Unit=>Value.int .i64 (r)) (fun x l=>l) (fun _ l=>l):=by
 refine Meets.of (vs:=[Value.agg #[v0,v1],Value.int .i64 (p1)]) Tryz.func48 rfl Tryz.ntmps48 rfl fun c=> ?_
 unfold m_graph_Eccentricity at h
 refine J.seq<|J.region<|J.loud (Loud.box (cs:=[v0,v1]) rfl rfl) rfl fun b1=>J.quiet (Y.assign rfl) rfl<|J.done<|J.thenN<|J.seq<|J.seq<|J.midI (A:=Bool) (B:=Unit) (fun a3=>graph_Eccentricity_k1 fuel p0 p1 a3=some r) (fun a3 b4=>[(1,Value.int .i64 (p1)),(2,Value.pointer (some ⟨b1,0,none⟩)),(18,Value.bool (a3))]) (fun a3 b4=>[Blk b1 [v0,v1] 25]) (fun a3 b4=>[Sl RI64 v0 p0.1,S2 RI64I64p v1 z2 p0.2]) ?_ ?_
 ·refine J.region<|J.quiet (Y.loadBAll 0 rfl rfl rfl rfl) rfl ?_
  have h:=bnd h;obtain⟨r12,hr13,h⟩:=h
  refine J.loud (Loud.callL body40 (t_graph_Connected fuel v0 v1 z2 r12 hr13) rfl (LentAll.cons (Lent.fact 0 rfl) (LentAll.cons (Lent.fact 1 rfl) .nil)) (fun _ _=>rfl)) rfl fun x14=>J.quiet (Y.not rfl) rfl<|J.quiet (Y.move rfl) rfl ?_
  refine J.guard (by exact rfl) (by exact rfl) (fun hp15=> ?_) (fun hp15=> ?_)
  ·have h:=ifP hp15 h
   refine J.guardN rfl rfl rfl<|J.guardN rfl rfl rfl<|J.quiet (Y.pickT rfl rfl) rfl<|J.quiet (Y.move rfl) rfl<|J.guardN rfl rfl rfl<|J.guardN rfl rfl rfl<|J.guardN rfl rfl rfl<|J.guardN rfl rfl rfl<|J.guardN rfl rfl rfl<|J.quiet (Y.pickT rfl rfl) rfl<|J.done<|J.thenN ?_
   exact J.meetI (true) (()) h SF (SubM.refl _) (LentAll.refl _ _)
  ·have h:=ifBN hp15 h
   refine J.guardY rfl (Y.move rfl) rfl<|J.guardY rfl (Y.lss rfl rfl) rfl<|J.quiet (Y.pickF rfl rfl) rfl<|J.quiet (Y.move rfl) rfl ?_
   refine J.guardD (by exact rfl) (by exact rfl) (fun hp16=> ?_) (fun hp16=> ?_)
   ·have h:=ifP hp16 h
    refine J.guardN rfl rfl rfl<|J.guardN rfl rfl rfl<|J.guardN rfl rfl rfl<|J.guardN rfl rfl rfl<|J.guardN rfl rfl rfl<|J.quiet (Y.pickT rfl rfl) rfl<|J.done<|J.thenN ?_
    exact J.meetI (true) (()) h SF (SubM.refl _) (LentAll.refl _ _)
   ·have h:=ifN hp16 h
    refine J.guardY rfl (Y.move rfl) rfl<|J.guardY rfl (Y.fieldB rfl rfl rfl rfl rfl) rfl<|J.guardY rfl (Y.loadB 0 rfl rfl rfl rfl rfl) rfl<|J.guardY rfl (Y.lenN rfl (Lent.fact 1 rfl) rfl) rfl<|J.guardY rfl (Y.geq rfl rfl) rfl<|J.quiet (Y.pickF rfl rfl) rfl<|J.done<|J.thenN ?_
    exact J.meetI (decide ((List.length p0.2:Int)<=p1)) (()) h SF (SubM.refl _) (LentAll.refl _ _)
 ·clear h
  intro a3 b4 h
  unfold graph_Eccentricity_k1 at h
  refine J.cond (by exact rfl) (fun hp5=> ?_) (fun hp5=> ?_)
  ·have h:=ifP hp5 h
   refine J.seq<|J.region<|J.quiet (Y.assign rfl) rfl<|J.done<|J.thenN<|J.ret<|J.thenR ?_
   obtain rfl:=Option.some.inj h
   exact J.retG1 (()) rfl rfl (RV.tmp rfl) (SubM.nil) LentAll.nil
  ·have h:=ifBN hp5 h
   refine J.skip<|J.thenN<|J.seq<|J.region<|J.quiet (Y.loadBAll 0 rfl rfl rfl rfl) rfl<|J.quiet (Y.move rfl) rfl ?_
   have h:=bnd h;obtain⟨r6,hr7,h⟩:=h
   refine J.loud (Loud.callL body79 (t_graph_search fuel v0 v1 z2 r6 hr7) rfl (LentAll.cons (Lent.fact 0 rfl) (LentAll.cons (Lent.fact 1 rfl) .nil)) (fun _ _=>rfl)) rfl fun x8=> ?_
   have h:=bnd h;obtain⟨r9,hr10,h⟩:=h
   refine J.loud (Loud.callL body89 (t_graph_greatest fuel x8 r9 hr10) rfl (LentAll.cons (Lent.ar (Lent.res 0 rfl) FI64) .nil) (fun _ _=>rfl)) rfl fun x11=>J.quiet (Y.assign rfl) rfl<|J.done<|J.thenN<|J.ret ?_
   obtain rfl:=Option.some.inj h
   exact J.retG1 (()) rfl rfl (RV.tmp rfl) (SubM.nil) LentAll.nil
end Go.Proofs.YtfbkplemadmbfaaGreatDoor
end
section
namespace Go.Proofs.YtfbkplemadmbfaaGreatDoor
open Go.Sx
def m_ref01_Eccentricity (fuel:Nat) (p0:List (Int)×(List (List (Int×Int)))) (p1:Int):Option (Int):=
 Option.bind (m_ref01_Distances fuel ((p0.1,p0.2)) p1) fun r2=>(Option.bind (m_ref01_greatest fuel r2) fun r5=>(some (r5)))
theorem body49:HasBody Tryz.prog 49:=Tryz.call49
theorem t_ref01_Eccentricity (fuel:Nat) {p0:List (Int)×(List (List (Int×Int)))} {p1:Int} (v0:Value)  (v1:Value)  (z2:List (Value×List (Int×Int))) (r:Int) (h:m_ref01_Eccentricity fuel p0 p1=some r):
  Meets Tryz.prog 49 #[Value.agg #[v0,v1],Value.int .i64 (p1)] [Sl RI64 v0 p0.1,S2 RI64I64p v1 z2 p0.2] (fun x:Unit=>Value.int .i64 (r)) (fun x l=>l) (fun _ l=>l):=by
 refine Meets.of (vs:=[Value.agg #[v0,v1],Value.int .i64 (p1)]) Tryz.func49 rfl Tryz.ntmps49 rfl fun c=> ?_
 unfold m_ref01_Eccentricity at h
 refine J.seq<|J.region<|J.loud (Loud.box (cs:=[v0,v1]) rfl rfl) rfl fun b1=>J.quiet (Y.assign rfl) rfl<|J.done<|J.thenN<|J.seq<|J.region<|J.quiet (Y.loadBAll 0 rfl rfl rfl rfl) rfl<|J.quiet (Y.move rfl) rfl ?_
 have h:=bnd h;obtain⟨r2,hr3,h⟩:=h
 refine J.loud (Loud.callL body81 (t_ref01_Distances fuel v0 v1 z2 r2 hr3) rfl (LentAll.cons (Lent.fact 0 rfl) (LentAll.cons (Lent.fact 1 rfl) .nil)) (fun _ _=>rfl)) rfl fun x4=> ?_
 have h:=bnd h;obtain⟨r5,hr6,h⟩:=h
 refine J.loud (Loud.callL body80 (t_ref01_greatest fuel x4 r5 hr6) rfl (LentAll.cons (Lent.ar (Lent.res 0 rfl) FI64) .nil) (fun _ _=>rfl)) rfl fun x7=>J.quiet (Y.assign rfl) rfl<|J.done<|J.thenN<|J.ret ?_
 obtain rfl:=Option.some.inj h
 exact J.retG1 (()) rfl rfl (RV.tmp rfl) (SubM.nil) LentAll.nil
end Go.Proofs.YtfbkplemadmbfaaGreatDoor
end
section
namespace Go.Proofs.YtfbkplemadmbfaaGreatDoor
open Go.Sx
def graph_Distances_k1 (fuel:Nat) (p0:List (Int)×(List (List (Int×Int)))) (p1:Int) (a3:Bool):Option (List (Int)):=
 if a3=true then(some ([]:List Int))else(Option.bind (m_graph_search fuel ((p0.1,p0.2)) p1) fun r6=>(some (r6)))
def m_graph_Distances (fuel:Nat) (p0:List (Int)×(List (List (Int×Int)))) (p1:Int):Option (List (Int)):=
 Option.bind (m_graph_Valid fuel ((p0.1,p0.2))) fun r9=>(if(!r9)=true then(graph_Distances_k1 fuel p0 p1 (true))else(if p1<(0:Int)then(graph_Distances_k1 fuel p0 p1 (true))else(graph_Distances_k1 fuel p0 p1 (decide ((List.length p0.2:Int)<=p1)))))
theorem body70:HasBody Tryz.prog 70:=Tryz.call70
theorem t_graph_Distances (fuel:Nat) {p0:List (Int)×(List (List (Int×Int)))} {p1:Int} (v0:Value)  (v1:Value)  (z2:List (Value×List (Int×Int))) (r:List (Int)) (h:m_graph_Distances fuel p0 p1=some r):
  Meets Tryz.prog 70 #[Value.agg #[v0,v1],Value.int .i64 (p1)] [Sl RI64 v0 p0.1,S2 RI64I64p v1 z2 p0.2] (fun x:Value=>x) (fun x l=>Ar EI64 x r::l) (fun _ l=>l):=by
 refine Meets.of (vs:=[Value.agg #[v0,v1],Value.int .i64 (p1)]) Tryz.func70 rfl Tryz.ntmps70 rfl fun c=> ?_
 unfold m_graph_Distances at h
 refine J.seq<|J.region<|J.loud (Loud.box (cs:=[v0,v1]) rfl rfl) rfl fun b1=>J.quiet (Y.assign rfl) rfl<|J.done<|J.thenN<|J.seq<|J.seq<|J.midI (A:=Bool) (B:=Unit) (fun a3=>graph_Distances_k1 fuel p0 p1 a3=some r) (fun a3 b4=>[(1,Value.int .i64 (p1)),(2,Value.pointer (some ⟨b1,0,none⟩)),(18,Value.bool (a3))]) (fun a3 b4=>[Blk b1 [v0,v1] 25]) (fun a3 b4=>[Sl RI64 v0 p0.1,S2 RI64I64p v1 z2 p0.2]) ?_ ?_
 ·refine J.region<|J.quiet (Y.loadBAll 0 rfl rfl rfl rfl) rfl ?_
  have h:=bnd h;obtain⟨r9,hr10,h⟩:=h
  refine J.loud (Loud.callL body32 (t_graph_Valid fuel v0 v1 z2 r9 hr10) rfl (LentAll.cons (Lent.fact 0 rfl) (LentAll.cons (Lent.fact 1 rfl) .nil)) (fun _ _=>rfl)) rfl fun x11=>J.quiet (Y.not rfl) rfl<|J.quiet (Y.move rfl) rfl ?_
  refine J.guard (by exact rfl) (by exact rfl) (fun hp12=> ?_) (fun hp12=> ?_)
  ·have h:=ifP hp12 h
   refine J.guardN rfl rfl rfl<|J.guardN rfl rfl rfl<|J.quiet (Y.pickT rfl rfl) rfl<|J.quiet (Y.move rfl) rfl<|J.guardN rfl rfl rfl<|J.guardN rfl rfl rfl<|J.guardN rfl rfl rfl<|J.guardN rfl rfl rfl<|J.guardN rfl rfl rfl<|J.quiet (Y.pickT rfl rfl) rfl<|J.done<|J.thenN ?_
   exact J.meetI (true) (()) h SF (SubM.refl _) (LentAll.refl _ _)
  ·have h:=ifBN hp12 h
   refine J.guardY rfl (Y.move rfl) rfl<|J.guardY rfl (Y.lss rfl rfl) rfl<|J.quiet (Y.pickF rfl rfl) rfl<|J.quiet (Y.move rfl) rfl ?_
   refine J.guardD (by exact rfl) (by exact rfl) (fun hp13=> ?_) (fun hp13=> ?_)
   ·have h:=ifP hp13 h
    refine J.guardN rfl rfl rfl<|J.guardN rfl rfl rfl<|J.guardN rfl rfl rfl<|J.guardN rfl rfl rfl<|J.guardN rfl rfl rfl<|J.quiet (Y.pickT rfl rfl) rfl<|J.done<|J.thenN ?_
    exact J.meetI (true) (()) h SF (SubM.refl _) (LentAll.refl _ _)
   ·have h:=ifN hp13 h
    refine J.guardY rfl (Y.move rfl) rfl<|J.guardY rfl (Y.fieldB rfl rfl rfl rfl rfl) rfl<|J.guardY rfl (Y.loadB 0 rfl rfl rfl rfl rfl) rfl<|J.guardY rfl (Y.lenN rfl (Lent.fact 1 rfl) rfl) rfl<|J.guardY rfl (Y.geq rfl rfl) rfl<|J.quiet (Y.pickF rfl rfl) rfl<|J.done<|J.thenN ?_
    exact J.meetI (decide ((List.length p0.2:Int)<=p1)) (()) h SF (SubM.refl _) (LentAll.refl _ _)
 ·clear h
  intro a3 b4 h
  unfold graph_Distances_k1 at h
  refine J.cond (by exact rfl) (fun hp5=> ?_) (fun hp5=> ?_)
  ·have h:=ifP hp5 h
   refine J.seq<|J.region<|J.quiet (Y.assign rfl) rfl<|J.done<|J.thenN<|J.ret<|J.thenR<|J.stp (Stp.nilAr EI64) ?_
   obtain rfl:=Option.some.inj h
   exact J.retG1 (Value.slice none 0 0) rfl rfl (RV.tmp rfl) (SubM.cons 0 rfl (SubM.nil)) LentAll.nil
  ·have h:=ifBN hp5 h
   refine J.skip<|J.thenN<|J.seq<|J.region<|J.quiet (Y.loadBAll 0 rfl rfl rfl rfl) rfl<|J.quiet (Y.move rfl) rfl ?_
   have h:=bnd h;obtain⟨r6,hr7,h⟩:=h
   refine J.loud (Loud.callL body79 (t_graph_search fuel v0 v1 z2 r6 hr7) rfl (LentAll.cons (Lent.fact 0 rfl) (LentAll.cons (Lent.fact 1 rfl) .nil)) (fun _ _=>rfl)) rfl fun x8=>J.quiet (Y.assign rfl) rfl<|J.done<|J.thenN<|J.ret ?_
   obtain rfl:=Option.some.inj h
   exact J.retG1 (x8) rfl rfl (RV.tmp rfl) (SubM.cons 0 rfl (SubM.nil)) LentAll.nil
end Go.Proofs.YtfbkplemadmbfaaGreatDoor
end
section
namespace Go.Sx
theorem iter_eq {X R:Type} {step:X->(X->Option R)->Option R} {r:R} (I:X->Prop) (μ:X->Nat)
  (h:∀x ag,I x->(∀x',I x'->μ x'<μ x->ag x'=some r)->step x ag=some r):∀(fuel:Nat) (x:X),I x->μ x<fuel->iter step fuel x=some r:=by
 intro fuel
 induction fuel with
 |zero=>intro x _ hx;omega
 |succ k ih=>
  intro x hI hx
  exact h x _ hI fun x' hI' hlt=>ih x' hI' (by omega)
def OK {R:Type} (Q:R->Prop) (o:Option R):Prop:=∃r,o=some r∧Q r
theorem iter_ok {X R:Type} {step:X->(X->Option R)->Option R} {Q:R->Prop} (I:X->Prop) (μ:X->Nat)
  (h:∀x ag,I x->(∀x',I x'->μ x'<μ x->OK Q (ag x'))->OK Q (step x ag)):∀(fuel:Nat) (x:X),I x->μ x<fuel->OK Q (iter step fuel x):=by
 intro fuel
 induction fuel with
 |zero=>intro x _ hx;omega
 |succ k ih=>
  intro x hI hx
  exact h x _ hI fun x' hI' hlt=>ih x' hI' (by omega)
theorem ckT {β:Type} {p:Prop} [Decidable p] (hp:p) (x:Option β):ck p x=x:=if_pos hp
theorem wr {x:Int} (h1 : -9223372036854775808<=x) (h2:x<=9223372036854775807):wI .i64 x=x:=if_pos ⟨h1,h2⟩
theorem bindS {β γ:Type} {x:Option β} {y:β} {f:β->Option γ} (h:x=some y):x.bind f=f y:=by rw[h];rfl
theorem set_at {α:Type} (l r:List α) (x y:α) (i:Nat) (h:l.length=i):(l++x::r).set i y=l++y::r:=by
 rw[List.set_append_right _ _ (by omega)];simp[<-h]
end Go.Sx
end
