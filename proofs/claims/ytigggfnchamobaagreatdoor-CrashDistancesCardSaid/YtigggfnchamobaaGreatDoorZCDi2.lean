/- Models and proofs. Conditions: none. -/
import Derived.Test.YtigggfnchamobaaGreatDoorZCDi1
import Derived.Maps.RangeRun
set_option linter.unusedVariables false
set_option linter.unusedSimpArgs false
set_option maxHeartbeats 4000000
set_option maxRecDepth 20000
section
set_option linter.unusedSectionVars false
namespace Go.Sx
open Go.RowKit
section defs
variable {κ ν:Type} [DecidableEq κ]
def AP (ek:κ->Value) (ev:ν->Value):Nat->List (κ×ν)->List MapEntry
 |_,[]=>[]
 |i,x::xs=>⟨ek x.1,ev x.2,i⟩::AP ek ev (i+1) xs
def kI (k:κ):List (κ×ν)->Option ν
 | []=>none
 |x::xs=>if k=x.1 then some x.2 else kI k xs
def zR (k:κ) (v:ν):List (κ×ν)->List (κ×ν)
 | []=>[(k,v)]
 |x::xs=>if k=x.1 then(k,v)::xs else x::zR k v xs
def Pp (ev:ν->Value) (k:κ):Nat->List (κ×ν)->Option (Nat×Value)
 |_,[]=>none
 |i,x::xs=>if k=x.1 then some (i,ev x.2)else Pp ev k (i+1) xs
theorem IX (ev:ν->Value) (k:κ):∀(i:Nat) (l:List (κ×ν)),(Pp ev k i l).map (·.2)=(kI k l).map ev
 |_,[]=>rfl
 |i,x::xs=>by
  simp only[Pp,kI]
  split
  ·rfl
  ·exact IX ev k (i+1) xs
theorem Gy (ek:κ->Value) (ev:ν->Value):∀(i:Nat) (l:List (κ×ν)) (x:κ×ν),AP ek ev i (l++[x])=AP ek ev i l++[⟨ek x.1,ev x.2,i+l.length⟩]
 |i,[],x=>rfl
 |i,y::ys,x=>by
  simp only[List.cons_append,AP,Gy ek ev (i+1) ys x,List.length_cons]
  rw[show i+1+ys.length=i+(ys.length+1) by omega]
theorem Ed (k:κ) (v:ν):∀l:List (κ×ν),kI k l=none->zR k v l=l++[(k,v)]
 | [],_=>rfl
 | x :: xs, h => by
  simp only[kI]at h
  split at h
  ·cases h
  ·rename_i hne
   simp only[zR,if_neg hne,Ed k v xs h,List.cons_append]
theorem NL (ek:κ->Value) (ev:ν->Value) (k:κ) (v:ν):∀(i0 i:Nat) (l:List (κ×ν)) (j:Nat) (u:Value),Pp ev k i l=some (j,u)->
  i<=j∧((AP ek ev i l)[j - i]?).map (·.key)=some (ek k)∧AP ek ev i (zR k v l)=(AP ek ev i l).modify (j - i) (fun e=>{e with key:=ek k,val:=ev v})∧(zR k v l).length=l.length
 |_,i,[],j,u,h=>by simp[Pp]at h
 | i0, i, x :: xs, j, u, h => by
  simp only[Pp]at h
  split at h
  ·rename_i he
   simp only[Option.some.injEq,Prod.mk.injEq]at h
   obtain⟨rfl,_⟩:=h
   simp[AP,zR,he]
  ·rename_i hne
   obtain⟨h1,h2,h3,h4⟩:=NL ek ev k v i0 (i+1) xs j u h
   have hj:j - i=(j - (i+1))+1:=by omega
   refine⟨by omega,?_,?_,?_⟩
   ·rw[hj];simpa [AP]using h2
   ·simp only[zR,if_neg hne,AP]
    rw[hj,List.modify_succ_cons,h3]
   ·simp[zR,hne,h4]
end defs
structure FE (P:Program) (kt:TypeId) {κ:Type} [DecidableEq κ] (ek:κ->Value):Prop where
 chk:∀b k w,(Instr.checkKey b 10000 kt (ek k)).run P w = .ok () w
 find:∀{ν:Type} (ev:ν->Value) (k:κ) (l:List (κ×ν)) w,(Instr.findKey kt (ek k) (AP ek ev 0 l)).run P w = .ok (Pp ev k 0 l) w
 same:∀k,Instr.sameBits 10000 (ek k) (ek k)=true
def Mp {κ ν:Type} (ek:κ->Value) (ev:ν->Value) (r:Nat) (l:List (κ×ν)):aS where
 p w F:=F r∧w.heap[r]? = some (.map (AP ek ev 0 l).toArray l.length)
 mono:=fun⟨h1,h2⟩ h=>by
  obtain⟨h3,h4⟩:=h r h1 (Array.getElem?_eq_some_iff.1 h2).1
  exact⟨h3,by rw[h4];exact h2⟩
section
variable {P:Program} {rd:Option Nat} {c:sI} {n:Sz} {σ:Fr} {M L:List aS} {Q:Exit->Act->World->Prop} {ops:Array Oper} {rest:List Oper}
variable {d:Option Tmp} {ty:TypeId} {pos:String} {aft:Array Edge} {g:Option (Nat×Bool)}
theorem St.push {w:World} (t:St c M L w) (o:Obj) {m:aS} (hm:m.p (w.alloc o) (fun k=>k=w.heap.size)):St c (m::M) L (w.alloc o):=by
 have e:Ix w (w.alloc o):=(Below.refl _ _).alloc (Nat.le_refl _) _
 obtain⟨ho,F,hF,hL⟩:=t
 have hb:∀k,k<w.heap.size->(w.alloc o).heap[k]? = w.heap[k]? := e.block
 refine⟨ho.trans e,fun i k=>match i with|0=>k=w.heap.size|i+1=>F i k,⟨?_,?_,?_⟩,fun f hf=> ?_⟩
 ·intro i m' hm'
  cases i with
  |zero=>simp at hm';subst hm';exact hm
  |succ i=>exact aS.same (hF.res i m' (by simpa using hm')) (fun _ h=>h) (fun k _ hl=>hb k hl)
 ·intro i k hk
  cases i with
  |zero=>subst hk;exact⟨.inl ho.size,by simp⟩
  |succ i=>exact⟨(hF.rng i k hk).1,Nat.lt_of_lt_of_le (hF.rng i k hk).2 e.size⟩
 ·intro i j k hi hj
  cases i with
  |zero=>
   cases j with
   |zero=>rfl
   |succ j=>have:=(hF.rng j k hj).2;simp only at hi;omega
  |succ i=>
   cases j with
   |zero=>have:=(hF.rng i k hi).2;simp only at hj;omega
   |succ j=>exact congrArg (· + 1) (hF.dis i j k hi hj)
 ·exact f.mono (hL f hf) fun k hk hl=>⟨⟨hk.1,fun i hi=>by
   cases i with
   |zero=>simp only at hi;omega
   |succ i=>exact hk.2 i hi⟩,hb k hl⟩
variable {κ ν:Type} [DecidableEq κ] {ek:κ->Value} {ev:ν->Value}
theorem aJ.makeMap (ek:κ->Value) (ev:ν->Value) {T:TypeId}:aJ P c n σ M L ⟨d,.makeMap T none,ty,pos,aft,g⟩ (fun r:Nat=> .map (some r)) (fun r=>Mp ek ev r []::M) (fun _=>L):=fun a w s t=>by
 have hrun:(execOp a.eval ⟨d,.makeMap T none,ty,pos,aft,g⟩).run P w = .ok (.value (.map (some w.heap.size))) (w.alloc (.map #[] 0)):=by
  simp[execOp,Instr.makeMap]
 simp only[Oper.wp,hrun,Oper.upon]
 exact⟨w.heap.size,rfl,t.push _ ⟨rfl,heap_alloc_new w _⟩⟩
theorem MW [bV P] {T kt vt:TypeId} {s1 s2 s3 s4:Nat} {z zv:Value} {dv:TypeDesc} {w:World} {r:Nat} {l:List (κ×ν)} {F:Nat->Prop} (hk:FE P kt ek) (hM:(Mp ek ev r l).p w F)
  (hT:bV.tab P T=some ⟨.map kt vt,s1,s2,z⟩) (hV:bV.tab P vt=some ⟨dv,s3,s4,zv⟩) (k:κ) (b:Bool):
  (Instr.lookup T (.map (some r)) (ek k) b).run P w = .ok (if b then .tuple #[((kI k l).map ev).getD zv,.bool (kI k l).isSome]else((kI k l).map ev).getD zv) w:=by
 have hg:(getObj r).run P w = .ok (.map (AP ek ev 0 l).toArray l.length) w:=by
  simp[getObj,Sem.run,hM.2]
 have hf:=hk.find ev k l w
 have hfg:=IX ev k 0 l
 simp only[Instr.lookup]
 simp[(bV.ok hT).run_und w,hg,hk.chk,hf]
 cases hfd:Pp ev k 0 l with
 |none=>
  rw[hfd]at hfg
  have:kI k l=none:=by cases h:kI k l<;>simp[h]at hfg ⊢
  simp[this,(bV.ok hV).run_zero w]
 | some x =>
  rw[hfd]at hfg
  obtain⟨v,hv,hx⟩:∃v,kI k l=some v∧ev v=x.2:=by
   cases h:kI k l with
   |none=>simp[h]at hfg
   |some v=>simp[h]at hfg;exact⟨v,rfl,hfg.symm⟩
  simp[hv,hx]
theorem Km [bV P] (j:Nat) {T kt vt:TypeId} {s1 s2 s3 s4:Nat} {z zv:Value} {dv:TypeDesc} {x y:Operand} {r:Nat} {l:List (κ×ν)} (k:κ) {b:Bool} (hk:FE P kt ek) (hx:Go.Sx.ev σ x=some (.map (some r))) (hy:Go.Sx.ev σ y=some (ek k)) (hf:M[j]? = some (Mp ek ev r l))
  (hT:bV.tab P T=some ⟨.map kt vt,s1,s2,z⟩) (hV:bV.tab P vt=some ⟨dv,s3,s4,zv⟩) {u:Value} (hu:((kI k l).map ev).getD zv=u):
  Y P c n σ M L ⟨d,.lookup T x y b,ty,pos,aft,g⟩ (if b then .tuple #[u,.bool (kI k l).isSome]else u):=fun a w s t=>by
 obtain⟨F,hF⟩:=t.res hf
 subst hu
 simp[execOp,s.eval hx,s.eval hy,MW hk hF hT hV]
theorem AS {w:World} {r:Nat} {es:Array MapEntry} {k:Nat} (h:w.heap[r]? = some (.map es k)) (o:Obj):(setObj r o).run P w = .ok () {w with heap:=w.heap.setIfInBounds r o}:=by
 simp[setObj,Sem.run,h]
theorem St.setMap {w:World} (t:St c M L w) {j r:Nat} {l l':List (κ×ν)} (hf:M[j]? = some (Mp ek ev r l)) (o:Obj) (ho:o = .map (AP ek ev 0 l').toArray l'.length):
  St c (M.set j (Mp ek ev r l')) L {w with heap:=w.heap.setIfInBounds r o}:=
 t.upd hf rfl rfl rfl (by simp) fun F hF _=>⟨fun k _ hk=>by
   rw[Array.getElem?_setIfInBounds_ne (fun e=>hk (by subst e;exact hF.1))],F,⟨hF.1,by
    rw[Array.getElem?_setIfInBounds_self_of_lt (Array.getElem?_eq_some_iff.1 hF.2).1,ho]⟩,fun _ h=> .inl h⟩
theorem JM [bV P] (j:Nat) {T kt vt:TypeId} {s1 s2:Nat} {z:Value} {x y v:Operand} {r:Nat} {l:List (κ×ν)} (k:κ) (nv:ν) (hk:FE P kt ek) (hx:Go.Sx.ev σ x=some (.map (some r))) (hy:Go.Sx.ev σ y=some (ek k)) (hv:Go.Sx.ev σ v=some (ev nv)) (hf:M[j]? = some (Mp ek ev r l))
  (hT:bV.tab P T=some ⟨.map kt vt,s1,s2,z⟩) (h:J c n σ (M.set j (Mp ek ev r (zR k nv l))) L (wpList P ops Q rest)):
  J c n σ M L (wpList P ops Q (⟨none,.mapUpdate T x y v,ty,pos,aft,none⟩::rest)):=fun a w s t=>by
 refine kG rfl ?_
 obtain⟨F,hF⟩:=t.res hf
 have hg:(getObj r).run P w = .ok (.map (AP ek ev 0 l).toArray l.length) w:=by
  simp[getObj,Sem.run,hF.2]
 have hfd:=hk.find ev k l w
 have hfg:=IX ev k 0 l
 have hrun:∃o:Obj,(execOp a.eval ⟨none,.mapUpdate T x y v,ty,pos,aft,none⟩).run P w = .ok .skip {w with heap:=w.heap.setIfInBounds r o}∧o = .map (AP ek ev 0 (zR k nv l)).toArray (zR k nv l).length:=by
  simp only[execOp,s.eval hx,s.eval hy,s.eval hv,Instr.mapUpdate]
  cases hfn:Pp ev k 0 l with
  |none=>
   rw[hfn]at hfg hfd
   have hn:kI k l=none:=by cases h:kI k l<;>simp[h]at hfg ⊢
   refine⟨.map (AP ek ev 0 l++[(⟨ek k,ev nv,l.length⟩:MapEntry)]).toArray (l.length+1),by simp[(bV.ok hT).run_und w,hg,hk.chk,hfd,AS hF.2],?_⟩
   rw[Ed k nv l hn,Gy];simp
  | some q =>
   obtain⟨i,u⟩:=q
   rw[hfn]at hfd
   obtain⟨_,h2,h3,h4⟩:=NL ek ev k nv 0 0 l i u hfn
   rw[Nat.sub_zero]at h2 h3
   have hkey:(((AP ek ev 0 l).toArray[i]?).map (·.key)).getD (ek k)=ek k:=by
    rw[List.getElem?_toArray,h2];rfl
   refine⟨.map ((AP ek ev 0 l).toArray.modify i fun e=>{e with key:=ek k,val:=ev nv}) l.length,?_,?_⟩
   ·have hst:(Instr.keyThatStays (ek k) (ek k)).run P w = .ok (ek k) w:=by simp[Instr.keyThatStays,hk.same k]
    have hkey':(Option.map (fun x=>x.key) (AP ek ev 0 l)[i]?).getD (ek k)=ek k:=by rw[h2];rfl
    simp[(bV.ok hT).run_und w,hg,hk.chk,hfd,hkey',hst,AS hF.2]
   ·rw[h3,h4];simp
 obtain⟨o,hr,ho⟩:=hrun
 simp only[Oper.wp,hr,Oper.upon]
 exact h _ _ s (t.setMap hf o ho)
end
end Go.Sx
end
section
set_option linter.unusedSectionVars false
namespace Go.Sx
open Go.RowKit Go.ChangeMaps
def It (b m len:Nat) (seen:List Nat):aS where
 p w F:=F b∧w.heap[b]? = some (.mapIter (some m) len seen.toArray len)
 mono:=fun⟨h1,h2⟩ h=>by
  obtain⟨h3,h4⟩:=h b h1 (Array.getElem?_eq_some_iff.1 h2).1
  exact⟨h3,by rw[h4];exact h2⟩
section
variable {κ ν:Type} [DecidableEq κ] {ek:κ->Value} {ev:ν->Value} {R:Type}
theorem Jl (ek:κ->Value) (ev:ν->Value):∀(k:Nat) (l:List (κ×ν)) (e:MapEntry),e∈AP ek ev k l->∃i kv,l[i]? = some kv∧e=⟨ek kv.1,ev kv.2,k+i⟩
 |_,[],e,h=>by simp[AP]at h
 | k, x :: xs, e, h => by
  rcases List.mem_cons.1 h with rfl|h
  ·exact⟨0,x,rfl,rfl⟩
  ·obtain⟨i,kv,h1,h2⟩:=Jl ek ev (k+1) xs e h
   exact⟨i+1,kv,h1,by rw[h2,show k+1+i=k+(i+1) by omega]⟩
theorem Jk (ek:κ->Value) (ev:ν->Value):∀(k:Nat) (l:List (κ×ν)) (i:Nat) (kv:κ×ν),l[i]? = some kv->(⟨ek kv.1,ev kv.2,k+i⟩:MapEntry)∈AP ek ev k l
 |_,[],i,kv,h=>by simp at h
 |k,x::xs,0,kv,h=>by simp at h;subst h;exact List.mem_cons_self
 |k,x::xs,i+1,kv,h=>by
  have:=Jk ek ev (k+1) xs i kv (by simpa using h)
  rw[show k+1+i=k+(i+1) by omega]at this
  exact List.mem_cons_of_mem _ this
theorem KO (ek:κ->Value) (ev:ν->Value):∀(k:Nat) (l:List (κ×ν)),(AP ek ev k l).map (·.born)=List.range' k l.length
 |_,[]=>rfl
 |k,x::xs=>by simp[AP,KO ek ev (k+1) xs,List.range'_succ]
def Hn (step:κ×ν->Option R->Option R) (K:Option R) (l:List (κ×ν)):Option R:=l.foldr step K
def rem (l:List (κ×ν)) (seen:List Nat):List (κ×ν):=((List.range l.length).filter (fun i=> !seen.contains i)).filterMap (fun i=>l[i]?)
theorem Ic:∀l:List (κ×ν),(List.range l.length).filterMap (fun i=>l[i]?)=l
 | []=>rfl
 |x::xs=>by
  rw[List.length_cons,List.range_succ_eq_map,List.filterMap_cons]
  simp only[List.getElem?_cons_zero,List.filterMap_map]
  congr 1
  have:=Ic xs
  simpa [Function.comp_def]using this
theorem Vz (l:List (κ×ν)):rem l []=l:=by
 unfold rem
 rw[List.filter_eq_self.2 (by simp),Ic]
theorem SO {l:List (κ×ν)} {seen:List Nat} {i:Nat} {kv:κ×ν} (hi:l[i]? = some kv) (hs:i∉seen):∃l1 l2,rem l seen=l1++kv::l2∧rem l (seen++[i])=l1++l2:=by
 have hlt:=aW hi
 have hmem:i∈(List.range l.length).filter (fun i=> !seen.contains i):=by simp[hlt,hs]
 obtain⟨A,B,hAB⟩:=List.append_of_mem hmem
 have hnd:((List.range l.length).filter (fun i=> !seen.contains i)).Nodup:=List.Pairwise.filter _ List.nodup_range
 rw[hAB]at hnd
 have hA:i∉A:=fun h=>by
  have:=(List.nodup_append.1 hnd).2.2 i h i List.mem_cons_self
  exact this rfl
 have hB:i∉B:=fun h=>by
  have:=(List.nodup_cons.1 (List.nodup_append.1 hnd).2.1).1
  exact this h
 refine⟨A.filterMap (fun i=>l[i]?),B.filterMap (fun i=>l[i]?),?_,?_⟩
 ·unfold rem
  rw[hAB,List.filterMap_append,List.filterMap_cons,hi]
 ·unfold rem
  have e:(List.range l.length).filter (fun j=> !(seen++[i]).contains j)=((List.range l.length).filter (fun j=> !seen.contains j)).filter (fun j=>decide (j≠i)):=by
   rw[List.filter_filter]
   apply List.filter_congr
   intro j _
   rw[Bool.eq_iff_iff]
   simp[and_comm]
  rw[e,hAB,List.filter_append,List.filter_cons]
  have fA:A.filter (fun j=>decide (j≠i))=A:=List.filter_eq_self.2 (fun j hj=>by simp;rintro rfl;exact hA hj)
  have fB:B.filter (fun j=>decide (j≠i))=B:=List.filter_eq_self.2 (fun j hj=>by simp;rintro rfl;exact hB hj)
  rw[fA,fB,List.filterMap_append.symm]
  simp
theorem Ia {step:κ×ν->Option R->Option R} (hc:∀a b x,step a (step b x)=step b (step a x)) (K:Option R) (kv:κ×ν) (l2:List (κ×ν)):∀l1:List (κ×ν),Hn step K (l1++kv::l2)=step kv (Hn step K (l1++l2))
 | []=>rfl
 |x::xs=>by
  have:=Ia hc K kv l2 xs
  unfold Hn at this ⊢
  rw[List.cons_append,List.cons_append,List.foldr_cons,List.foldr_cons,this,hc]
end
section
variable {P:Program} {rd:Option Nat} {c:sI} {n:Sz} {σ σ':Fr} {M L M' L':List aS} {Q:Exit->Act->World->Prop} {ops:Array Oper} {rest:List Oper}
variable {d:Option Tmp} {ty:TypeId} {pos:String} {aft:Array Edge} {g:Option (Nat×Bool)}
variable {κ ν:Type} [DecidableEq κ] {ek:κ->Value} {ev:ν->Value} {R:Type}
theorem aJ.range [bV P] (j:Nat) {T kt vt:TypeId} {s1 s2:Nat} {z:Value} {x:Operand} {m:Nat} {l:List (κ×ν)} (hx:Go.Sx.ev σ x=some (.map (some m))) (hf:M[j]? = some (Mp ek ev m l)) (hT:bV.tab P T=some ⟨.map kt vt,s1,s2,z⟩):
  aJ P c n σ M L ⟨d,.range T x,ty,pos,aft,g⟩ (fun b:Nat=> .pointer (some ⟨b,0,none⟩)) (fun b=>It b m l.length []::M) (fun _=>L):=fun a w s t=>by
 obtain⟨F,hF⟩:=t.res hf
 have hrun:(execOp a.eval ⟨d,.range T x,ty,pos,aft,g⟩).run P w = .ok (.value (.pointer (some ⟨w.heap.size,0,none⟩))) (w.alloc (.mapIter (some m) l.length #[] l.length)):=by
  simp[execOp,s.eval hx,run_range_map w T kt vt m _ _ (bV.ok hT).und hF.2]
 simp only[Oper.wp,hrun,Oper.upon]
 exact⟨w.heap.size,rfl,t.push _ ⟨rfl,heap_alloc_new w _⟩⟩
def Di (ek:κ->Value) (ev:ν->Value) (l:List (κ×ν)):Option Nat->Value
 |none=> .tuple #[.bool false]
 |some i=>match l[i]? with
  |some kv=> .tuple #[.bool true,ek kv.1,ev kv.2]
  |none=>undef
def XU (len:Nat) (seen:List Nat):Option Nat->Prop
 |none=>∀i,i<len->i∈seen
 |some i=>i<len∧i∉seen
def N_ (M:List aS) (ji b m len:Nat) (seen:List Nat):Option Nat->List aS
 |none=>M
 |some i=>M.set ji (It b m len (seen++[i]))
theorem St.pureL {w:World} {p:Prop} (hp:p) (t:St c M L w):St c M (WA p::L) w:=by
 obtain⟨ho,F,hF,hL⟩:=t
 refine⟨ho,F,hF,fun f hf=> ?_⟩
 rcases List.mem_cons.1 hf with rfl|hf
 ·exact hp
 ·exact hL f hf
theorem aJ.next (jm ji:Nat) {x:Operand} {b m:Nat} {l:List (κ×ν)} {seen:List Nat} (hx:Go.Sx.ev σ x=some (.pointer (some ⟨b,0,none⟩))) (hf:M[jm]? = some (Mp ek ev m l)) (hi:M[ji]? = some (It b m l.length seen)):
  aJ P c n σ M L ⟨d,.next x false,ty,pos,aft,g⟩ (Di ek ev l) (N_ M ji b m l.length seen) (fun o=>WA (XU l.length seen o)::L):=fun a w s t=>by
 obtain⟨F,hF⟩:=t.res hf
 obtain⟨G,hG⟩:=t.res hi
 have hold:∀e∈(AP ek ev 0 l).toArray.toList,e.born<l.length:=fun e he=>by
  obtain⟨i,kv,h1,h2⟩:=Jl ek ev 0 l e (by simpa using he)
  rw[h2];have:=aW h1;simp;omega
 rcases run_next_at (P:=P) w ty b m l.length l.length seen.toArray (AP ek ev 0 l).toArray l.length hG.2 hF.2 hold (Nat.le_refl _)with⟨h0,hr⟩|⟨e,he,w1,hw1,hr⟩
 ·have hrun:(execOp a.eval ⟨d,.next x false,ty,pos,aft,g⟩).run P w = .ok (.value (.tuple #[.bool false])) w:=by
   simp[execOp,s.eval hx,hr]
  simp only[Oper.wp,hrun,Oper.upon]
  refine⟨none,rfl,t.pureL fun i hi'=> ?_⟩
  obtain⟨kv,hkv⟩:∃kv,l[i]? = some kv:=⟨_,List.getElem?_eq_getElem hi'⟩
  have:=all_seen _ _ h0 _ (by simpa using Jk ek ev 0 l i kv hkv)
  simpa using this
 ·have hml:=_root_.Go.mem_left he
  obtain⟨i,kv,h1,h2⟩:=Jl ek ev 0 l e (by simpa using hml.1)
  subst h2
  rw[Nat.zero_add]at hr hml
  have hrun:(execOp a.eval ⟨d,.next x false,ty,pos,aft,g⟩).run P w = .ok (.value (.tuple #[.bool true,ek kv.1,ev kv.2])) (setBlock w1 b (.mapIter (some m) l.length (seen.toArray.push i) l.length)):=by
   simp[execOp,s.eval hx,hr]
  simp only[Oper.wp,hrun,Oper.upon]
  have t1:St c M L w1:=by
   rcases hw1 with rfl|rfl
   ·exact t
   ·exact t.ext ((Below.refl _ _).drew)
  refine⟨some i,by simp[Di,h1],St.pureL ⟨aW h1,by simpa using hml.2⟩ ?_⟩
  refine t1.upd hi rfl rfl rfl (by simp[setBlock]) fun F hF _=>⟨fun k _ hk=> ?_,F,⟨hF.1,?_⟩,fun _ h=> .inl h⟩
  ·simp only[setBlock]
   rw[Array.getElem?_setIfInBounds_ne (fun e=>hk (by subst e;exact hF.1))]
  ·simp only[setBlock]
   rw[Array.getElem?_setIfInBounds_self_of_lt (Array.getElem?_eq_some_iff.1 hF.2).1]
   simp
theorem aJ.entry (jm ji:Nat) {x:Operand} {b m i:Nat} {l:List (κ×ν)} {seen:List Nat} {kv:κ×ν} (hkv:l[i]? = some kv) (hx:Go.Sx.ev σ x=some (.pointer (some ⟨b,0,none⟩))) (hf:M[jm]? = some (Mp ek ev m l)) (hi:M[ji]? = some (It b m l.length (seen++[i]))):
  aJ P c n σ M L ⟨d,.entry x,ty,pos,aft,g⟩ (fun _:Unit=> .tuple #[ek kv.1,ev kv.2]) (fun _=>M) (fun _=>L):=fun a w s t=>by
 obtain⟨F,hF⟩:=t.res hf
 obtain⟨G,hG⟩:=t.res hi
 have he:=Jk ek ev 0 l i kv hkv
 rw[Nat.zero_add]at he
 have hn:((AP ek ev 0 l).toArray.toList.map (·.born)).Nodup:=by
  simp only[KO];exact List.nodup_range'
 have hr:=run_entry_at (P:=P) w b m l.length seen.toArray (AP ek ev 0 l).toArray l.length ⟨ek kv.1,ev kv.2,i⟩ (by rw[hG.2];simp) hF.2 (by simpa using he) hn
 have hrun:(execOp a.eval ⟨d,.entry x,ty,pos,aft,g⟩).run P w = .ok (.value (.tuple #[ek kv.1,ev kv.2])) w:=by
  simp[execOp,s.eval hx,hr]
 simp only[Oper.wp,hrun,Oper.upon]
 exact⟨(),by first|rfl|trivial,t⟩
theorem TM {G:Act->World->Prop} (σ':Fr) (M' L':List aS) (hs:tQ σ σ') (hM:aQ M M') (hL:aD [] L L') (h:J c n σ' M' L' G):J c n σ M L G:=fun a w s t=>h a w (s.weak hs) (t.weakE hM hL)
theorem LW {kt:TypeId} {d:TypeDesc} (hu:P.underlying kt=some d) (chk:∀b k w,(Instr.checkKey b 10000 kt (ek k)).run P w = .ok () w) (now:∀a b,Instr.sameNow d (ek a) (ek b)=none)
  (eq:∀a b w,(Op.equal kt (ek a) (ek b)).run P w = .ok (decide (a=b)) w) (same:∀k,Instr.sameBits 10000 (ek k) (ek k)=true):FE P kt ek:=by
 refine⟨chk,fun {ν'} ev' k l w=> ?_,same⟩
 have ask:∀(l:List (κ×ν')) (i:Nat),(Instr.findAsking kt (ek k) (AP ek ev' i l) i).run P w = .ok (Pp ev' k i l) w:=by
  intro l
  induction l with
  |nil=>intro i;simp[AP,Pp,Instr.findAsking]
  |cons x xs ih=>
   intro i
   simp only[AP,Pp,Instr.findAsking]
   simp[eq]
   by_cases h:k=x.1
   ·simp[h]
   ·simp[h,ih]
 unfold Instr.findKey
 cases l with
 |nil=>simp[AP,Pp,Instr.findNow,run_underlying hu w]
 |cons x xs=>
  have h1:Instr.findNow d (ek k) (AP ek ev' 0 (x::xs)) 0=none:=by simp[AP,Instr.findNow,now]
  simp[run_underlying hu w,h1,ask]
def Qx {R:Type} (c:sI) (n:Sz) (σ:Fr) (M L:List aS) (x:Option R) (r:R) (a:Act) (w:World):Prop:=x=some r∧BD n σ a∧St c M L w
theorem LV {R:Type} {x:Option R} {r:R} (h:x=some r) (hs:tQ σ' σ) (hM:aQ M' M) (hL:aD [] L' L):J c n σ' M' L' (Qx c n σ M L x r):=fun _ _ s t=>⟨h,s.weak hs,t.weakE hM hL⟩
theorem OJ (step:κ×ν->Option R->Option R) {K:Option R} {r:R} (jm ji:Nat) {b m:Nat} {l:List (κ×ν)} (hc:∀a b x,step a (step b x)=step b (step a x)) (h:Hn step K l=some r)
  (hf:M[jm]? = some (Mp ek ev m l)) (hi:M[ji]? = some (It b m l.length [])) (hne:Nat.beq ji jm=false) {t0 t1 t2:Tmp} (hx:lk σ t0=some (.pointer (some ⟨b,0,none⟩))) (hd1:Nat.blt t1 n.sz=true) (hd2:Nat.blt t2 n.sz=true)
  {id ex:Nat} {y1 y2:TypeId} {q1 q2:String} {f1 f2:Array Edge} {body:Code}
  (round:∀(kv:κ×ν) (i:Nat) (seen:List Nat) (x:Option R),l[i]? = some kv->step kv x=some r->
   J c n ((t2,.bool true)::(t1,.tuple #[.bool true,ek kv.1,ev kv.2])::σ) (M.set ji (It b m l.length (seen++[i]))) L (body.wpr rd P (Exit.then (Qx c n σ (M.set ji (It b m l.length (seen++[i]))) L x r) Q)))
  (fin:∀seen,K=some r->J c n ((t2,.bool false)::(t1,.tuple #[.bool false])::σ) (M.set ji (It b m l.length seen)) L (Q (.exit ex))):
  J c n σ M L ((Code.loop (Code.seq (Code.region id [⟨some t1,.next (.tmp t0) false,y1,q1,f1,none⟩,⟨some t2,.extract (.tmp t1) 0,y2,q2,f2,none⟩].toArray false) (Code.seq (Code.cond (.tmp t2) .skip (.exit ex)) body))).wpr rd P Q):=by
 have hjlt:=aW hi
 have hjm:jm≠ji:=fun e=>by subst e;simp at hne
 have hset:M.set ji (It b m l.length [])=M:=by
  apply List.ext_getElem?
  intro q
  by_cases eq:q=ji
  ·subst eq;rw[List.getElem?_set_self hjlt,hi]
  ·rw[List.getElem?_set_ne (Ne.symm eq)]
 refine Qq (X:=List Nat) (fun seen=>seen.Nodup∧(∀i∈seen,i<l.length)∧Hn step K (rem l seen)=some r) (fun _=>σ) (fun seen=>M.set ji (It b m l.length seen)) (fun _=>L) (fun seen=>l.length - seen.length) [] ⟨List.nodup_nil,by simp,by rw[Vz];exact h⟩ (tQ.refl _) (by rw[hset];exact aQ.refl _) (fun _ h=>h) ?_
 rintro seen ⟨hnd,hlt,hrun⟩
 have hf':(M.set ji (It b m l.length seen))[jm]? = some (Mp ek ev m l):=by rw[List.getElem?_set_ne (Ne.symm hjm)];exact hf
 have hi':(M.set ji (It b m l.length seen))[ji]? = some (It b m l.length seen):=List.getElem?_set_self hjlt
 refine aI (aM (aF (aJ.next jm ji (x:= .tmp t0) hx hf' hi') hd1 fun o=> ?_))
 refine Wx List.mem_cons_self fun ho=> ?_
 refine Wy (M':=N_ (M.set ji (It b m l.length seen)) ji b m l.length seen o) (L':=L) ?_ (tQ.refl _) (aQ.refl _) (fun f hf=>List.mem_cons_of_mem _ hf)
 cases o with
 | none =>
  refine aB (mW (vs:=[.bool false]) (by simp[Di,lk,Go.Sx.ev]) rfl) hd2 (dY (xG (aI (y_ (by simp[lk,Go.Sx.ev]) (oY (dH (dH ?_)))))))
  refine fin seen ?_
  have:rem l seen=[]:=by
   unfold rem
   rw[List.filter_eq_nil_iff.2 (fun i hi=>by simpa using ho i (by simpa using hi))]
   rfl
  rw[this]at hrun
  exact hrun
 | some i =>
  obtain⟨h1,h2⟩:=ho
  obtain⟨kv,hkv⟩:∃kv,l[i]? = some kv:=⟨_,List.getElem?_eq_getElem h1⟩
  have hval:Di ek ev l (some i) = .tuple #[.bool true,ek kv.1,ev kv.2]:=by simp[Di,hkv]
  obtain⟨l1,l2,e1,e2⟩:=SO hkv h2
  have hstep:step kv (Hn step K (rem l (seen++[i])))=some r:=by
   rw[e2,<-Ia hc K kv l2 l1,<-e1];exact hrun
  have hMs:N_ (M.set ji (It b m l.length seen)) ji b m l.length seen (some i)=M.set ji (It b m l.length (seen++[i])):=by simp[N_]
  rw[hval,hMs]
  refine aB (mW (vs:=[.bool true,ek kv.1,ev kv.2]) (by simp[lk,Go.Sx.ev]) rfl) hd2 (dY (xG (aI (Iz (by simp[lk,Go.Sx.ev]) (cU (xG ?_))))))
  refine Qr (round kv i seen _ hkv hstep) fun a w hw=>DC (fun e a' w' q=> ?_) hw
  cases e with
  | normal =>
   obtain⟨hx',hs',ht'⟩:=q
   refine⟨seen++[i],⟨?_,?_,hx'⟩,?_,hs',ht'⟩
   ·rw[List.nodup_append];exact⟨hnd,by simp,fun a ha b hb=>by simp at hb;subst hb;rintro rfl;exact h2 ha⟩
   ·intro j hj
    rcases List.mem_append.1 hj with hj|hj
    ·exact hlt j hj
    ·simp at hj;subst hj;exact h1
   ·have:seen.length<l.length:=by
     have hsub:(seen++[i]).length<=(List.range l.length).length:=by
      apply List.Nodup.length_le_of_subset
      ·rw[List.nodup_append];exact⟨hnd,by simp,fun a ha b hb=>by simp at hb;subst hb;rintro rfl;exact h2 ha⟩
      ·intro j hj
       rcases List.mem_append.1 hj with hj|hj
       ·simpa using hlt j hj
       ·simp at hj;subst hj;simpa using h1
     simp at hsub;omega
    simp;omega
  |exit id=>exact q
  |goto l=>exact q
  |ret=>exact q
  |panic ch=>exact q
  |outgrown=>exact q
end
end Go.Sx
end
section
namespace Go.Sx
open Go.RowKit
section
section
variable {P:Program} {rd:Option Nat} {c:sI} {n:Sz} {σ σ':Fr} {M L M' L':List aS} {Q:Exit->Act->World->Prop} {ops:Array Oper} {rest:List Oper} {K:Act->World->Prop} {G:Act->World->Prop}
variable {d:Option Tmp} {D:Nat} {ty:TypeId} {pos:String} {aft:Array Edge} {g:Option (Nat×Bool)}
variable {α β:Type} {e:cZ α} {r:dV α}


def Cb (P:Program) (f:FuncId) (args:Array Value) (Min L:List aS) {A:Type} (ret:A->Value) (MO:A->List aS->List aS):Prop:=
 ∀c:sI,St c Min L c.w0->Calls P f args c.w0 fun e w'=>∃x:A,e = .returned (ret x)∧St c (MO x []) [] w'
theorem Cb.of {A:Type} {ret:A->Value} {MO:A->List aS->List aS} {f:FuncId} {fn:Func} {code:Code} {vs:List Value} {m:Nat} {Min:List aS}
  (hf:P.funcs[f]? = some fn) (hb:fn.body=some code) (hn:fn.ntmps=m) (hm:Nat.ble vs.length m=true)
  (h:∀c:sI,J c ⟨m,[]⟩ (uE 0 vs) Min L (code.wpr none P (fI P fn (JZ c ret MO (fun _ l=>l))))):Cb P f vs.toArray Min L ret MO:=fun c t=>by
 have hle:vs.length<=m:=by simpa using hm
 refine qC hf hb (h c _ _ ⟨rfl,by simp[hn,hle],?_⟩ t)
 intro t v hv
 obtain⟨_,h2⟩:=AL vs 0 t v hv
 rw[Nat.sub_zero]at h2
 have hlt:t<vs.length:=by
  rcases Nat.lt_or_ge t vs.length with h'|h'
  ·exact h'
  ·rw[List.getElem?_eq_none h']at h2;cases h2
 rw[Array.getElem?_append_left (by simpa using hlt)]
 simpa using h2
theorem QG {w w':World} {Min Mr M1:List aS} {F:Nat->Nat->Prop} {U:Nat->Prop} (ho:yI c.O c.w0 w) (hF:VW c w (Min++Mr) F) (hL:∀f∈L,f.p w (BB c F))
  (t:St ⟨w,U,fun k=>∃i,i<Min.length∧F i k⟩ M1 [] w'):St c (M1++Mr) L w':=by
 obtain⟨ho',F',hF',_⟩:=t
 have hsz:=ho'.size
 have hbl:∀k,k<w.heap.size->(∀i,i<Min.length->¬F i k)->w'.heap[k]? = w.heap[k]? := fun k hk hn=>ho'.block k hk (fun⟨i,hi,hF⟩=>hn i hi hF)
 have hmine:∀i k,F' i k->w.heap.size<=k∨∃j,j<Min.length∧F j k:=fun i k hk=>(hF'.rng i k hk).1
 refine⟨⟨ho'.os.trans ho.os,ho'.tape.trans ho.tape,ho'.output.trans ho.output,Nat.le_trans ho.size hsz,fun k hk hO=> ?_⟩,
  fun i k=>(i<M1.length∧F' i k)∨(M1.length<=i∧F (i - M1.length+Min.length) k),⟨?_,?_,?_⟩,fun f hf=> ?_⟩
 ·refine(hbl k (Nat.lt_of_lt_of_le hk ho.size) (fun i _ hFi=> ?_)).trans (ho.block k hk hO)
  rcases(hF.rng i k hFi).1 with h|h
  ·omega
  ·exact hO h
 ·intro i m hm
  by_cases hi:i<M1.length
  ·rw[List.getElem?_append_left hi]at hm
   exact aS.same (hF'.res i m hm) (fun k hk=> .inl ⟨hi,hk⟩) (fun _ _ _=>rfl)
  ·rw[List.getElem?_append_right (by omega)]at hm
   have hm':(Min++Mr)[i - M1.length+Min.length]? = some m:=by
    rw[List.getElem?_append_right (by omega),Nat.add_sub_cancel];exact hm
   exact aS.same (hF.res _ m hm') (fun k hk=> .inr ⟨by omega,hk⟩) (fun k hk hl=>hbl k hl (fun j hj hFj=>by have:=hF.dis _ _ k hFj hk;omega))
 ·rintro i k (⟨_,hk⟩|⟨_,hk⟩)
  ·refine⟨?_,(hF'.rng i k hk).2⟩
   rcases hmine i k hk with h|⟨j,_,h⟩
   ·exact .inl (Nat.le_trans ho.size h)
   ·exact(hF.rng j k h).1
  ·exact⟨(hF.rng _ k hk).1,Nat.lt_of_lt_of_le (hF.rng _ k hk).2 hsz⟩
 ·rintro i j k (⟨hi,h1⟩|⟨hi,h1⟩) (⟨hj,h2⟩|⟨hj,h2⟩)
  ·exact hF'.dis i j k h1 h2
  ·rcases hmine i k h1 with h|⟨q,hq,h⟩
   ·have:=(hF.rng _ k h2).2;omega
   ·have:=hF.dis _ _ k h h2;omega
  ·rcases hmine j k h2 with h|⟨q,hq,h⟩
   ·have:=(hF.rng _ k h1).2;omega
   ·have:=hF.dis _ _ k h h1;omega
  ·have:=hF.dis _ _ k h1 h2;omega
 ·refine f.mono (hL f hf) fun k hk hl=>⟨⟨hk.1,?_⟩,hbl k hl (fun i _=>hk.2 i)⟩
  rintro i (⟨_,h⟩|⟨_,h⟩)
  ·rcases hmine i k h with h'|⟨q,_,h'⟩
   ·omega
   ·exact hk.2 q h'
  ·exact hk.2 _ h
theorem OS {w:World} {Min Mr L0:List aS} {F:Nat->Nat->Prop} (hF:VW c w (Min++Mr) F) (hL:∀f∈L,f.p w (BB c F)) (hl:aD Mr L L0):
  St ⟨w,fun k=>∀i,i<Min.length->¬F i k,fun k=>∃i,i<Min.length∧F i k⟩ Min L0 w:=by
 refine⟨yI.refl _,fun i k=>i<Min.length∧F i k,⟨fun i m hm=> ?_,fun i k hk=>⟨.inr ⟨i,hk⟩,(hF.rng i k hk.2).2⟩,fun i j k h1 h2=>hF.dis i j k h1.2 h2.2⟩,fun f hf=> ?_⟩
 ·have hi:i<Min.length:=by
   rcases Nat.lt_or_ge i Min.length with h'|h'
   ·exact h'
   ·rw[List.getElem?_eq_none h']at hm;cases hm
  exact aS.same (hF.res i m (by rw[List.getElem?_append_left hi];exact hm)) (fun k hk=>⟨hi,hk⟩) (fun _ _ _=>rfl)
 ·refine hl f hf w (BB c F) (fun j k=>F (j+Min.length) k) _ hL (fun j m hj=> ?_) (fun k hk=> ?_) (fun j k hk=> ?_)
  ·exact hF.res _ m (by rw[List.getElem?_append_right (by omega),Nat.add_sub_cancel];exact hj)
  ·exact⟨.inl fun i _=>hk.2 i,fun i hi=>hk.2 i hi.2⟩
  ·exact⟨.inl fun i hi h=>by have:=hF.dis _ _ k h hk;omega,fun i hi=>by have:=hF.dis _ _ k hi.2 hk;omega⟩
theorem Ca {A:Type} {ret:A->Value} {MO:A->List aS->List aS} {f:FuncId} {xs:List Operand} {vs:List Value} {ats:Array TypeId} {L0 Min Mr:List aS} (hb:aO P f)
  (hs:Cb P f vs.toArray Min L0 ret MO) (hx:xs.map (ev σ)=vs.map some) (hM:aQ M (Min++Mr)) (hL:aD Mr L L0) (hMO:∀x l,MO x l=MO x []++l):
  aJ P c n σ M L ⟨d,.call ⟨.value (.func f),xs.toArray,ats⟩,ty,pos,aft,g⟩ ret (fun x=>MO x Mr) (fun _=>L):=fun a w s t=>by
 have hrun:(execOp a.eval ⟨d,.call ⟨.value (.func f),xs.toArray,ats⟩,ty,pos,aft,g⟩).run P w = .ok (.enter f vs.toArray) w:=by
  have e:=Xy s hx
  simp[execOp,resolve,Act.eval,Deferred.ofValue,invoke,hb _ w,e]
 simp only[Oper.wp,hrun,Oper.upon]
 obtain⟨ho,F,hF,hLF⟩:=t.weak (L':=L) hM (fun _ h=>h)
 refine(hs _ (OS hF hLF hL)).mono ?_
 rintro e w' ⟨x,rfl,ht⟩
 refine⟨x,rfl,?_⟩
 rw[hMO]
 exact QG ho hF hLF ht

def TO {A B:Type} (c:sI) (C:A->Prop) (val:A->B->Value) (MI LI:A->B->List aS) (e:Ending) (w:World):Prop:=∃x y,C x∧e = .returned (val x y)∧St c (MI x y) (LI x y) w
theorem Gk {fn:Func} {vs:List Value} {m:Nat} (hn:fn.ntmps=m) (hm:Nat.ble vs.length m=true):BD ⟨m,[]⟩ (uE 0 vs) {tmps:=vs.toArray++Array.replicate (fn.ntmps - vs.toArray.size) undef,defers:=[]}:=by
 have hle:vs.length<=m:=by simpa using hm
 refine⟨rfl,by simp[hn,hle],?_⟩
 intro t v hv
 obtain⟨_,h2⟩:=AL vs 0 t v hv
 rw[Nat.sub_zero]at h2
 have hlt:t<vs.length:=by
  rcases Nat.lt_or_ge t vs.length with h'|h'
  ·exact h'
  ·rw[List.getElem?_eq_none h']at h2;cases h2
 rw[Array.getElem?_append_left (by simpa using hlt)]
 simpa using h2
structure sL (P:Program) (c:sI) (n:Sz) (σ:Fr) (M L:List aS) (o:Oper) (f:FuncId) (vs:List Value):Prop where
 run:∀a w,BD n σ a->St c M L w->(execOp a.eval o).run P w = .ok (.enter f vs.toArray) w
theorem sL.fn {f:FuncId} {xs:List Operand} {vs:List Value} {ats:Array TypeId} (hb:aO P f) (hx:xs.map (ev σ)=vs.map some):sL P c n σ M L ⟨d,.call ⟨.value (.func f),xs.toArray,ats⟩,ty,pos,aft,g⟩ f vs:=⟨fun a w s _=>by
 have e:=Xy s hx
 simp[execOp,resolve,Act.eval,Deferred.ofValue,invoke,hb _ w,e]⟩
theorem OH {f:FuncId} {t:Tmp} {xs:List Operand} {us cs vs:List Value} {ats:Array TypeId} (hb:aO P f) (ht:lk σ t=some (.func (.func f) #[] cs.toArray)) (hx:xs.map (ev σ)=us.map some) (hv:us++cs=vs):sL P c n σ M L ⟨d,.call ⟨.value (.tmp t),xs.toArray,ats⟩,ty,pos,aft,g⟩ f vs:=⟨fun a w s _=>by
 have e:=Xy s hx
 have e2:a.eval (.tmp t) = .func (.func f) #[] cs.toArray:=s.eval (x:= .tmp t) ht
 subst hv
 simp[execOp,resolve,e2,Deferred.ofValue,invoke,hb _ w,e]⟩

def CK (P:Program) (c:sI) (n:Sz) (σ:Fr) (M L:List aS) (fn:Func) (v:Value):Prop:=∀a w,BD n σ a->St c M L w->(results fn a.tmps).run P w = .ok v w
variable {fn:Func}
theorem CK.r0 (hres:fn.results = #[]):CK P c n σ M L fn (.tuple #[]):=fun a w _ _=>by simp[results,hres]
theorem CK.r1 {r1:ResultVar} {v1:Value} (hres:fn.results = #[r1]) (h1:RV P c n σ M L r1 v1):CK P c n σ M L fn v1:=fun a w s t=>by
 have:=h1 a w s t
 simp only[wT,hres]
 simp[this]
theorem CK.r2 {r1 r2:ResultVar} {v1 v2:Value} (hres:fn.results = #[r1,r2]) (h1:RV P c n σ M L r1 v1) (h2:RV P c n σ M L r2 v2):CK P c n σ M L fn (.tuple #[v1,v2]):=fun a w s t=>by
 have h1:=h1 a w s t
 have h2:=h2 a w s t
 simp only[wT,hres]
 simp[h1,h2]
theorem sW {A B:Type} {m:Sz} {v:Value} {ex:Exit} {C:A->Prop} {val:A->B->Value} {MI LI:A->B->List aS} (x:A) (y:B) (hC:C x) (hex:ex = .ret∨ex = .normal) (hr:CK P c m σ' M L fn v) (hv:v=val x y) (hM:aQ M (MI x y)) (hL:aD [] L (LI x y)) (hds:m.ds=[]:=by rfl):
  J c m σ' M L (fI P fn (TO c C val MI LI) ex):=fun a w s t=>by
 exact body_end hex (s.defers.trans hds) (hr a w s t) ⟨x,y,hC,by rw[hv],t.weakE hM hL⟩
end
end
section
section
variable {P:Program} {rd:Option Nat} {c:sI} {n:Sz} {σ σ':Fr} {M L M' L':List aS} {Q:Exit->Act->World->Prop} {ops:Array Oper} {rest:List Oper} {K:Act->World->Prop} {G:Act->World->Prop}
variable {d:Option Tmp} {D:Nat} {ty:TypeId} {pos:String} {aft:Array Edge} {g:Option (Nat×Bool)}
variable {α β:Type} {e:cZ α} {r:dV α}
theorem Kh (i:Nat) {k:Int} {vs:List Value} {xss:List (List α)} (hf:M[i]? = some (jK e vs xss)) (h:0<=k∧k<xss.length):
  qR M L (Ar e (at' vs k) (at' xss k)::M.set i (jK e (vs.set k.toNat (.slice none 0 0)) (xss.set k.toNat []))) L:=fun c w t=>by
 obtain⟨ho,F,hF,hL⟩:=t
 obtain⟨hlen,G,g1,g2,g3⟩:=hF.res i _ hf
 have hkl:k.toNat<vs.length:=by omega
 have hlt:i<M.length:=(List.getElem?_eq_some_iff.1 hf).1
 have hrow:=g1 k.toNat _ _ (jE h.1 (by omega)) (jE h.1 h.2)
 refine⟨ho,fun j q=>match j with|0=>G k.toNat q|j+1=>(j=i∧∃j',j'≠k.toNat∧G j' q)∨(j≠i∧F j q),⟨?_,?_,?_⟩,fun f hf=> ?_⟩
 ·intro j m hm
  cases j with
  |zero=>simp at hm;subst hm;exact hrow
  | succ j =>
   rw[List.getElem?_cons_succ]at hm
   by_cases ej:j=i
   ·subst ej
    rw[List.getElem?_set_self hlt]at hm
    cases hm
    refine⟨by simp[hlen],fun j' q=>j'≠k.toNat∧G j' q,fun j' v xs hv hx=> ?_,fun j' q hq=> .inl ⟨rfl,j',hq⟩,fun j1 j2 q h1 h2=>g3 _ _ q h1.2 h2.2⟩
    by_cases e2:j'=k.toNat
    ·subst e2
     rw[List.getElem?_set_self hkl]at hv
     rw[List.getElem?_set_self (by omega)]at hx
     cases hv;cases hx
     exact⟨by simp,rfl,.inl ⟨rfl,rfl⟩⟩
    ·rw[List.getElem?_set_ne (Ne.symm e2)]at hv hx
     exact aS.same (f:=Ar e v xs) (g1 j' v xs hv hx) (fun q hq=>⟨e2,hq⟩) (fun _ _ _=>rfl)
   ·rw[List.getElem?_set_ne (Ne.symm ej)]at hm
    exact aS.same (hF.res j m hm) (fun q hq=> .inr ⟨ej,hq⟩) (fun _ _ _=>rfl)
 ·intro j q hq
  cases j with
  |zero=>exact hF.rng i q (g2 _ q hq)
  |succ j=>
   rcases hq with⟨_,j',_,hq⟩|⟨_,hq⟩
   ·exact hF.rng i q (g2 _ q hq)
   ·exact hF.rng j q hq
 ·intro j1 j2 q h1 h2
  cases j1 with
  | zero =>
   cases j2 with
   |zero=>rfl
   |succ j2=>
    rcases h2 with⟨_,j',hne,h2⟩|⟨hne,h2⟩
    ·exact absurd (g3 _ _ q h2 h1) hne
    ·exact absurd (hF.dis _ _ q h2 (g2 _ q h1)) hne
  | succ j1 =>
   cases j2 with
   |zero=>
    rcases h1 with⟨_,j',hne,h1⟩|⟨hne,h1⟩
    ·exact absurd (g3 _ _ q h1 h2) hne
    ·exact absurd (hF.dis _ _ q h1 (g2 _ q h2)) hne
   |succ j2=>
    congr 1
    rcases h1 with⟨e1,j',_,h1⟩|⟨e1,h1⟩<;>rcases h2 with⟨e2,j'',_,h2⟩|⟨e2,h2⟩
    ·rw[e1,e2]
    ·exact absurd (hF.dis _ _ q h2 (g2 _ q h1)) e2
    ·exact absurd (hF.dis _ _ q h1 (g2 _ q h2)) e1
    ·exact hF.dis _ _ q h1 h2
 ·refine aS.same (hL f hf) (fun q hq=>⟨hq.1,fun j hj=> ?_⟩) (fun _ _ _=>rfl)
  cases j with
  |zero=>exact hq.2 i (g2 _ q hj)
  |succ j=>
   rcases hj with⟨_,j',_,hj⟩|⟨_,hj⟩
   ·exact hq.2 i (g2 _ q hj)
   ·exact hq.2 j hj
theorem Ke (i j:Nat) {u:Value} {k:Int} {vs:List Value} {xss:List (List α)} {ys:List α} (hij:Nat.beq i j=false) (hf:M[i]? = some (jK e (vs.set k.toNat (.slice none 0 0)) (xss.set k.toNat []))) (hg:M[j]? = some (Ar e u ys)) (h:0<=k∧k<(xss.set k.toNat []).length):
  qR M L ((M.set i (jK e (vs.set k.toNat u) (xss.set k.toNat ys))).eraseIdx j) L:=by
 have:=tZ (L:=L) i j hij hf hg h
 rwa[List.set_set,List.set_set]at this

theorem HF {α:Type} [Inhabited α] (l:List α) {j k:Int} (y:α) (h:j.toNat≠k.toNat):at' (l.set j.toNat y) k=at' l k:=by
 rw[at',at',List.getD_eq_getElem?_getD,List.getD_eq_getElem?_getD,List.getElem?_set_ne h]
theorem vG [bV P] (i:Nat) {r:dV α} (hfit:e.Fits r) {x y:Operand} {u u0:Value} {k j:Int} {vs:List Value} {xss:List (List α)} {ys ys0:List α} {T E:TypeId} {s1 s2 s3 s4:Nat} {z z':Value} {dE:TypeDesc} (hx:ev σ x=some (at' vs k)) (hy:ev σ y=some u) (hf:M[i]? = some (jK e (vs.set j.toNat u0) (xss.set j.toNat ys0))) (hg:aC M L (Sl r u ys))
  (hT:bV.tab P T=some ⟨.slice E,s1,s2,z⟩) (hE:bV.tab P E=some ⟨dE,s3,s4,z'⟩) (h3:e.sz=s3) (h4:Nat.ble s4 1024=true) (h0:0<=k∧k<xss.length) (hl:((at' xss k).length:Int)+ys.length<=1099511627) (hz:z'.cells.size=s3) (hne:j.toNat≠k.toNat):
  aJ P c n σ M L ⟨d,.call ⟨.builtin .append,#[x,y],#[T,T]⟩,ty,pos,aft,g⟩ (fun v':Value=>v') (fun v'=>M.set i (jK e ((vs.set j.toNat u0).set k.toNat v') ((xss.set j.toNat ys0).set k.toNat (at' xss k++ys)))) (fun _=>L):=by
 have ex:at' (xss.set j.toNat ys0) k=at' xss k:=HF _ _ hne
 have:=lK (P:=P) (c:=c) (n:=n) (σ:=σ) (M:=M) (L:=L) (d:=d) (ty:=ty) (pos:=pos) (aft:=aft) (g:=g) (x:=x) (y:=y) (u:=u) (k:=k) (vs:=vs.set j.toNat u0) (xss:=xss.set j.toNat ys0) (ys:=ys) i hfit (by rw[HF _ _ hne];exact hx) hy hf hg hT hE h3 h4 (by simpa using h0) (by rw[ex];exact hl) hz
 rwa[ex]at this
theorem zA (q:Nat) {vs:List Value} {xss:List (List α)} {k j:Int} {u u2:Value} (hr:M[q]? = some (jK e ((vs.set k.toNat u).set j.toNat u2) xss)) (hne:k.toNat≠j.toNat) (h:0<=k∧k<xss.length):∀c w,St c M L w->Go.Sx.one u=true:=fun c w t=>by
 obtain⟨S,hl,G',g1,_⟩:=t.res hr
 have hlt:k.toNat<vs.length:=by simp at hl;omega
 obtain⟨_,_,hh⟩:=g1 k.toNat u _ (by rw[List.getElem?_set_ne (Ne.symm hne),List.getElem?_set_self hlt]) (List.getElem?_eq_getElem (by omega))
 rcases hh with⟨hu,_⟩|⟨b,off,cap,T,cur,hu,_⟩<;>(rw[hu];rfl)
theorem Nm {A:Type} {val:A->Value} {M' L':A->List aS} {op:Op} (ho:aJ P c n σ M L ⟨none,op,ty,pos,aft,none⟩ val M' L') (h:∀x,J c n σ (M' x) (L' x) (wpList P ops Q rest)):
  J c n σ M L (wpList P ops Q (⟨none,op,ty,pos,aft,none⟩::rest)):=fun a w s t=>
 kG rfl (GA (l_ (fun a' w' ⟨x,he,ht⟩=>by subst he;exact h x _ w' s ht) (ho a w s t)))

end
end
section
section
variable {P:Program} {rd:Option Nat} {c:sI} {n:Sz} {σ σ':Fr} {M L M' L':List aS} {Q:Exit->Act->World->Prop} {ops:Array Oper} {rest:List Oper} {K:Act->World->Prop} {G:Act->World->Prop}
variable {d:Option Tmp} {D:Nat} {ty:TypeId} {pos:String} {aft:Array Edge} {g:Option (Nat×Bool)}
variable {α β:Type} {e:cZ α} {r:dV α}
theorem JU [bV P] (j:Nat) {T:TypeId} {s2:Nat} {z:Value} {dT:TypeDesc} {x y:Operand} {v u:Value} {i:Int} {xs:List α} (yv:α) (hx:ev σ x=some (Bm v (i.toNat*1))) (hy:ev σ y=some u) (hu:e.enc yv=[u]) (h1u:one u=true)
  (hf:M[j]? = some (Ar e v xs)) (hT:bV.tab P T=some ⟨dT,1,s2,z⟩) (hq:e.sz=1) (h0:0<=i) (h1:i<xs.length):
  aJ P c n σ M L ⟨none,.store T x y,ty,pos,aft,none⟩ (fun _:Unit=>undef) (fun _=>M.set j (Ar e v (xs.set i.toNat yv))) (fun _=>L):=fun a w s t=>by
 obtain⟨F,hF⟩:=t.res hf
 have hi:i.toNat<xs.length:=by omega
 have hget:xs[i.toNat]? = some xs[i.toNat]:=List.getElem?_eq_getElem hi
 have hne:xs≠[]:=by intro e;subst e;simp at hi
 obtain⟨p,hp⟩:∃p,e.enc xs[i.toNat]=[p]:=List.length_eq_one_iff.1 ((e.len _).trans hq)
 have hcell:=Ay.cell hF hget (j:=0) (u:=p) (by rw[hp];rfl)
 rw[hq,Nat.add_zero,Nat.mul_one]at hcell
 rw[Nat.mul_one]at hx
 have hfree:=JI hF hne i.toNat
 have hrun:(execOp a.eval ⟨none,.store T x y,ty,pos,aft,none⟩).run P w = .ok .skip (w.setCell (Hh v i.toNat) u):=by
  simp only[execOp,s.eval hx,s.eval hy,Bm]
  simp[zU (bV.ok hT) rfl h1u hcell hfree]
 simp only[Oper.wp,hrun,Oper.upon]
 refine⟨(),trivial,t.upd hf rfl rfl rfl (by simp[World.setCell]) fun F hF _=> ?_⟩
 obtain⟨hl,h1,hh⟩:=hF
 rcases hh with⟨_,hh⟩|⟨b,off,cap,T',cur,hv,hFb,hb,hk,hc,ht⟩
 ·exact absurd hh hne
 ·subst hv
  have ha:Hh (.slice (some ⟨b,off,none⟩) xs.length cap) i.toNat=⟨b,off+i.toNat,none⟩:=by simp[Hh,dJ]
  rw[ha]
  refine⟨fun k _ hk'=>Below.heap_setCell _ _ _ _ (fun e=>hk' (by simp only at e;subst e;exact hFb)),F,⟨by simpa using hl,?_,.inr ⟨b,off,cap,T',cur.setIfInBounds (off+i.toNat) u,by simp,hFb,?_,by simpa using hk,by simpa using hc,?_⟩⟩,fun _ h=> .inl h⟩
  ·rw[s_ hq hu,List.all_eq_true]
   intro q hq'
   rcases List.mem_or_eq_of_mem_set hq' with h'|h'
   ·exact List.all_eq_true.1 h1 q h'
   ·rw[h'];exact h1u
  ·simp[World.setCell,Array.getElem?_modify,hb]
  ·rw[s_ hq hu,<-ht,Array.toList_setIfInBounds,List.length_set,<-take_set]
   congr 1
   rw[List.drop_set,if_neg (by omega),Nat.add_sub_cancel_left]
theorem JS [bV P] (i:Nat) {T T':TypeId} {s2:Nat} {z:Value} {dT:TypeDesc} {x y:Operand} {b o:Nat} {cs:List Value} {v:Value} (hx:ev σ x=some (.pointer (some ⟨b,o,none⟩)))
  (hy:ev σ y=some v) (hv:one v=true) (hM:M[i]? = some (bM b cs T')) (hT:bV.tab P T=some ⟨dT,1,s2,z⟩) (ho:Nat.blt o cs.length=true):
  aJ P c n σ M L ⟨none,.store T x y,ty,pos,aft,none⟩ (fun _:Unit=>undef) (fun _=>M.set i (bM b (cs.set o v) T')) (fun _=>L):=fun a w s t=>by
 obtain⟨F,hF⟩:=t.res hM
 have hlt:o<cs.length:=by simpa [Nat.blt_eq]using ho
 have hrun:(execOp a.eval ⟨none,.store T x y,ty,pos,aft,none⟩).run P w = .ok .skip (w.setCell ⟨b,o,none⟩ v):=by
  simp[execOp,s.eval hx,s.eval hy,zU (bV.ok hT) rfl hv (bM.cell hF (List.getElem?_eq_getElem hlt)) (JJ hF o)]
 simp only[Oper.wp,hrun,Oper.upon]
 exact⟨(),trivial,t.store hM v⟩
theorem xU [bV P] (i:Nat) {T T':TypeId} {s2:Nat} {z:Value} {dT:TypeDesc} {x y:Operand} {b:Nat} {cs vs:List Value} (hx:ev σ x=some (.pointer (some ⟨b,0,none⟩)))
  (hy:ev σ y=some (.agg vs.toArray)) (hv:vs.all one=true) (hM:M[i]? = some (bM b cs T')) (hT:bV.tab P T=some ⟨dT,vs.length,s2,z⟩) (hl:Nat.beq vs.length cs.length=true):
  aJ P c n σ M L ⟨none,.store T x y,ty,pos,aft,none⟩ (fun _:Unit=>undef) (fun _=>M.set i (bM b vs T')) (fun _=>L):=fun a w s t=>by
 obtain⟨F,hF⟩:=t.res hM
 have hlen:vs.length=cs.length:=Nat.eq_of_beq_eq_true hl
 have hone:∀v∈vs,v.oneCell'=true:=fun v hvm=>mA (by simpa using List.all_eq_true.1 hv v hvm)
 obtain⟨iT,hiT,hsz,_,_⟩:=(bV.ok hT).info
 have hst:=run_storeVar_row (P:=P) w b T' T cs.toArray vs.toArray hF.2 (by simp[hiT,hsz]) (by simp[hlen]) (by simpa using hone)
 have hrun:(execOp a.eval ⟨none,.store T x y,ty,pos,aft,none⟩).run P w = .ok .skip (w.setRow b vs.toArray):=by
  simp[execOp,s.eval hx,s.eval hy,Instr.storeAt,Instr.sureAddr,hst]
 simp only[Oper.wp,hrun,Oper.upon]
 exact⟨(),trivial,t.fill hM⟩
theorem xV [bV P] (j q:Nat) {T:TypeId} {s2:Nat} {z:Value} {dT:TypeDesc} {x y:Operand} {v u:Value} {i:Int} {vs vs':List Value} {xss:List (List α)} (h:0<=i∧i<xss.length) (hx:ev σ x=some (Bm v (i.toNat*1))) (hy:ev σ y=some u)
  (hf:M[j]? = some (Ar cZ.raw v vs)) (hr:M[q]? = some (jK e vs' xss)) (hl:vs'.length=vs.length) (h1u:one u=true) (hT:bV.tab P T=some ⟨dT,1,s2,z⟩):
  aJ P c n σ M L ⟨none,.store T x y,ty,pos,aft,none⟩ (fun _:Unit=>undef) (fun _=>M.set j (Ar cZ.raw v (vs.set i.toNat u))) (fun _=>L):=fun a w s t=>by
 have hlen:vs'.length=xss.length:=by obtain⟨_,h⟩:=t.res hr;exact h.1
 exact JU j u hx hy rfl h1u hf hT rfl h.1 (by omega) a w s t
section
variable {l:List Oper} {m:List Nat} {k0:Nat} {H Bs:List (Nat×List aS×List aS)} {rs:List Nat}
theorem uU {A:Type} {val:A->Value} {M' L':A->List aS} {i:Nat} {op:Op}
  (hi:l[i]? = some ⟨none,op,ty,pos,aft,none⟩) (hk:Nat.blt i k0=true) (hl:dD op=true) (ho:aJ P c n σ M L ⟨none,op,ty,pos,aft,none⟩ val M' L')
  (hB:∀x,yG (before m i) (M' x) (L' x) Bs) (h:∀x,JR c n σ (M' x) (L' x) ((i,M,L)::H) Bs (RW P l.toArray Q (before m) (cG l) k0 rs)):
  JR c n σ M L H Bs (RW P l.toArray Q (before m) (cG l) k0 (i::rs)):=fun a w X Y s t hX hY=>by
 have hi':l.toArray[i]? = some ⟨none,op,ty,pos,aft,none⟩:=by simpa using hi
 simp only[RW,hi']
 rw[if_pos (by simp[Region.wanted])]
 refine .inr (.inr ⟨by simpa [Nat.blt_eq]using hk,by simp[cG,hi,hl],l_ ?_ (ho a w s t)⟩)
 rintro a' w' ⟨x,rfl,ht⟩
 exact⟨(hB x).use ht hY,h x _ w' _ Y s ht ⟨rfl,t,hX⟩ hY⟩
end

theorem HB {A B:Type} {f:FuncId} {fn:Func} {code:Code} {vs:List Value} {m:Nat} {op:Op} (C:A->Prop) (val:A->B->Value) (MI LI:A->B->List aS) (he:sL P c n σ M L ⟨d,op,ty,pos,aft,g⟩ f vs) (hf:P.funcs[f]? = some fn) (hb:fn.body=some code) (hn:fn.ntmps=m) (hm:Nat.ble vs.length m=true)
  (h1:J c ⟨m,[]⟩ (uE 0 vs) M L (code.wpr none P (fI P fn (TO c C val MI LI)))):
  aJ P c n σ M L ⟨d,op,ty,pos,aft,g⟩ (fun x:{p:A×B // C p.1}=>val x.1.1 x.1.2) (fun x=>MI x.1.1 x.1.2) (fun x=>LI x.1.1 x.1.2):=fun a w s t=>by
 have hrun:=he.run a w s t
 simp only[Oper.wp,hrun,Oper.upon]
 refine(qC hf hb (h1 _ w (Gk hn hm) t)).mono ?_
 rintro e w' ⟨x,y,hC,rfl,ht⟩
 exact⟨⟨(x,y),hC⟩,rfl,ht⟩
theorem xS {A B:Type} {f:FuncId} {fn:Func} {code:Code} {vs:List Value} {m:Nat} {op:Op} (C:A->Prop) (val:A->B->Value) (MI LI:A->B->List aS) (he:sL P c n σ M L ⟨some D,op,ty,pos,aft,none⟩ f vs) (hf:P.funcs[f]? = some fn) (hb:fn.body=some code) (hn:fn.ntmps=m) (hm:Nat.ble vs.length m=true) (hD:Nat.blt D n.sz=true)
  (h1:J c ⟨m,[]⟩ (uE 0 vs) M L (code.wpr none P (fI P fn (TO c C val MI LI)))) (h2:∀a b,C a->J c n ((D,val a b)::σ) (MI a b) (LI a b) (wpList P ops Q rest)):J c n σ M L (wpList P ops Q (⟨some D,op,ty,pos,aft,none⟩::rest)):=
 aF (HB C val MI LI he hf hb hn hm h1) hD fun⟨⟨a,b⟩,hC⟩=>h2 a b hC
section
variable {l:List Oper} {mm:List Nat} {k0:Nat} {H Bs:List (Nat×List aS×List aS)} {rs:List Nat}
theorem IC {A B:Type} {i:Nat} {f:FuncId} {fn:Func} {code:Code} {vs:List Value} {m:Nat} {op:Op} (C:A->Prop) (val:A->B->Value) (MI LI:A->B->List aS) (hi:l[i]? = some ⟨some D,op,ty,pos,aft,none⟩) (hk:Nat.blt i k0=true) (hl:dD op=true) (he:sL P c n σ M L ⟨some D,op,ty,pos,aft,none⟩ f vs) (hf:P.funcs[f]? = some fn) (hb:fn.body=some code) (hn:fn.ntmps=m) (hm:Nat.ble vs.length m=true) (hD:Nat.blt D n.sz=true)
  (hB:∀a b,yG (before mm i) (MI a b) (LI a b) Bs) (h1:J c ⟨m,[]⟩ (uE 0 vs) M L (code.wpr none P (fI P fn (TO c C val MI LI)))) (h2:∀a b,C a->JR c n ((D,val a b)::σ) (MI a b) (LI a b) ((i,M,L)::H) Bs (RW P l.toArray Q (before mm) (cG l) k0 rs)):
  JR c n σ M L H Bs (RW P l.toArray Q (before mm) (cG l) k0 (i::rs)):=
 JR.loud hi hk hl (HB C val MI LI he hf hb hn hm h1) hD (fun _=>hB _ _) fun⟨⟨a,b⟩,hC⟩=>h2 a b hC
end

theorem Bh [bV P] {T E:TypeId} {k s1 s2 s3 s4:Nat} {z z':Value} {dE:TypeDesc} {x y:Operand} {v:Value} {o:Nat} {i:Int} (hx:ev σ x=some (Bm v o)) (hy:ev σ y=some (.int .i64 i))
  (hT:bV.tab P T=some ⟨.array k E,s1,s2,z⟩) (hE:bV.tab P E=some ⟨dE,s3,s4,z'⟩) (_h3:(s3==0)=false) (h:0<=i∧i<(k:Int)):
  Y P c n σ M L ⟨d,.indexAddr T x y,ty,pos,aft,g⟩ (Bm v (o+i.toNat*s3)):=fun a w s t=>by
 simp[execOp,s.eval hx,s.eval hy,Instr.indexAt,asIntOf,(bV.ok hT).run_und w,h,Instr.sureAddr,Bm,(bV.ok hE).run_size w,Ff]
theorem bN {x:Operand} {b o:Nat} (hx:ev σ x=some (.pointer (some ⟨b,o,none⟩))):Y P c n σ M L ⟨d,.nilCheck x,ty,pos,aft,g⟩ (.pointer (some ⟨b,o,none⟩)):=fun a w s t=>by
 simp[execOp,s.eval hx]

theorem JV [bV P] [Inhabited α] (j:Nat) {T:TypeId} {s2 k o q:Nat} {z:Value} {dT:TypeDesc} {x y:Operand} {v u:Value} {us:List Value} {i:Int} {xs:List α} (yv:α) (h:0<=i∧i<xs.length) (hx:ev σ x=some (Bm v (i.toNat*q+o))) (hy:ev σ y=some u)
  (hf:M[j]? = some (Ar e v xs)) (hq:e.sz=q) (hu:u.cells=us.toArray) (hk:us.length=k) (ho:Nat.ble (o+k) q=true) (hyv:e.enc yv=(e.enc (at' xs i)).take o++us++(e.enc (at' xs i)).drop (o+k)) (h1u:us.all one=true) (hT:bV.tab P T=some ⟨dT,k,s2,z⟩):
  aJ P c n σ M L ⟨none,.store T x y,ty,pos,aft,none⟩ (fun _:Unit=>undef) (fun _=>M.set j (Ar e v (xs.set i.toNat yv))) (fun _=>L):=fun a w s t=>by
 subst hq hk
 have hok:o+us.length<=e.sz:=by simpa using ho
 have hi:i.toNat<xs.length:=by omega
 have t0:=t
 obtain⟨hoo,FF,hO,hLL⟩:=t0
 obtain⟨h0,hone,hh⟩:=hO.res j _ hf
 rcases hh with⟨_,rfl⟩|⟨b,off,cap,T',cur,rfl,hFb,hbk,hcp,hc,ht⟩
 ·simp at hi
 -- the parts of the row
 obtain⟨l,x0,tl,hxs,hl⟩:∃l x0 tl,xs=l++x0::tl∧l.length=i.toNat:=⟨xs.take i.toNat,xs[i.toNat],xs.drop (i.toNat+1),by rw[List.getElem_cons_drop,List.take_append_drop],by simp;omega⟩
 have hat:at' xs i=x0:=by
  rw[at',List.getD_eq_getElem?_getD,<-hl,hxs,List.getElem?_append_right (Nat.le_refl _)];simp
 rw[hat]at hyv
 have eE:=e.len x0
 have eA:(cellsOf e l).length=i.toNat*e.sz:=by rw[cW,hl]
 have hcells:cellsOf e xs=cellsOf e l++(e.enc x0++cellsOf e tl):=by rw[hxs];simp[cellsOf]
 have hset:cellsOf e (xs.set i.toNat yv)=cellsOf e l++(e.enc yv++cellsOf e tl):=by
  have:xs.set i.toNat yv=l++yv::tl:=by rw[hxs,<-hl,List.set_append_right _ _ (Nat.le_refl _)];simp
  rw[this];simp[cellsOf]
 have hmul:xs.length*e.sz<=cap*e.sz:=Nat.mul_le_mul_right _ hcp
 obtain⟨Hd,R,hcur,hH⟩:∃Hd R,cur.toList=Hd++(cellsOf e l++(e.enc x0++(cellsOf e tl++R)))∧Hd.length=off:=by
  refine⟨cur.toList.take off,(cur.toList.drop off).drop (xs.length*e.sz),?_,by simp;omega⟩
  have e1:cellsOf e l++(e.enc x0++(cellsOf e tl++(cur.toList.drop off).drop (xs.length*e.sz)))=cur.toList.drop off:=by
   have:cellsOf e l++(e.enc x0++(cellsOf e tl++(cur.toList.drop off).drop (xs.length*e.sz)))=cellsOf e xs++(cur.toList.drop off).drop (xs.length*e.sz):=by rw[hcells];simp
   rw[this,<-ht,List.take_append_drop]
  rw[e1,List.take_append_drop]
 have hsize:cur.size=cur.toList.length:=by simp
 have hp1:cur.toList.take (off+(i.toNat*e.sz+o))=Hd++(cellsOf e l++(e.enc x0).take o):=by
  have:cur.toList=(Hd++(cellsOf e l++(e.enc x0).take o))++((e.enc x0).drop o++(cellsOf e tl++R)):=by
   rw[hcur,List.append_assoc,List.append_assoc,<-List.append_assoc ((e.enc x0).take o),List.take_append_drop]
  rw[this]
  exact List.take_left' (by simp[hH,eA,eE];omega)
 have hp2:cur.toList.drop (off+(i.toNat*e.sz+o)+us.length)=(e.enc x0).drop (o+us.length)++(cellsOf e tl++R):=by
  have:cur.toList=(Hd++(cellsOf e l++(e.enc x0).take (o+us.length)))++((e.enc x0).drop (o+us.length)++(cellsOf e tl++R)):=by
   rw[hcur,List.append_assoc,List.append_assoc,<-List.append_assoc ((e.enc x0).take (o+us.length)),List.take_append_drop]
  rw[this]
  exact List.drop_left' (by simp[hH,eA,eE];omega)
 have hbound:(i.toNat+1)*e.sz<=xs.length*e.sz:=Nat.mul_le_mul_right _ (by omega)
 have hb2:(i.toNat+1)*e.sz=i.toNat*e.sz+e.sz:=by rw[Nat.add_mul,Nat.one_mul]
 have hfit:off+(i.toNat*e.sz+o)+0+us.length<=cur.size:=by omega
 have hst:=run_storeCells_at P b (off+(i.toNat*e.sz+o)) T' us 0 cur w hbk hfit (fun u hu=>mA (List.all_eq_true.1 h1u u hu))
 simp only[Nat.add_zero]at hst
 have hsz:(bV.ok hT).run_size w=(bV.ok hT).run_size w:=rfl
 have hrun:(execOp a.eval ⟨none,.store T x y,ty,pos,aft,none⟩).run P w = .ok .skip (w.setRow b (cur.toList.take (off+(i.toNat*e.sz+o))++us++cur.toList.drop (off+(i.toNat*e.sz+o)+us.length)).toArray):=by
  simp[execOp,s.eval hx,s.eval hy,Bm,Hh,Instr.storeAt,Instr.sureAddr,storeVar,hu,(bV.ok hT).run_size w,dJ,hst]
 simp only[Oper.wp,hrun,Oper.upon]
 refine⟨(),trivial,?_⟩
 refine E_ hoo hO hLL hf rfl rfl rfl (by simp) (fun k _ hk'=>setRow_other w b k _ (fun e=>hk' (by subst e;exact hFb))) (F':=FF j) ?_ (fun k hk=> .inl hk)
 have hlen2:(e.enc yv).length=e.sz:=e.len yv
 refine⟨by simpa using h0,?_,.inr ⟨b,off,cap,T',_,by simp,hFb,setRow_heap w b _ _ T' _ hbk,by simpa using hcp,?_,?_⟩⟩
 ·rw[hset]
  rw[hcells]at hone
  simp only[List.all_append,Bool.and_eq_true]at hone ⊢
  refine⟨hone.1,?_,hone.2.2⟩
  rw[hyv]
  simp only[List.all_append,Bool.and_eq_true]
  refine⟨⟨List.all_eq_true.2 fun u hu=>List.all_eq_true.1 hone.2.1 u (List.mem_of_mem_take hu),h1u⟩,List.all_eq_true.2 fun u hu=>List.all_eq_true.1 hone.2.1 u (List.mem_of_mem_drop hu)⟩
 ·simp only[List.size_toArray,List.length_append,List.length_take,List.length_drop]
  omega
 ·show((cur.toList.take _++us++cur.toList.drop _).drop off).take ((xs.set i.toNat yv).length*e.sz)=_
  rw[hp1,hp2,hset,hyv,List.length_set]
  have e3:(Hd++(cellsOf e l++(e.enc x0).take o)++us++((e.enc x0).drop (o+us.length)++(cellsOf e tl++R)))=Hd++((cellsOf e l++(((e.enc x0).take o++us++(e.enc x0).drop (o+us.length))++cellsOf e tl))++R):=by simp
  rw[e3,<-hH,List.drop_left]
  refine List.take_left' ?_
  have hT2:(cellsOf e tl).length=tl.length*e.sz:=cW e tl
  have hxl:xs.length=i.toNat+1+tl.length:=by rw[hxs,<-hl];simp;omega
  rw[hyv]at hlen2
  rw[List.length_append,List.length_append,hlen2,eA,hT2,hxl,Nat.add_mul,Nat.add_mul,Nat.one_mul]
  omega
end
end
section
def YL (D:Nat):aS where
 p w F:=F D∧w.heap[D]? = some (.deferred (some []))
 mono:=fun⟨h1,h2⟩ h=>by
  obtain⟨h3,h4⟩:=h D h1 (Array.getElem?_eq_some_iff.1 h2).1
  exact⟨h3,by rw[h4];exact h2⟩
structure QB where
 n:Nat
 σ:Fr
 ps:Array Tmp
 assign:Code
 body:Code
 D:Nat
def Lp (l:Nat) (R:QB) (st:LoopState) (pend:Option Code):aS where
 p w F:=F l∧∃(fn:FuncId) (tmps:Array Value),tmps.size=R.n∧(∀t v,lk R.σ t=some v->tmps[t]? = some v)∧
  w.heap[l]? = some (.loop {state:=st,pending:=pend,fn:=fn,tmps:=tmps,params:=R.ps,assign:=R.assign,body:=R.body,defers:=R.D})
 mono:=fun⟨h1,fn,tmps,h2,h3,h4⟩ h=>by
  obtain⟨h5,h6⟩:=h l h1 (Array.getElem?_eq_some_iff.1 h4).1
  exact⟨h5,fn,tmps,h2,h3,by rw[h6];exact h4⟩
def Sj (D:Nat):Deferred:={target:= .collected D,args:= #[]}
def mG (l:Nat):Value:= .func (.yield l) #[] #[]
section
variable {P:Program} {rd:Option Nat} {c:sI} {n m:Sz} {σ σ':Fr} {M L:List aS} {Q:Exit->Act->World->Prop} {K G:Act->World->Prop}
theorem St.putLp {w:World} {l i:Nat} {R:QB} {st st':LoopState} {pend pend':Option Code} (t:St c M L w) (hi:M[i]? = some (Lp l R st pend)) {r:Loop} (hr:w.heap[l]? = some (.loop r)):
  St c (M.set i (Lp l R st' pend')) L (w.putObj l (.loop {r with state:=st',pending:=pend'})):=by
 refine t.upd hi rfl rfl rfl (by simp) fun F hF _=>⟨fun k _ hk=> ?_,F,?_,fun _ h=> .inl h⟩
 ·exact World.putObj_heap_other (fun e=>hk (by subst e;exact hF.1))
 ·obtain⟨h1,fn,tmps,h2,h3,h4⟩:=hF
  rw[h4]at hr
  cases hr
  exact⟨h1,fn,tmps,h2,h3,World.putObj_heap_same (Array.getElem?_eq_some_iff.1 h4).1⟩
def QC (P:Program) (n:Sz) (σ:Fr) (l D:Nat) (Q:Exit->Act->World->Prop) (e:Ending) (w:World):Prop:=
 ∀a,BD ⟨n.sz,Sj D::n.ds⟩ σ a->rangePost (FR none) 0 P l Q a e w
theorem JN {g:Operand} {ps:Array Tmp} {assign body:Code} {f:FuncId} {fn:Func} {code:Code} {cs:List Value} {k:Nat} (hb:aO P f) (hx:ev σ g=some (.func (.func f) #[] cs.toArray)) (hf:P.funcs[f]? = some fn) (hbd:fn.body=some code) (hn:fn.ntmps=k) (hm:Nat.ble (cs.length+1) k=true)
  (h:∀l D,J c ⟨k,[]⟩ (uE 0 (mG l::cs)) (Lp l ⟨n.sz,σ,ps,assign,body,D⟩ .ready none::YL D::M) L (code.wpr none P (fI P fn (QC P n σ l D Q)))):
  J c n σ M L ((Code.rangeFunc g ps assign body).wpr none P Q):=fun a w s t=>by
 refine wpIn_rangeFunc fun fn' _=> ?_
 have hev:a.eval g = .func (.func f) #[] cs.toArray:=s.eval hx
 let W:World:=(w.alloc (.deferred (some []))).alloc (.loop {state:= .ready,pending:=none,fn:=fn',tmps:=a.tmps,params:=ps,assign:=assign,body:=body,defers:=w.heap.size})
 refine⟨_,_,_,{target:= .fn (.func f) cs.toArray,args:= #[mG (w.heap.size+1)]},W,f,(mG (w.heap.size+1)::cs).toArray,W,run_enterLoop_outer fn' a.tmps ps assign body,?_,fun _ _=>trivial,?_,(fun hc=>by cases hc),?_⟩
 ·have hc:∀v,a.eval (.const v)=v:=fun _=>rfl
  simp[resolve,hev,hc,Deferred.ofValue,mG,W]
 ·simp[invoke,hb _ _,mG]
 ·have t1:St c (YL w.heap.size::M) L (w.alloc (.deferred (some []))):=t.push _ ⟨rfl,heap_alloc_new w _⟩
  have t2:St c (Lp (w.heap.size+1) ⟨n.sz,σ,ps,assign,body,w.heap.size⟩ .ready none::YL w.heap.size::M) L ((w.alloc (.deferred (some []))).alloc (.loop {state:= .ready,pending:=none,fn:=fn',tmps:=a.tmps,params:=ps,assign:=assign,body:=body,defers:=w.heap.size})):=by
   have:=t1.push (.loop {state:= .ready,pending:=none,fn:=fn',tmps:=a.tmps,params:=ps,assign:=assign,body:=body,defers:=w.heap.size}) (m:=Lp (w.heap.size+1) ⟨n.sz,σ,ps,assign,body,w.heap.size⟩ .ready none)
    ⟨by simp,fn',a.tmps,s.size,s.slot,by rw[<-World.size_alloc w (.deferred (some []))];exact heap_alloc_new _ _⟩
   exact this
  refine ND ((qC hf hbd (h (w.heap.size+1) w.heap.size _ _ (Gk hn (by simpa using hm)) t2)).mono ?_)
  intro e w' he
  exact he _ ⟨by simp[Sj,s.defers],s.size,s.slot⟩
theorem IB {fn:Func} {ex:Exit} {v:Value} {l D i:Nat} {R:QB} (hex:ex = .ret∨ex = .normal) (hi:M[i]? = some (Lp l R .ready none)) (hr:CK P c m σ' M L fn v) (h:J c ⟨n.sz,Sj D::n.ds⟩ σ (M.set i (Lp l R .exhausted none)) L (Q .normal)) (hds:m.ds=[]:=by rfl):
  J c m σ' M L (fI P fn (QC P n σ l D Q) ex):=fun a w s t=>by
 refine body_end hex (s.defers.trans hds) (hr a w s t) fun a' s'=> ?_
 obtain⟨F,h1,fn',tmps,h2,h3,h4⟩:=t.res hi
 exact⟨none,_,run_endLoop h4 (by simp),h a' _ s' (t.putLp hi h4)⟩
theorem Nn {fn:Func} {ex:Exit} {v:Value} {l D i:Nat} {R:QB} (hex:ex = .ret∨ex = .normal) (hi:M[i]? = some (Lp l R .done (some .ret))) (hr:CK P c m σ' M L fn v) (h:J c ⟨n.sz,Sj D::n.ds⟩ σ (M.set i (Lp l R .exhausted (some .ret))) L (Q .ret)) (hds:m.ds=[]:=by rfl):
  J c m σ' M L (fI P fn (QC P n σ l D Q) ex):=fun a w s t=>by
 refine body_end hex (s.defers.trans hds) (hr a w s t) fun a' s'=> ?_
 obtain⟨F,h1,fn',tmps,h2,h3,h4⟩:=t.res hi
 exact⟨some .ret,_,run_endLoop h4 (by simp),wpIn_ret (h a' _ s' (t.putLp hi h4))⟩
def Qh (P:Program) (l:Nat) (G:Act->World->Prop) (a:Act) (w:World):Prop:=∃w',(Instr.beginRound l).run P w = .ok () w'∧G a w'
theorem EY {l i:Nat} {R:QB} {pend:Option Code} (hi:M[i]? = some (Lp l R .ready pend)) (h:J c n σ (M.set i (Lp l R .busy pend)) L G):J c n σ M L (Qh P l G):=fun a w s t=>by
 obtain⟨F,h1,fn',tmps,h2,h3,h4⟩:=t.res hi
 exact⟨_,run_beginRound h4 rfl,h a _ s (t.putLp hi h4)⟩
def QD (n:Sz) (σ:Fr) (d:Nat) (K:Act->World->Prop) (e:Ending) (w:World):Prop:=∃v,e = .returned v∧∀a,BD n ((d,v)::σ) a->K a w
theorem yH {l i d:Nat} {R:QB} {pend:Option Code} (hi:M[i]? = some (Lp l R .busy pend)) (h:J c m ((d,.bool true)::σ') (M.set i (Lp l R .ready none)) L K):J c n σ M L (roundPost P l (QD m σ' d K) .normal):=fun a w s t=>by
 obtain⟨F,h1,fn',tmps,h2,h3,h4⟩:=t.res hi
 exact⟨_,_,run_endRound none h4,_,rfl,fun a' s'=>h a' _ s' (t.putLp hi h4)⟩
theorem JO {l i d:Nat} {R:QB} {pend:Option Code} (hi:M[i]? = some (Lp l R .busy pend)) (h:J c m ((d,.bool false)::σ') (M.set i (Lp l R .done (some .ret))) L K):J c n σ M L (roundPost P l (QD m σ' d K) .ret):=fun a w s t=>by
 obtain⟨F,h1,fn',tmps,h2,h3,h4⟩:=t.res hi
 exact⟨_,_,run_endRound (some .ret) h4,_,rfl,fun a' s'=>h a' _ s' (t.putLp hi h4)⟩
def Cm:List Tmp->List Value->Fr->Fr
 |t::ts,v::vs,σ=>Cm ts vs ((t,v)::σ)
 |_,_,σ=>σ
theorem Gj:∀(ps:List Tmp) (vs:List Value) (tmps:Array Value) (σ:Fr) (k:Nat),tmps.size=k->ps.all (fun t=>Nat.blt t k)=true->(∀t v,lk σ t=some v->tmps[t]? = some v)->
  ((ps.zip vs).foldl (fun tmps (x:Tmp×Value)=>tmps.setIfInBounds x.1 x.2) tmps).size=k∧∀t v,lk (Cm ps vs σ) t=some v->((ps.zip vs).foldl (fun tmps (x:Tmp×Value)=>tmps.setIfInBounds x.1 x.2) tmps)[t]? = some v
 | [],_,tmps,σ,k,h1,_,h3=>by simpa [Cm]using ⟨h1,h3⟩
 |_::_,[],tmps,σ,k,h1,_,h3=>by simpa [Cm]using ⟨h1,h3⟩
 | p :: ps, x :: vs, tmps, σ, k, h1, h2, h3 => by
  simp only[List.all_cons,Bool.and_eq_true]at h2
  have hp:p<k:=by simpa [Nat.blt_eq]using h2.1
  simp only[List.zip_cons_cons,List.foldl_cons,Cm]
  refine Gj ps vs _ _ k (by simp[h1]) h2.2 fun t v hv=> ?_
  simp only[lk]at hv
  by_cases e:t=p
  ·subst e
   simp at hv
   subst hv
   simp[h1,hp]
  ·rw[kN e]at hv
   simp only[cond_false]at hv
   rw[Array.getElem?_setIfInBounds_ne (Ne.symm e)]
   exact h3 t v hv
theorem TN {ops:Array Oper} {rest:List Oper} {t:Tmp} {xs:List Operand} {us:List Value} {ats:Array TypeId} {d:Nat} {ty:TypeId} {pos:String} {aft:Array Edge} {l i:Nat} {R:QB} {ps:List Tmp} (ht:lk σ t=some (mG l)) (hx:xs.map (ev σ)=us.map some) (hi:M[i]? = some (Lp l R .ready none)) (hps:R.ps=ps.toArray) (hlen:us.length=ps.length) (hall:ps.all (fun t=>Nat.blt t R.n)=true) (hd:Nat.blt d n.sz=true)
  (h:J c ⟨R.n,[]⟩ (Cm ps us R.σ) M L (R.assign.wpr (some l) P (Exit.then (Qh P l (R.body.wpr (some l) P (roundPost P l (QD n σ d (wpList P ops Q rest))))) (fun _ _ _=>False)))):
  J c n σ M L (wpList P ops Q (⟨some d,.call ⟨.value (.tmp t),xs.toArray,ats⟩,ty,pos,aft,none⟩::rest)):=fun a w s tt=>by
 obtain⟨F,h1,fn',tmps,h2,h3,h4⟩:=tt.res hi
 have e:=Xy s hx
 have e2:a.eval (.tmp t)=mG l:=s.eval (x:= .tmp t) ht
 have hy:=run_yield (P:=P) (args:=us.toArray) h4 (by simp[hps,hlen])
 have hrun:(execOp a.eval ⟨some d,.call ⟨.value (.tmp t),xs.toArray,ats⟩,ty,pos,aft,none⟩).run P w=(Instr.yield l us.toArray).run P w:=by
  simp[execOp,resolve,e2,mG,Deferred.ofValue,invoke,e]
 unfold wpList
 rw[if_pos (show Region.wanted _ _=true from rfl)]
 refine .inr ⟨_,_,_,_,_,_,hrun.trans hy,?_⟩
 refine RoundIn.mono (R:=QD n σ d (wpList P ops Q rest)) (roundIn_of_wpIn (F:=FR none) trivial ?_) ?_
 ·obtain⟨f1,f2⟩:=Gj ps us tmps R.σ R.n h2 hall h3
  have:=h {tmps:=(ps.zip us).foldl (fun tmps (x:Tmp×Value)=>tmps.setIfInBounds x.1 x.2) tmps,defers:=[]} w ⟨rfl,f1,f2⟩ tt
  simp only[hps,List.zip_toArray,List.foldl_toArray]
  exact this
 ·rintro e w'' ⟨v,rfl,hv⟩
  exact⟨v,rfl,hv _ (s.put d v hd)⟩
theorem IA {g:Operand} {ps:Array Tmp} {assign body:Code} {f:FuncId} {fn:Func} {code:Code} {cs:List Value} {k:Nat} (hb:aO P f) (hx:ev σ g=some (.func (.func f) #[] cs.toArray)) (hf:P.funcs[f]? = some fn) (hbd:fn.body=some code) (hn:fn.ntmps=k) (hm:Nat.ble (cs.length+1) k=true)
  (h:∀(l D:Nat) (R:QB),R.n=n.sz∧R.σ=σ∧R.ps=ps∧R.assign=assign∧R.body=body->J c ⟨k,[]⟩ (uE 0 (mG l::cs)) (Lp l R .ready none::YL D::M) L (code.wpr none P (fI P fn (QC P n σ l D Q)))):
  J c n σ M L ((Code.rangeFunc g ps assign body).wpr none P Q):=JN hb hx hf hbd hn hm fun l D=>h l D _ ⟨rfl,rfl,rfl,rfl,rfl⟩
theorem CG {ops:Array Oper} {rest:List Oper} {t:Tmp} {xs:List Operand} {us:List Value} {ats:Array TypeId} {d:Nat} {ty:TypeId} {pos:String} {aft:Array Edge} {l i k:Nat} {R:QB} {ps:List Tmp} {σR:Fr} {assign body:Code} (hR:R.n=k∧R.σ=σR∧R.ps=ps.toArray∧R.assign=assign∧R.body=body) (ht:lk σ t=some (mG l)) (hx:xs.map (ev σ)=us.map some) (hi:M[i]? = some (Lp l R .ready none)) (hlen:us.length=ps.length) (hall:ps.all (fun t=>Nat.blt t k)=true) (hd:Nat.blt d n.sz=true)
  (h:J c ⟨k,[]⟩ (Cm ps us σR) M L (assign.wpr (some l) P (Exit.then (Qh P l (body.wpr (some l) P (roundPost P l (QD n σ d (wpList P ops Q rest))))) (fun _ _ _=>False)))):
  J c n σ M L (wpList P ops Q (⟨some d,.call ⟨.value (.tmp t),xs.toArray,ats⟩,ty,pos,aft,none⟩::rest)):=by
 obtain⟨rfl,rfl,h3,rfl,rfl⟩:=hR
 exact TN ht hx hi h3 hlen hall hd h
end
end
section
def vV (Ds:List Nat):List Deferred:=Ds.map Sj
def Ae (Ds:List Nat):aS where
 p w F:=Ds.Nodup∧∀D∈Ds,F D∧w.heap[D]? = some (.deferred (some []))
 mono:=fun⟨h1,h2⟩ h=>⟨h1,fun D hD=>by
  obtain⟨h3,h4⟩:=h D (h2 D hD).1 (Array.getElem?_eq_some_iff.1 (h2 D hD).2).1
  exact⟨h3,by rw[h4];exact(h2 D hD).2⟩⟩
section
variable {P:Program} {rd:Option Nat} {c:sI} {n m:Sz} {σ σ':Fr} {M L:List aS} {Q:Exit->Act->World->Prop} {K G:Act->World->Prop}
theorem CM:qR M L (Ae []::M) L:=qR.add fun _=>⟨List.nodup_nil,by simp⟩
theorem Kg (i j:Nat) {D:Nat} {Ds:List Nat} (hij:i≠j) (hf:M[i]? = some (Ae Ds)) (hg:M[j]? = some (YL D)):qR M L ((M.set i (Ae (D::Ds))).eraseIdx j) L:=fun c w t=>
 t.merge i j hij hf hg (by
  rintro w F1 F2 ⟨h1,h2⟩ ⟨h3,h4⟩ hd
  refine⟨List.nodup_cons.2 ⟨fun hm=>hd D (h2 D hm).1 h3,h1⟩,fun E hE=> ?_⟩
  rcases List.mem_cons.1 hE with rfl|hE
  ·exact⟨.inr h3,h4⟩
  ·exact⟨.inl (h2 E hE).1,(h2 E hE).2⟩)
theorem vX {g:Operand} {ps:Array Tmp} {assign body:Code} {f:FuncId} {fn:Func} {code:Code} {cs:List Value} {k i s:Nat} (Ds:List Nat) (hi:M[i]? = some (Ae Ds)) (hb:aO P f) (hx:ev σ g=some (.func (.func f) #[] cs.toArray)) (hf:P.funcs[f]? = some fn) (hbd:fn.body=some code) (hn:fn.ntmps=k) (hm:Nat.ble (cs.length+1) k=true)
  (h:∀(l D:Nat) (R:QB),R.n=s∧R.σ=σ∧R.ps=ps∧R.assign=assign∧R.body=body->J c ⟨k,[]⟩ (uE 0 (mG l::cs)) (Lp l R .ready none::M.set i (Ae (D::Ds))) L (code.wpr none P (fI P fn (QC P ⟨s,vV Ds⟩ σ l D Q)))):
  J c ⟨s,vV Ds⟩ σ M L ((Code.rangeFunc g ps assign body).wpr none P Q):=IA hb hx hf hbd hn hm fun l D R hR=>
 jN (Kg (i+2) 1 (by omega) hi rfl) (h l D R hR)
theorem gY {fn:Func} {R:Ending->World->Prop} {ex:Exit} {i k:Nat} (hex:ex = .ret∨ex = .normal):∀{Ds:List Nat} {M:List aS},M[i]? = some (Ae Ds)->J c ⟨k,[]⟩ σ (M.set i (Ae [])) L (fI P fn R ex)->J c ⟨k,vV Ds⟩ σ M L (fI P fn R ex)
 | [], M, hi, h => by
  have:M.set i (Ae [])=M:=by
   apply List.ext_getElem?
   intro j
   by_cases e:i=j
   ·subst e
    rw[hi]
    simp[(List.getElem?_eq_some_iff.1 hi).1]
   ·simp[List.getElem?_set_ne e]
  rw[this]at h
  exact h
 | D :: Ds, M, hi, h => fun a w s t => by
  obtain⟨F,h1,h2⟩:=t.res hi
  have t':St c (M.set i (Ae Ds)) L (w.putObj D (.deferred none)):=by
   refine t.upd hi rfl rfl rfl (by simp) fun F hF _=>⟨fun k _ hk=> ?_,F,?_,fun _ h=> .inl h⟩
   ·exact World.putObj_heap_other (fun e=>hk (e▸(hF.2 D (by simp)).1))
   ·obtain⟨hn,hF⟩:=hF
    refine⟨(List.nodup_cons.1 hn).2,fun E hE=>⟨(hF E (by simp[hE])).1,?_⟩⟩
    rw[World.putObj_heap_other (fun e=>(List.nodup_cons.1 hn).1 (by subst e;exact hE))]
    exact(hF E (by simp[hE])).2
  refine O_ hex s.defers (h2 D (by simp)).2 ?_
  have hi':(M.set i (Ae Ds))[i]? = some (Ae Ds):=by simp[(List.getElem?_eq_some_iff.1 hi).1]
  have:=gY hex hi' (by rw[List.set_set];exact h) {tmps:=a.tmps,defers:=vV Ds} _ ⟨rfl,s.size,s.slot⟩ t'
  rcases hex with rfl|rfl<;>exact this
def YP {A B:Type} (c:sI) (nI:A->B->Sz) (C:A->Prop) (σI:A->B->Fr) (MI LI:A->B->List aS) (a:Act) (w:World):Prop:=∃x y,C x∧BD (nI x y) (σI x y) a∧St c (MI x y) (LI x y) w
theorem xT {A B:Type} {x:Code} (nI:A->B->Sz) (C:A->Prop) (σI:A->B->Fr) (MI LI:A->B->List aS) (h1:J c n σ M L (x.wpr rd P (Exit.then (YP c nI C σI MI LI) Q))) (h2:∀a b,C a->J c (nI a b) (σI a b) (MI a b) (LI a b) K):
  J c n σ M L (x.wpr rd P (Exit.then K Q)):=fun a w s t=>DC (fun e a' w' q=>by
 cases e with
 |normal=>obtain⟨z,y,hC,hs,ht⟩:=q;exact h2 z y hC a' w' hs ht
 |exit id=>exact q
 |goto l=>exact q
 |ret=>exact q
 |panic ch=>exact q
 |outgrown=>exact q) (h1 a w s t)
theorem nS {A B:Type} {nI:A->B->Sz} {C:A->Prop} {σI:A->B->Fr} {MI LI:A->B->List aS} (x:A) (y:B) (hn:n=nI x y) (hC:C x) (hs:tQ σ (σI x y)) (hM:aQ M (MI x y)) (hL:aD [] L (LI x y)):J c n σ M L (YP c nI C σI MI LI):=
 fun _ _ s t=>⟨x,y,hC,hn▸s.weak hs,t.weakE hM hL⟩
def YO {A B R:Type} (c:sI) (nI:A->B->Sz) (step:A->(A->Option R)->Option R) (r:R) (σI:A->B->Fr) (MI LI:A->B->List aS) (k:Nat) (a:Act) (w:World):Prop:=
 ∃x y,bE step k x=some r∧BD (nI x y) (σI x y) a∧St c (MI x y) (LI x y) w
theorem Nl {A B R:Type} {body:Code} (nI:A->B->Sz) (step:A->(A->Option R)->Option R) {r:R} {fuel:Nat} (σI:A->B->Fr) (MI LI:A->B->List aS) (a0:A) (b0:B) (hn0:n=nI a0 b0) (h:bE step fuel a0=some r)
  (hs:tQ σ (σI a0 b0)) (hM:aQ M (MI a0 b0)) (hL:aD [] L (LI a0 b0))
  (round:∀k a b,step a (bE step k)=some r->J c (nI a b) (σI a b) (MI a b) (LI a b) (body.wpr rd P (Exit.then (YO c nI step r σI MI LI k) Q))):J c n σ M L ((Code.loop body).wpr rd P Q):=by
 subst hn0
 intro a w s t b k cs hro hb hr
 have key:∀m x y a w,bE step m x=some r->BD (nI x y) (σI x y) a->St c (MI x y) (LI x y) w->
   ∃e a' w',Q e a' w'∧ArrivesIn (Machine.fenced P (FR rd)) P (lone (b.atR a (.code body :: .inLoop body::k)) cs w) b k cs e a' w':=by
  intro m
  induction m with
  |zero=>intro x y a w hC;cases hC
  | succ m ih =>
   intro x y a w hC hs ht
   obtain⟨e,a₁,w₁,hq,harr⟩:=round m x y hC a w hs ht b (.inLoop body::k) cs hro hb hr
   cases e with
   |normal=>
    obtain⟨x',y',hCy,hsy,hty⟩:=hq
    obtain⟨e₂,a₂,w₂,hq₂,harr₂⟩:=ih x' y' a₁ w₁ hCy hsy hty
    exact⟨e₂,a₂,w₂,hq₂,.of_steps (StepsIn.trans harr (.one (fenced_calm hb hr rfl) stepR_inLoop)) harr₂⟩
   |exit id=>exact⟨_,a₁,w₁,hq,.pass (x:= .inLoop body) rfl (fun _ _=> .inl (by simp)) harr⟩
   |goto l=>exact⟨_,a₁,w₁,hq,.pass (x:= .inLoop body) rfl (fun _ _=> .inl (by simp)) harr⟩
   |ret=>exact⟨_,a₁,w₁,hq,.pass (x:= .inLoop body) rfl (fun _ _=> .inl (by simp)) harr⟩
   |panic ch=>exact⟨_,a₁,w₁,hq,.pass (x:= .inLoop body) rfl (fun _ _=> .inl (by simp)) harr⟩
   |outgrown=>exact⟨_,a₁,w₁,hq,.pass (x:= .inLoop body) rfl (fun _ _=> .inl (by simp)) harr⟩
 obtain⟨e,a',w',hq,harr⟩:=key fuel a0 b0 a w h (s.weak hs) (t.weakE hM hL)
 exact⟨e,a',w',hq,.of_steps (.one (fenced_calm hb hr rfl) stepR_loop) harr⟩
theorem JL {A B R:Type} {nI:A->B->Sz} {step:A->(A->Option R)->Option R} {r:R} {k:Nat} {σI:A->B->Fr} {MI LI:A->B->List aS} (x:A) (y:B) (hn:n=nI x y) (h:bE step k x=some r) (hs:tQ σ (σI x y)) (hM:aQ M (MI x y)) (hL:aD [] L (LI x y)):
  J c n σ M L (YO c nI step r σI MI LI k):=fun _ _ s t=>⟨x,y,h,hn▸s.weak hs,t.weakE hM hL⟩
end
end
section
def Gb (b:Nat) (cs:List Value):aS where
 p w S:=S b∧∃T,w.heap[b]? = some (.cells cs.toArray T (0,0))
 mono:=fun⟨h1,T,h2⟩ h=>by
  obtain⟨h3,h4⟩:=h b h1 (Array.getElem?_eq_some_iff.1 h2).1
  exact⟨h3,T,by rw[h4];exact h2⟩
section
variable {P:Program} {c:sI} {n:Sz} {σ:Fr} {M L:List aS} {d:Option Tmp} {ty:TypeId} {pos:String} {aft:Array Edge} {g:Option (Nat×Bool)} {α:Type} {e:cZ α}
theorem Kl [bV P] {T E:TypeId} {ki:IntKind} {k s1 s2 s3 s4:Nat} {z z':Value} {dE:TypeDesc} {x y:Operand} {b:Nat} {i:Int} (hx:ev σ x=some (.pointer (some ⟨b,0,none⟩))) (hy:ev σ y=some (.int ki i))
  (hT:bV.tab P T=some ⟨.array k E,s1,s2,z⟩) (hE:bV.tab P E=some ⟨dE,s3,s4,z'⟩) (h3:(s3==0)=false) (h:0<=i∧i<(k:Int)):
  Y P c n σ M L ⟨d,.indexAddr T x y,ty,pos,aft,g⟩ (.pointer (some ⟨b,i.toNat*s3,none⟩)):=fun a w s t=>by
 have hne:s3≠0:=by simpa using h3
 simp[execOp,s.eval hx,s.eval hy,Instr.indexAt,asIntOf,(bV.ok hT).run_und w,h,Instr.sureAddr,(bV.ok hE).run_size w,hne,dJ]
theorem OV [bV P] [Inhabited α] {T:TypeId} {s2:Nat} {z:Value} {dT:TypeDesc} {x:Operand} {b k:Nat} {i:Int} {xs:List α} {u:Value} (hx:ev σ x=some (.pointer (some ⟨b,i.toNat*1,none⟩)))
  (hM:aC M L (Gb b (cellsOf e xs))) (hT:bV.tab P T=some ⟨dT,1,s2,z⟩) (hd:uA dT=false) (hq:e.sz=1) (hu:(e.enc (at' xs i))=[u]) (h:(0<=i∧i<(k:Int))∧xs.length=k):
  Y P c n σ M L ⟨d,.load T x,ty,pos,aft,g⟩ u:=fun a w s t=>by
 obtain⟨F,hF1,T',hF2⟩:=hM.st t
 have hF:(bM b (cellsOf e xs) T').p w F:=⟨hF1,hF2⟩
 have hg:=sO e xs i.toNat (at' xs i) (jE h.1.1 (by omega)) 0 u (by rw[hu];rfl)
 rw[hq,Nat.add_zero]at hg
 rw[Nat.mul_one]at hx hg
 simp[execOp,s.eval hx,uI (bV.ok hT) hd (bM.cell hF hg)]
end
end
end Go.Sx
end
section
namespace Go.Sx
section
variable {P:Program} {M L:List aS} {α β γ:Type} {r:dV α} {s:dV γ} {q:dV β}
def dV.Deep (r:dV α) (q:dV β) (f:α->Value×List β):Prop:=∀{w S es x},r.R w S es x->IF q w S (f x).1 (f x).2
theorem AC (q:dV β):(dV.sl q).Deep q (fun x=>x):=fun h=>h.2
theorem OP {f:α->Value×List β} (h:r.Deep q f):(r.pair s).Deep q (fun x=>f x.1):=by
 rintro w S es x ⟨c1,c2,rfl,h1,_⟩
 exact h h1
theorem Bg {f:α->Value×List β} (h:r.Deep q f):(s.pair r).Deep q (fun x=>f x.2):=by
 rintro w S es x ⟨c1,c2,rfl,_,h1⟩
 exact h h1
theorem sM [Inhabited α] {v:Value} {xs:List α} {i:Int} {f:α->Value×List β} (h:aC M L (Sl r v xs)) (hd:r.Deep q f) (h0:0<=i) (h1:i<xs.length):aC M L (Sl q (f (at' xs i)).1 (f (at' xs i)).2):=h.mono fun {w U} hs=>by
 obtain⟨es,hr,_⟩:=sl_cell hs (jE h0 h1)
 exact hd hr
def FW (s:ByteArray):List Int:=s.data.toList.map fun b=>(b.toNat:Int)
theorem zF [bV P] {c:sI} {n:Sz} {σ:Fr} {d:Option Tmp} {ty:TypeId} {pos:String} {aft:Array Edge} {g:Option (Nat×Bool)} {T:TypeId} {s1 s2:Nat} {z:Value} {x y:Operand} {s:ByteArray} {xs:List Int} {k:IntKind} {i:Int} (hx:ev σ x=some (.string s)) (hy:ev σ y=some (.int k i)) (hT:bV.tab P T=some ⟨.string,s1,s2,z⟩) (hb:FW s=xs) (h:0<=i∧i<xs.length):
  Y P c n σ M L ⟨d,.index T x y,ty,pos,aft,g⟩ (.int .u8 (at' xs i)):=fun a w st t=>by
 subst hb
 obtain⟨h0,h1⟩:=h
 obtain⟨j,rfl⟩:∃j:Nat,i=(j:Int):=⟨i.toNat,by omega⟩
 have hl:j<s.data.toList.length:=by unfold FW at h1;simp at h1 ⊢;omega
 have hj:j<s.size:=by have:=Lib.size_eq s;simp at hl;omega
 have hg:s[j]? = some (s.data.toList[j]):=by
  rw[getElem?_pos s j hj];rfl
 have ha:at' (FW s) (j:Int)=((s.data.toList[j]).toNat:Int):=by
  unfold at' FW
  simp[List.getD_eq_getElem?_getD,List.getElem?_eq_getElem hl]
 rw[ha]
 simp[execOp,st.eval hx,st.eval hy,Instr.index,asIntOf,(bV.ok hT).run_und w,hg]
theorem Mf [bV P] {c:sI} {n:Sz} {σ:Fr} {d:Option Tmp} {ty:TypeId} {pos:String} {aft:Array Edge} {g:Option (Nat×Bool)} {T E:TypeId} {s1 s2 s3 s4 m b:Nat} {z z':Value} {dE:TypeDesc} {x hi:Operand} {k:Int} (hx:ev σ x=some (.pointer (some ⟨b,0,none⟩))) (hhi:ev σ hi=some (.int .i64 k))
  (hT:bV.tab P T=some ⟨.array m E,s1,s2,z⟩) (hE:bV.tab P E=some ⟨dE,s3,s4,z'⟩) {q:Int} (h:0<=k∧k<=((m:Nat):Int)∧k<=q):Y P c n σ M L ⟨d,.slice T x none (some hi) none,ty,pos,aft,g⟩ (.slice (some ⟨b,0,none⟩) k.toNat m):=fun a w s t=>by
 have h1:0<=k∧k<=(m:Int):=⟨h.1,h.2.1⟩
 simp[execOp,s.eval hx,s.eval hhi,Instr.sliceAt,Instr.slice,(bV.ok hT).run_und w,Instr.sliceBounds,Instr.sliceBound,asIntOf,(bV.ok hE).run_size w,h1,asAddr,Addr.add,Instr.sureAddr]
theorem Qv {e:cZ α} {i b T m:Nat} {k:Int} {xs:List α} (hM:M[i]? = some (bM b (cellsOf e xs) T)) (hfit:e.Fits r) (h:0<=k∧k<=((m:Nat):Int)∧k<=(xs.length:Int)) (hmax:m<=9223372036854775807):aC M L (Sl r (.slice (some ⟨b,0,none⟩) k.toNat m) (xs.take k.toNat)):=fun w S T U hL hM' hS hT=>by
 have hB:=hM' i _ hM
 have hl:(xs.take k.toNat).length=k.toNat:=by simp;omega
 refine⟨some ⟨b,0,none⟩,m,by rw[hl],by rw[hl];omega,.inr ⟨b,0,rfl,hT _ _ hB.1,fun j x hx=> ?_⟩⟩
 have hx':xs[j]? = some x:=by
  rw[List.getElem?_take]at hx
  split at hx
  ·exact hx
  ·cases hx
 obtain⟨hsz,he,hr,_⟩:=hfit
 refine⟨e.enc x,fun q u hu=> ?_,hr⟩
 have hc:=sO e xs _ _ hx' _ _ hu
 rw[hsz,Nat.zero_add]
 exact bM.cell hB hc
def dV.All (r:dV α) (n:Nat) (g:α->List Value):Prop:=r.sz=n∧∀{w S es x},r.R w S es x->es=g x
theorem Ma {e:cZ α} (h:e.Fits r):r.All e.sz e.enc:=⟨h.1,h.2.1⟩
theorem Mb (q:dV β):(dV.sl q).All 1 (fun x=>[x.1]):=⟨rfl,fun h=>h.1⟩
theorem IE {n m:Nat} {f:α->List Value} {g:γ->List Value} (h:r.All n f) (k:s.All m g):(r.pair s).All (n+m) (fun x=>f x.1++g x.2):=⟨by show r.sz+s.sz=_;rw[h.1,k.1],by
 rintro w S es x ⟨c1,c2,rfl,h1,h2⟩
 rw[h.2 h1,k.2 h2]⟩
theorem Me [bV P] [Inhabited α] {c:sI} {n:Sz} {σ:Fr} {d:Option Tmp} {ty:TypeId} {pos:String} {aft:Array Edge} {g:Option (Nat×Bool)} {T:TypeId} {s2 q m:Nat} {z:Value} {dT:TypeDesc} {x:Operand} {v:Value} {i:Int} {xs:List α} {cs:List Value} {f:α->List Value} (hx:ev σ x=some (Bm v (i.toNat*q))) (hf:aC M L (Sl r v xs)) (hD:r.All m f) (hcs:f (at' xs i)=cs)
  (hT:bV.tab P T=some ⟨dT,cs.length,s2,z⟩) (hd:uA dT=true) (hq:m=q) (h:0<=i∧i<xs.length):Y P c n σ M L ⟨d,.load T x,ty,pos,aft,g⟩ (.agg cs.toArray):=fun a w s t=>by
 obtain⟨h0,h1⟩:=h
 obtain⟨S,h⟩:=hf.st t
 obtain⟨es,hr,hes⟩:=sl_cell h (jE h0 h1)
 have:=hD.2 hr
 subst this hcs
 rw[hD.1,hq]at hes
 have:=xP (w:=w) (A:=Hh v (i.toNat*q)) (cs:=f (at' xs i)) (bV.ok hT) hd rfl (fun j u hu=>by rw[Ff];exact hes j u hu)
 simp[execOp,s.eval hx,Bm,this]
end
end Go.Sx
end
section
namespace Go.Sx
open Go.RowKit
section
section
variable {P:Program} {c:sI} {n:Sz} {σ:Fr} {M L:List aS} {d:Option Tmp} {ty:TypeId} {pos:String} {aft:Array Edge} {g:Option (Nat×Bool)}
theorem TS {t:TypeId} {x:Operand} {k:IntKind} {p m:Int} (hx:ev σ x=some (.int k p)) (hm:(if k.signed then -1 else k.max)=m):Y P c n σ M L ⟨d,.unOp .xor t x,ty,pos,aft,g⟩ (.int k (Ue k m p)):=fun a w s _=>by
 subst hm
 simp[execOp,s.eval hx,Op.unary,Op.intBits,Ue]
def YS (v:Value) (m:Nat):Prop:=∃a cap,v = .slice a m cap∧(m=0∨∃b off,a=some ⟨b,off,none⟩)
theorem Know.len {α:Type} {r:dV α} {v:Value} {xs:List α} (hf:aC M L (Sl r v xs)):∀c w,St c M L w->YS v xs.length:=fun c w t=>by
 obtain⟨S,a',cap,hv,_,h⟩:=hf.st t
 exact⟨a',cap,hv,h.imp (fun h=>by simp[h]) fun⟨b,off,e,_⟩=>⟨b,off,e⟩⟩
theorem FN [bV P] {T E:TypeId} {s1 s2 s3 s4 m:Nat} {z z':Value} {dE:TypeDesc} {x y:Operand} {v:Value} {i:Int} (hx:ev σ x=some v) (hy:ev σ y=some (.int .i64 i)) (hv:YS v m)
  (hT:bV.tab P T=some ⟨.slice E,s1,s2,z⟩) (hE:bV.tab P E=some ⟨dE,s3,s4,z'⟩) (h:0<=i∧i<(m:Int)):Y P c n σ M L ⟨d,.indexAddr T x y,ty,pos,aft,g⟩ (Bm v (i.toNat*s3)):=fun a w st t=>by
 obtain⟨a',cap,rfl,hv⟩:=hv
 obtain⟨h0,h1⟩:=h
 rcases hv with rfl|⟨b,off,rfl⟩
 ·omega
 ·simp[execOp,st.eval hx,st.eval hy,Ek w (bV.ok hT) rfl (bV.ok hE) b off _ cap i h0 h1]
theorem FH [bV P] (i:Nat) {T T':TypeId} {s2 m o b:Nat} {z:Value} {dT:TypeDesc} {x y:Operand} {cs cs' us:List Value} {u:Value} (hx:ev σ x=some (.pointer (some ⟨b,o,none⟩))) (hy:ev σ y=some u) (hu:u.cells=us.toArray) (hm:us.length=m)
  (h1:us.all one=true) (hM:M[i]? = some (bM b cs T')) (hT:bV.tab P T=some ⟨dT,m,s2,z⟩) (ho:Nat.ble (o+m) cs.length=true) (hcs:cs.take o++us++cs.drop (o+m)=cs'):
  aJ P c n σ M L ⟨none,.store T x y,ty,pos,aft,none⟩ (fun _:Unit=>undef) (fun _=>M.set i (bM b cs' T')) (fun _=>L):=fun a w s t=>by
 subst hm hcs
 obtain⟨F,hF⟩:=t.res hM
 have ho':o+us.length<=cs.length:=by simpa using ho
 have hst:=run_storeCells_at P b o T' us 0 cs.toArray w hF.2 (by simp;omega) (fun u hu=>mA (List.all_eq_true.1 h1 u hu))
 simp only[Nat.add_zero]at hst
 have hrun:(execOp a.eval ⟨none,.store T x y,ty,pos,aft,none⟩).run P w = .ok .skip (w.setRow b (cs.take o++us++cs.drop (o+us.length)).toArray):=by
  simp[execOp,s.eval hx,s.eval hy,Instr.storeAt,Instr.sureAddr,storeVar,hu,(bV.ok hT).run_size w,hst]
 simp only[Oper.wp,hrun,Oper.upon]
 exact⟨(),trivial,t.fill hM⟩
theorem Cn {α:Type} [Inhabited α] (l:List α) (k:Int) (h:k.toNat<l.length) (h0:0<=k):l.set k.toNat (at' l k)=l:=by
 have:=jE (xs:=l) h0 (by omega)
 refine List.ext_getElem? fun i=> ?_
 by_cases e:k.toNat=i
 ·subst e
  rw[List.getElem?_set_self h,this]
 ·rw[List.getElem?_set_ne e]
theorem AA [bV P] {α:Type} [Inhabited α] {e:cZ α} (j:Nat) {T:TypeId} {s2 m o q:Nat} {z:Value} {dT:TypeDesc} {x y:Operand} {u:Value} {us:List Value} {i k:Int} {vs:List Value} {xss:List (List α)} (yv:α) (hk:0<=k∧k<xss.length) (h:0<=i∧i<(at' xss k).length) (hx:ev σ x=some (Bm (at' vs k) (i.toNat*q+o))) (hy:ev σ y=some u)
  (hf:M[j]? = some (jK e vs xss)) (hq:e.sz=q) (hu:u.cells=us.toArray) (hm:us.length=m) (ho:Nat.ble (o+m) q=true) (hyv:e.enc yv=(e.enc (at' (at' xss k) i)).take o++us++(e.enc (at' (at' xss k) i)).drop (o+m)) (h1u:us.all one=true) (hT:bV.tab P T=some ⟨dT,m,s2,z⟩):
  aJ P c n σ M L ⟨none,.store T x y,ty,pos,aft,none⟩ (fun _:Unit=>undef) (fun _=>M.set j (jK e vs (xss.set k.toNat ((at' xss k).set i.toNat yv)))) (fun _=>L):=fun a w s t=>by
 have hl:=bW j hf c w t
 have hj:j<M.length:=(List.getElem?_eq_some_iff.1 hf).1
 refine l_ (fun a' w' ⟨x,he,ht⟩=>⟨x,he,?_⟩) (JV 0 yv h hx hy rfl hq hu hm ho hyv h1u hT a w s (Kh j hf hk c w t))
 have hb:=Ke (j+1) 0 (u:=at' vs k) (k:=k) (vs:=vs) (xss:=xss) (ys:=(at' xss k).set i.toNat yv) (e:=e) rfl (by simp[hj]) rfl (by simpa using hk) c w' ht
 simp only[List.set_cons_zero,List.set_cons_succ,List.eraseIdx_cons_zero,List.set_set]at hb
 rw[Cn vs k (by omega) hk.1]at hb
 exact hb
end
theorem aQ.ix {M M':List aS} (l:List Nat) (hn:decide l.Nodup=true) (h:l.map (fun i=>M[i]?)=M'.map some):aQ M M':=by
 have hn:l.Nodup:=of_decide_eq_true hn
 have hl:l.length=M'.length:=by simpa using congrArg List.length h
 refine⟨fun i=>l.getD i 0,fun i j hi hj e=> ?_,fun i m hm=> ?_⟩
 ·have h1:i<l.length:=by omega
  have h2:j<l.length:=by omega
  simp only[List.getD_eq_getElem?_getD,List.getElem?_eq_getElem h1,List.getElem?_eq_getElem h2,Option.getD_some]at e
  exact(List.getElem_inj hn).1 e
 ·have hi:i<l.length:=by rw[hl];exact(List.getElem?_eq_some_iff.1 hm).1
  have:=congrArg (fun q=>q[i]?) h
  simp only[List.getElem?_map,List.getElem?_eq_getElem hi,hm,Option.map_some,Option.some.injEq]at this
  simpa [List.getD_eq_getElem?_getD,List.getElem?_eq_getElem hi]using this
def cZ.fn:cZ Nat:=⟨1,Nat.one_pos,fun f=>[.func (.func f) #[] #[]],fun _=>rfl⟩
def dV.fn:dV Nat:=⟨1,Nat.one_pos,fun _ _ cs x=>cs=[.func (.func x) #[] #[]],fun h=>by simp[h],fun h _=>h⟩
theorem JK:cZ.fn.Fits dV.fn:=⟨rfl,fun h=>h,rfl,fun _=>rfl⟩
end
section
variable {P:Program} {rd:Option Nat} {c:sI} {n:Sz} {σ:Fr} {M L:List aS} {Q:Exit->Act->World->Prop} {ops:Array Oper} {rest:List Oper} {d:Nat} {ty:TypeId} {pos:String} {aft:Array Edge} {x y:Operand} {v:Value} {K:Act->World->Prop}
abbrev vS (x:ByteArray):Value:= .string x
abbrev vB (x:Bool):Value:= .bool x
theorem ckE {β:Type} {p G:Prop} {_:Decidable p} {u:Option β} {r:β} (h:ck p u=some r) (k:p->u=some r->G):G:=k (NF h).1 (NF h).2
theorem bnE {β γ:Type} {G:Prop} {u:Option β} {f:β->Option γ} {r:γ} (h:u.bind f=some r) (k:∀y,u=some y->f y=some r->G):G:=by
  obtain⟨y,h1,h2⟩:=bnd h
  exact k y h1 h2
theorem oI (l:List Nat) {L0:List aS} (h:l.map (L[·]?)=L0.map some):aD M L L0:=fun f hf=>by
  have hm:some f∈l.map (L[·]?):=h▸List.mem_map_of_mem hf
  obtain⟨j,_,hj⟩:=List.mem_map.1 hm
  exact aC.fact j hj
theorem wA.ix (l:List Nat) {L0:List aS} (h:l.map (L[·]?)=L0.map some):wA L L0:=fun f hf=>by
  have hm:some f∈l.map (L[·]?):=h▸List.mem_map_of_mem hf
  obtain⟨j,_,hj⟩:=List.mem_map.1 hm
  exact List.mem_of_getElem? hj
theorem mJ {f:aS} (i:Nat) (h:L[i]? = some f):wA L [f]:=wA.cons (List.mem_of_getElem? h) wA.nil
/-- which of the early loads must still hold,with the numbers of what they have read -/
def Xi (A:Nat->Bool):List (List Nat×List Nat)->List (Nat×List aS×List aS)->List (List Nat×List Nat×List aS×List aS)
  |_,[]=>[]
  |q,(j,Mx,Lx)::B=>bif A j||(Mx.isEmpty&&Lx.isEmpty)then Xi A q B else((q.headD ([],[])).1,(q.headD ([],[])).2,Mx,Lx)::Xi A q.tail B
theorem rA {A:Nat->Bool} (q:List (List Nat×List Nat)) {B:List (Nat×List aS×List aS)} (h:(Xi A q B).map (fun z=>(decide z.1.Nodup,z.1.map (M[·]?),z.2.1.map (L[·]?)))=(Xi A q B).map (fun z=>(true,z.2.2.1.map some,z.2.2.2.map some))):yG A M L B:=by
  induction B generalizing q with
  |nil=>exact yG.z
  | cons b B ih =>
    obtain⟨j,Mx,Lx⟩:=b
    cases ha:A j with
    |true=>exact yG.b ha (ih q (by simpa [Xi,ha]using h))
    | false =>
      cases he:(Mx.isEmpty&&Lx.isEmpty)with
      | true =>
        obtain⟨e1,e2⟩:=Bool.and_eq_true_iff.1 he
        rw[List.isEmpty_iff]at e1 e2
        subst e1;subst e2
        exact yG.h aQ.nil wA.nil (ih q (by simpa [Xi,ha]using h))
      | false =>
        simp only[Xi,ha,he,Bool.or_self,cond_false,List.map_cons,List.cons.injEq,Prod.mk.injEq]at h
        exact yG.h (aQ.ix _ h.1.1 h.1.2.1) (wA.ix _ h.1.2.2) (ih q.tail h.2)
def ZT (A:Nat->Bool):List (Nat×List aS×List aS)->Bool
  | []=>true
  |(j,_,_)::H=>bif A j then ZT A H else false
theorem hkI {A:Nat->Bool} {Mx Lx:List aS} {H:List (Nat×List aS×List aS)} (h:ZT A H=true):aK A Mx Lx H:=by
  induction H with
  |nil=>exact aK.z
  | cons b B ih =>
    obtain⟨j,_,_⟩:=b
    cases ha:A j with
    |false=>simp[ZT,ha]at h
    |true=>exact aK.b ha (ih (by simpa [ZT,ha]using h))
theorem hkN {A:Nat->Bool} {H:List (Nat×List aS×List aS)}:aK A [] [] H:=by
  induction H with
  |nil=>exact aK.z
  |cons b B ih=>exact aK.h aQ.nil wA.nil ih
theorem qkPkT {T:Operand} (h:(ev σ T,ev σ x,Nat.blt d n.sz)=(some (.bool true),some v,true)) (k:J c n ((d,v)::σ) M L (wpList P ops Q rest)):J c n σ M L (wpList P ops Q (⟨some d,.pick T x y,ty,pos,aft,none⟩::rest)):=by
  simp only[Prod.mk.injEq]at h
  exact aB (TW h.1 h.2.1) h.2.2 k
theorem qkPkF {T:Operand} (h:(ev σ T,ev σ y,Nat.blt d n.sz)=(some (.bool false),some v,true)) (k:J c n ((d,v)::σ) M L (wpList P ops Q rest)):J c n σ M L (wpList P ops Q (⟨some d,.pick T x y,ty,pos,aft,none⟩::rest)):=by
  simp only[Prod.mk.injEq]at h
  exact aB (TV h.1 h.2.1) h.2.2 k
theorem qkExt {vs:List Value} {i:Nat} (h:(ev σ x,vs[i]?,Nat.blt d n.sz)=(some (.tuple vs.toArray),some v,true)) (k:J c n ((d,v)::σ) M L (wpList P ops Q rest)):J c n σ M L (wpList P ops Q (⟨some d,.extract x i,ty,pos,aft,none⟩::rest)):=by
  simp only[Prod.mk.injEq]at h
  exact aB (mW h.1 h.2.1) h.2.2 k
theorem qkNeq {t t':TypeId} {i:IntKind} {p q:Int} (h:(ev σ x,ev σ y,Nat.blt d n.sz)=(some (.int i p),some (.int i q),true)) (k:J c n ((d,.bool (decide (p≠q)))::σ) M L (wpList P ops Q rest)):J c n σ M L (wpList P ops Q (⟨some d,.binOp .neq t x y t',ty,pos,aft,none⟩::rest)):=by
  simp only[Prod.mk.injEq]at h
  exact aB (AF h.1 h.2.1) h.2.2 k
theorem qkAnd {t t':TypeId} {i:IntKind} {p q:Int} (h:(ev σ x,ev σ y,Nat.blt d n.sz)=(some (.int i p),some (.int i q),true)) (k:J c n ((d,.int i (cS i p q))::σ) M L (wpList P ops Q rest)):J c n σ M L (wpList P ops Q (⟨some d,.binOp .and t x y t',ty,pos,aft,none⟩::rest)):=by
  simp only[Prod.mk.injEq]at h
  exact aB (Kk h.1 h.2.1) h.2.2 k
theorem qkLen [bV P] {α:Type} {r:dV α} {T E:TypeId} {s1 s2:Nat} {z:Value} {xs:List α} (hf:aC M L (Sl r v xs)) (h:(ev σ x,bV.tab P T,Nat.blt d n.sz)=(some v,some ⟨.slice E,s1,s2,z⟩,true)) (k:J c n ((d,.int .i64 xs.length)::σ) M L (wpList P ops Q rest)):J c n σ M L (wpList P ops Q (⟨some d,.call ⟨.builtin .len,#[x],#[T]⟩,ty,pos,aft,none⟩::rest)):=by
  simp only[Prod.mk.injEq]at h
  exact aB (fR h.1 hf h.2.1) h.2.2 k
variable {l:List Oper} {m:List Nat} {k0:Nat} {H Bs:List (Nat×List aS×List aS)} {rs:List Nat}
theorem jqN {i dd:Nat} {op:Op} (hi:l[i]? = some ⟨some dd,op,ty,pos,aft,none⟩) (hy:Y P c n σ [] [] ⟨some dd,op,ty,pos,aft,none⟩ v)
    (h:JR c n ((dd,v)::σ) M L H ((i,[],[])::Bs) (RW P l.toArray Q (before m) (cG l) k0 rs))
    (hk:Nat.blt i k0=true:=by exact rfl) (hl:dD op=false:=by exact rfl) (hd:Nat.blt dd n.sz=true:=by exact rfl):JR c n σ M L H Bs (RW P l.toArray Q (before m) (cG l) k0 (i::rs)):=bG hi aQ.nil wA.nil hy hkN h hk hl hd
end
end Go.Sx
end
section
namespace Go.Sx
section
abbrev aL:=List Int
abbrev eD:=List (Int×Int)
abbrev aX:=List aL
abbrev eF:=List eD
abbrev rO:=ByteArray×(List (ByteArray×Int×Int×Int×Int×Int))×(List (ByteArray×(Value×eD)×(Value×List (Int×(Value×eD)))))
abbrev Eo:=(ByteArray×(List (ByteArray×Int×Int×Int×Int×Int))×(List (ByteArray×(Value×eD)×(Value×List (Int×(Value×eD))))))×((ByteArray×(List (ByteArray×Int×Int×Int×Int×Int))×(List (ByteArray×(Value×eD)×(Value×List (Int×(Value×eD))))))×(aL×eF)×Int×aX)×eF
abbrev JE:=((ByteArray×(List (ByteArray×Int×Int×Int×Int×Int))×(List (ByteArray×(Value×eD)×(Value×List (Int×(Value×eD))))))×(aL×eF)×Int×aX)×aX×Int×eD
abbrev yX:=((aL×aL×aX×(Int×Int×Int×Int×Int))×Int)
abbrev PV:=(ByteArray×(List (ByteArray×Int×Int×Int×Int×Int))×(List (ByteArray×(Value×eD)×(Value×List (Int×(Value×eD))))))×(aL×eF)×Int×aX
abbrev cM:=aL×eF
abbrev mB:=List (Value×eD)
abbrev pJ:=List (Value×aL)
abbrev VL:=(((ByteArray×(List (ByteArray×Int×Int×Int×Int×Int))×(List (ByteArray×(Value×eD)×(Value×List (Int×(Value×eD))))))×(aL×eF)×Int×aX)×aX×Int×eD)
abbrev Aw:=Int×aL×aL×aL×Bool×Bool
abbrev Ba:=ByteArray×Int×Int×Int×Int×Int
abbrev fJ:=List Value
abbrev gO:=(Int×Int)
abbrev EI:=List (ByteArray×Int×Int×Int×Int×Int)
abbrev eC:=List Nat
abbrev qN:=((aL×eF))
abbrev eZ:=Int×Int
abbrev Ik:=Int×Int×Int×Int×Int×Int×aL×aL×aX
abbrev EJ:=Int×(List ((Int×Int)×Int))
abbrev BX:=Int×Int×Int×Int×Int
abbrev Tc:=(ByteArray×List (ByteArray×Int×Int×Int×Int×Int)×List (eD×List (Int×eD)))
abbrev mI:=Int×aL
abbrev sR:=(Int×aL)
abbrev Il:=(Int×(List ((Int×Int)×Int)))
abbrev Lr:=List (eD×List (Int×eD))
abbrev Ou:=(ByteArray×Int×Int×Int×Int×Int)
abbrev Ov:=Value×Value×Value×List Value
abbrev BY:=(aL×eF)
end
section
abbrev kK:Value:=Value.slice none 0 0
abbrev Cu:List Value:=[kK,kK,kK,vI (0:Int),vI (0:Int),vI (0:Int),vI (0:Int),vU (0:Int)]
abbrev Wp:List Value:=[Value.pointer none,kK,vI (0:Int),vU (0:Int),Value.nilFunc]
abbrev Tm:List Value:=[vI (0:Int),vI (0:Int),vI (0:Int),vI (0:Int),vU (0:Int)]
abbrev LN:List Value:=[vI (0:Int),vI (0:Int)]
abbrev ZY:List Value:=[vS (ByteArray.mk #[]),vI (0:Int),vI (0:Int),vI (0:Int),vI (0:Int),vI (0:Int)]
end
end Go.Sx
end
section
namespace Go.Proofs.YtigggfnchamobaaGreatDoor
open Go.Sx
section
def Fe:aL:=[0,1,1,2,1,2,2,3,1,2,2,3,2,3,3,4,1,2,2,3,2,3,3,4,2,3,3,4,3,4,4,5,1,2,2,3,2,3,3,4,2,3,3,4,3,4,4,5,2,3,3,4,3,4,4,5,3,4,4,5,4,5,5,6,1,2,2,3,2,3,3,4,2,3,3,4,3,4,4,5,2,3,3,4,3,4,4,5,3,4,4,5,4,5,5,6,2,3,3,4,3,4,4,5,3,4,4,5,4,5,5,6,3,4,4,5,4,5,5,6,4,5,5,6,5,6,6,7,1,2,2,3,2,3,3,4,2,3,3,4,3,4,4,5,2,3,3,4,3,4,4,5,3,4,4,5,4,5,5,6,2,3,3,4,3,4,4,5,3,4,4,5,4,5,5,6,3,4,4,5,4,5,5,6,4,5,5,6,5,6,6,7,2,3,3,4,3,4,4,5,3,4,4,5,4,5,5,6,3,4,4,5,4,5,5,6,4,5,5,6,5,6,6,7,3,4,4,5,4,5,5,6,4,5,5,6,5,6,6,7,4,5,5,6,5,6,6,7,5,6,6,7,6,7,7,8]
theorem IR:FW (ByteArray.mk #[0,1,1,2,1,2,2,3,1,2,2,3,2,3,3,4,1,2,2,3,2,3,3,4,2,3,3,4,3,4,4,5,1,2,2,3,2,3,3,4,2,3,3,4,3,4,4,5,2,3,3,4,3,4,4,5,3,4,4,5,4,5,5,6,1,2,2,3,2,3,3,4,2,3,3,4,3,4,4,5,2,3,3,4,3,4,4,5,3,4,4,5,4,5,5,6,2,3,3,4,3,4,4,5,3,4,4,5,4,5,5,6,3,4,4,5,4,5,5,6,4,5,5,6,5,6,6,7,1,2,2,3,2,3,3,4,2,3,3,4,3,4,4,5,2,3,3,4,3,4,4,5,3,4,4,5,4,5,5,6,2,3,3,4,3,4,4,5,3,4,4,5,4,5,5,6,3,4,4,5,4,5,5,6,4,5,5,6,5,6,6,7,2,3,3,4,3,4,4,5,3,4,4,5,4,5,5,6,3,4,4,5,4,5,5,6,4,5,5,6,5,6,6,7,3,4,4,5,4,5,5,6,4,5,5,6,5,6,6,7,4,5,5,6,5,6,6,7,5,6,6,7,6,7,7,8])=Fe:=by kernel_rfl
def rK:aL:=[0,1,28,2,29,14,24,3,30,22,20,15,25,17,4,8,31,27,13,23,21,19,16,7,26,12,18,6,11,5,10,9]
theorem _root_.Go.Sx.Y.bld5 {P:Program} {c:sI} {n:Sz} {σ:Fr} {M L:List aS} {d:Option Tmp} {ty:TypeId} {pos:String} {aft:Array Edge} {g:Option (Nat×Bool)} {T:TypeId} {i0 i1 i2 i3 i4:Nat} {x0 x1 x2 x3 x4:Operand} {v0 v1 v2 v3 v4:Value} {r:Value} (h0:ev σ x0=some v0) (h1:ev σ x1=some v1) (h2:ev σ x2=some v2) (h3:ev σ x3=some v3) (h4:ev σ x4=some v4) (hr:∀w,(Instr.build T ([(i0,v0),(i1,v1),(i2,v2),(i3,v3),(i4,v4)]:List (Nat×Value)).toArray).run P w = .ok r w):Y P c n σ M L ⟨d,.build T #[(i0,x0),(i1,x1),(i2,x2),(i3,x3),(i4,x4)],ty,pos,aft,g⟩ r:=
 wH (ps:=[(i0,x0),(i1,x1),(i2,x2),(i3,x3),(i4,x4)]) (vs:=[(i0,v0),(i1,v1),(i2,v2),(i3,v3),(i4,v4)]) (by simp[h0,h1,h2,h3,h4]) hr
abbrev ESt:cZ ByteArray:=⟨1,Nat.one_pos,fun x=>[.string x],fun _=>rfl⟩
abbrev Z_:dV ByteArray:=⟨1,Nat.one_pos,fun _ _ cs x=>cs=[.string x],fun h=>by simp[h],fun h _=>h⟩
theorem FSt:ESt.Fits Z_:=⟨rfl,fun h=>h,rfl,fun _=>rfl⟩
abbrev bU:cZ Int:=cZ.int .i64
abbrev bD:dV Int:=dV.int .i64
theorem cP:bU.Fits bD:=CC .i64
theorem dO:bD.Cell 0 (fun x=> .int .i64 x):=CJ .i64
abbrev qP:cZ Ou:=cZ.pair ESt (cZ.pair bU (cZ.pair bU (cZ.pair bU (cZ.pair bU (bU)))))
abbrev aG:dV Ou:=dV.pair Z_ (dV.pair bD (dV.pair bD (dV.pair bD (dV.pair bD (bD)))))
theorem qQ:qP.Fits aG:=mC FSt (mC cP (mC cP (mC cP (mC cP (cP)))))
theorem tU:aG.Cell 1 (fun x=> .int .i64 x.2.1):=b_ (mU (dO))
theorem An:aG.Cell 2 (fun x=> .int .i64 x.2.2.1):=b_ (b_ (mU (dO)))
theorem Ao:aG.Cell 3 (fun x=> .int .i64 x.2.2.2.1):=b_ (b_ (b_ (mU (dO))))
theorem Ap:aG.Cell 4 (fun x=> .int .i64 x.2.2.2.2.1):=b_ (b_ (b_ (b_ (mU (dO)))))
theorem Aq:aG.Cell 5 (fun x=> .int .i64 x.2.2.2.2.2):=b_ (b_ (b_ (b_ (b_ (dO)))))
abbrev bS:cZ gO:=cZ.pair bU (bU)
abbrev aV:dV gO:=dV.pair bD (bD)
theorem bJ:bS.Fits aV:=mC cP (cP)
theorem zB:aV.Cell 0 (fun x=> .int .i64 x.1):=mU (dO)
theorem LZ:aV.Cell 1 (fun x=> .int .i64 x.2):=b_ (dO)
abbrev oU:dV (Int×(Value×eD)):=dV.pair bD ((dV.sl aV))
theorem Hj:oU.All 2 (fun x=>[Value.int .i64 (x.1),x.2.1]):=(IE (Ma cP) (Mb aV))
theorem Ag:oU.Deep aV (fun x=>x.2):=Bg (AC aV)
abbrev aE:dV (ByteArray×(Value×eD)×(Value×List (Int×(Value×eD)))):=dV.pair Z_ (dV.pair (dV.sl aV) ((dV.sl oU)))
theorem vY:aE.Cell 1 (fun x=>x.2.1.1):=b_ (mU (dV.sl_cell aV))
theorem v_:aE.Deep aV (fun x=>x.2.1):=Bg (OP (AC aV))
theorem vZ:aE.Cell 2 (fun x=>x.2.2.1):=b_ (b_ (dV.sl_cell oU))
theorem eL:aE.Deep oU (fun x=>x.2.2):=Bg (Bg (AC oU))
abbrev YM:cZ Bool:=cZ.bool
abbrev EFn:cZ Nat:=cZ.fn
abbrev RFn:dV Nat:=dV.fn
theorem FFn:EFn.Fits RFn:=JK
abbrev EX:cZ (Int×Nat):=cZ.pair bU (EFn)
abbrev TP:dV (Int×Nat):=dV.pair bD (RFn)
theorem xF:EX.Fits TP:=mC cP (FFn)
abbrev jL:cZ Int:=cZ.int .u32
abbrev yK:dV Int:=dV.int .u32
theorem nQ:jL.Fits yK:=CC .u32
theorem DL:yK.Cell 0 (fun x=> .int .u32 x):=CJ .u32
abbrev CB:cZ Int:=cZ.int .u8
def Lv (x:Int):Value:=Value.int .i64 (x)
def lC (x:eZ):Value:=Value.agg #[Value.int .i64 (x.1),Value.int .i64 (x.2)]
theorem Sc (x y:eZ) (m:Nat) (w:World):(Op.equalIn (m+2) 145 (.agg #[.int .i64 x.1,.int .i64 x.2]) (.agg #[.int .i64 y.1,.int .i64 y.2])).run Tryz.prog w = .ok (decide (x=y)) w:=by
 have h3:∀a b:Int,(Op.equalIn (m+1) 3 (.int .i64 a) (.int .i64 b)).run Tryz.prog w = .ok (a==b) w:=by
  intro a b
  simp[Op.equalIn]
 unfold Op.equalIn
 simp[show List.range' 0 2=[0,1]from rfl,part,isAgg,h3]
 obtain⟨a0,a1⟩:=x
 obtain⟨c0,c1⟩:=y
 by_cases e0:a0=c0<;>by_cases e1:a1=c1<;>simp[e0,e1,h3]
theorem Re (b:Bool) (k:eZ) (w:World):(Instr.checkKey b 10000 145 (lC k)).run Tryz.prog w = .ok () w:=by
 have key:∀m:Nat,(Instr.checkKey b (m+2) 145 (lC k)).run Tryz.prog w = .ok () w:=by
  intro m
  simp[Instr.checkKey,lC,part,isAgg,show List.range' 0 2=[0,1]from rfl]
 exact key 9998
theorem Jf:FE Tryz.prog 145 lC:=LW Tryz.underlying145 Re (fun _ _=>rfl) (fun a b w=>Sc a b 9998 w) (fun k=>by
 have key:∀m:Nat,Instr.sameBits (m+2) (lC k) (lC k)=true:=fun m=>by simp[Instr.sameBits,lC]
 exact key 9998)
theorem lX (u0:Value) (h0:one u0=true) (init:Array Value) (h:init.size=1*1):Instr.fill (fun i=>some (i*1,1)) init [(0,u0)]=some [u0].toArray:=by
 obtain⟨l⟩:=init
 match l,h with
 | [z0],_=>simp[Instr.fill,gK h0]
theorem uZ (u0 u1:Value) (init:Array Value) (h:init.size=1*2):Instr.fill (fun i=>some (i*2,2)) init [(0,.agg #[u0,u1])]=some [u0,u1].toArray:=by
 obtain⟨l⟩:=init
 match l,h with
 | [z0,z1],_=>simp[Instr.fill,Value.cells]
theorem KD (u0 u1:Value) (h0:one u0=true) (h1:one u1=true) (init:Array Value) (h:init.size=2*1):Instr.fill (fun i=>some (i*1,1)) init [(0,u0),(1,u1)]=some [u0,u1].toArray:=by
 obtain⟨l⟩:=init
 match l,h with
 | [z0,z1],_=>simp[Instr.fill,gK h0,gK h1]
theorem RG (u0 u1 u2 u3 u4 u5 u6 u7 u8 u9 u10 u11:Value) (init:Array Value) (h:init.size=2*6):Instr.fill (fun i=>some (i*6,6)) init [(0,.agg #[u0,u1,u2,u3,u4,u5]),(1,.agg #[u6,u7,u8,u9,u10,u11])]=some [u0,u1,u2,u3,u4,u5,u6,u7,u8,u9,u10,u11].toArray:=by
 obtain⟨l⟩:=init
 match l,h with
 | [z0,z1,z2,z3,z4,z5,z6,z7,z8,z9,z10,z11],_=>simp[Instr.fill,Value.cells]
theorem RH (u0 u1 u2 u3 u4 u5:Value) (init:Array Value) (h:init.size=3*2):Instr.fill (fun i=>some (i*2,2)) init [(0,.agg #[u0,u1]),(1,.agg #[u2,u3]),(2,.agg #[u4,u5])]=some [u0,u1,u2,u3,u4,u5].toArray:=by
 obtain⟨l⟩:=init
 match l,h with
 | [z0,z1,z2,z3,z4,z5],_=>simp[Instr.fill,Value.cells]
end
section
def uR (p0:Int) (a2:Bool):Option (Int):=
 if a2=true then(some (-1:Int))else(if p0<=(17:Int)then(some (0:Int))else(if p0<=(29:Int)then(some (1:Int))else(if p0<=(42:Int)then(some (2:Int))else(some (3:Int)))))
def tJ (U:Nat) (p0:Int):Option (Int):=
 if p0<(1:Int)then(uR p0 (true))else(uR p0 (decide ((43:Int)<p0)))
theorem Uy:aO Tryz.prog 152:=Tryz.call152
theorem JC (U:Nat) {p0:Int} (r:Int) (h:tJ U p0=some r):
  aT Tryz.prog 152 #[vI (p0)] [] (fun x:Unit=>vI (r)) (fun x l=>l) (fun _ l=>l):=by
 refine aT.of Tryz.func152 rfl Tryz.ntmps152 rfl fun c=>?_
 refine sqR<|qkAsg rfl<|dtN<|aI<|aN<|aI<|midU (fun a2=>uR p0 a2=some r) (fun a2 b3=>[(0,vI (p0)),(3,vB (a2))]) (fun a2 b3=>[]) ?_ ?_
 ·refine aM<|qkMove rfl<|qkLss rfl<|qkMove rfl ?_
  refine Cv h rfl (fun _ h=>?_) fun _ h=>?_
  ·refine gdSkip rfl<|gdSkip rfl<|qkPkT rfl<|qkAsg rfl<|dtN ?_
   exact jV (true) () h SF rfl
  refine gyMove rfl<|aR rfl (uX rfl rfl) rfl<|qkPkF rfl<|qkAsg rfl<|dtN ?_
  exact jV (decide ((43:Int)<p0)) () h SF rfl
 intro a2 b3 h
 refine As h rfl (fun _ h=>?_) fun _ h=>?_
 ·refine sqR<|qkAsg rfl<|dtN<|aP<|bK<|aH ?_
  cases h
  exact lI rfl
 refine sqR<|qkMove rfl<|aB (yM rfl rfl) rfl<|qkAsg rfl<|dtN ?_
 refine eB h rfl (fun h=>?_) fun h=>?_
 ·refine sqR<|qkAsg rfl<|dtN<|aP<|bK<|aH ?_
  cases h
  exact lI rfl
 refine sqR<|qkMove rfl<|aB (yM rfl rfl) rfl<|qkAsg rfl<|dtN ?_
 refine eB h rfl (fun h=>?_) fun h=>?_
 ·refine sqR<|qkAsg rfl<|dtN<|aP<|bK<|aH ?_
  cases h
  exact lI rfl
 refine sqR<|qkMove rfl<|aB (yM rfl rfl) rfl<|qkAsg rfl<|dtN ?_
 refine eB h rfl (fun h=>?_) fun h=>?_
 ·refine sqR<|qkAsg rfl<|dtN<|aP<|bK<|aH ?_
  cases h
  exact lI rfl
 refine cU<|inT<|sqR<|qkAsg rfl<|dtN<|aP ?_
 cases h
 exact lI rfl
end
section
def A_  (a5:Unit):Option (Int):=
 some (-1:Int)
def jJ (U:Nat) (p0:eD) (a10:eZ) (ag9:gO->Option (Int)):Option (Int):=
 if a10.1<(List.length p0:Int)then(ck (0<=a10.1∧a10.1<(List.length p0:Int)) (Option.bind (tJ U ((at' p0 a10.1).1)) fun r15=>(if r15<(0:Int)then(some (-1:Int))else(if(wI .i64 (a10.2+(wI .i64 (r15 - (1:Int)))))=(0:Int)then(some (wI .i64 (a10.1+(1:Int))))else(ag9 ((wI .i64 (a10.1+(1:Int))),(wI .i64 (a10.2+(wI .i64 (r15 - (1:Int)))))))))))else(A_  (()))
def xR (U:Nat) (p0:eD) (p1:Int) (a2:Bool):Option (Int):=
 if a2=true then(some (-1:Int))else(bE (jJ U p0) U (p1,(1:Int)))
def zQ (U:Nat) (p0:eD) (p1:Int):Option (Int):=
 if p1<(0:Int)then(xR U p0 p1 (true))else(xR U p0 p1 (decide ((List.length p0:Int)<=p1)))
theorem Uo:aO Tryz.prog 126:=Tryz.call126
theorem Na (U:Nat) {p0:eD} {p1:Int} (v0:Value) (r:Int) (h:zQ U p0 p1=some r):
  aT Tryz.prog 126 #[v0,vI (p1)] [Sl aV v0 p0] (fun x:Unit=>vI (r)) (fun x l=>l) (fun _ l=>l):=by
 refine aT.of Tryz.func126 rfl Tryz.ntmps126 rfl fun c=>?_
 refine sqR<|qkAsg rfl<|dtN<|aI<|aI<|midU (fun a2=>xR U p0 p1 a2=some r) (fun a2 b3=>[(0,v0),(1,vI (p1)),(14,vB (a2))]) (fun a2 b3=>[]) ?_ ?_
 ·refine aM<|qkMove rfl<|qkLss rfl<|qkMove rfl ?_
  refine Cv h rfl (fun _ h=>?_) fun _ h=>?_
  ·refine gdSkip rfl<|gdSkip rfl<|gdSkip rfl<|gdSkip rfl<|qkPkT rfl<|dtN ?_
   exact jV (true) () h SF rfl
  refine gyMove rfl<|gyMove rfl<|aR rfl (fR rfl (aC.fact 0 rfl) rfl) rfl<|aR rfl (FM rfl rfl) rfl<|qkPkF rfl<|dtN ?_
  exact jV (decide ((List.length p0:Int)<=p1)) () h SF rfl
 intro a2 b3 h
 refine As h rfl (fun _ h=>?_) fun _ h=>?_
 ·refine sqR<|qkAsg rfl<|dtN<|aP<|aH ?_
  cases h
  exact lI rfl
 refine cI<|aI<|midU (fun a5=>A_  a5=some r) (fun a5 b6=>[]) (fun a5 b6=>[]) ?_ ?_
 ·refine sqR<|qkAsg rfl<|dtN<|aN<|loopL (jJ U p0) (fun a10 b11=>[(0,v0),(1,vI (a10.1)),(5,vI (a10.2))]) (fun a10 b11=>[]) (p1,(1:Int)) () h SF (aQ.refl _) ?_
  intro k12 a10 b11 h
  refine aI<|sqR<|qkMove rfl<|qkMove rfl<|qkLen (aC.fact 0 rfl) rfl<|qkLss rfl<|dtN ?_
  refine eB h rfl (fun h=>?_) fun h=>?_
  ·refine cI<|aI<|aN<|sqR<|qkMove rfl<|qkMove rfl<|ckE h fun j14 h=>aB (aY rfl rfl (aC.fact 0 rfl) rfl rfl j14) rfl<|aB (mX rfl rfl rfl rfl rfl) rfl<|aB (pA rfl (aC.fact 0 rfl) rfl rfl rfl zB j14) rfl<|bnE h fun r15 w16 h=>aF (aJ.callQ Uy (JC U  r15 w16) rfl .nil) rfl fun x17=>qkAsg rfl<|dtN<|aI<|sqR<|qkMove rfl<|qkLss rfl<|dtN ?_
   refine eB h rfl (fun h=>?_) fun h=>?_
   ·refine sqR<|qkAsg rfl<|dtN<|aP<|aH<|bK<|aH<|aH<|bK<|aH ?_
    cases h
    exact lI rfl
   refine cI<|sqR<|qkMove rfl<|qkMove rfl<|aB (pR rfl rfl) rfl<|qkAdd rfl<|qkAsg rfl<|dtN<|sqR<|qkMove rfl<|qkEql rfl<|dtN ?_
   refine eB h rfl (fun h=>?_) fun h=>?_
   ·refine sqR<|qkMove rfl<|qkAdd rfl<|qkAsg rfl<|dtN<|aP<|bK<|aH<|aH<|bK<|aH ?_
    cases h
    exact lI rfl
   refine cU<|inT<|aM<|qkMove rfl<|qkAdd rfl<|qkAsg rfl<|dtN ?_
   exact yF ((wI .i64 (a10.1+(1:Int))),(wI .i64 (a10.2+(wI .i64 (r15 - (1:Int)))))) () h SF rfl
  refine vT ?_
  exact jV () (()) h SF rfl
 intro a5 b6 h
 unfold A_ at h
 refine sqR<|qkAsg rfl<|dtN<|aP ?_
 cases h
 exact lI rfl
end
section
def fU (U:Nat) (p0:Bool):Option (Int):=
 if p0=true then(some (1:Int))else(some (0:Int))
theorem uJ:aO Tryz.prog 175:=Tryz.call175
theorem jB (U:Nat) {p0:Bool} (r:Int) (h:fU U p0=some r):
  aT Tryz.prog 175 #[vB (p0)] [] (fun x:Unit=>vI (r)) (fun x l=>l) (fun _ l=>l):=by
 refine aT.of Tryz.func175 rfl Tryz.ntmps175 rfl fun c=>?_
 refine sqR<|qkAsg rfl<|dtN<|aI<|sqR<|qkMove rfl<|dtN ?_
 refine As h rfl (fun _ h=>?_) fun _ h=>?_
 ·refine sqR<|qkAsg rfl<|dtN<|aP<|aH ?_
  cases h
  exact lI rfl
 refine cI<|sqR<|qkAsg rfl<|dtN<|aP ?_
 cases h
 exact lI rfl
end
section
def pT (U:Nat) (p0:PV) (p1:Int) (p2:Int) (p3:Int):Option (Int):=
 if p1=(6:Int)then(some (List.length p0.2.1.1:Int))else(if p1=(7:Int)then(some (p0.2.2.1))else(if p1=(8:Int)then(ck (0<=p2∧p2<(List.length p0.2.1.1:Int)) (some (at' p0.2.1.1 p2)))else(if p1=(9:Int)then(ck (0<=p2∧p2<(List.length p0.2.1.2:Int)) (some (List.length (at' p0.2.1.2 p2):Int)))else(if p1=(10:Int)then(Option.bind (fU U (decide (p2=(0:Int)))) fun r8=>(some (r8)))else(if p1=(11:Int)then(some (p3))else(ck (0<=p2∧p2<(List.length p0.2.1.2:Int)) (ck (0<=p3∧p3<(List.length (at' p0.2.1.2 p2):Int)) (if p1=(13:Int)then(ck (0<=((at' (at' p0.2.1.2 p2) p3).1)∧((at' (at' p0.2.1.2 p2) p3).1)<(List.length p0.2.1.1:Int)) (some (at' p0.2.1.1 ((at' (at' p0.2.1.2 p2) p3).1))))else(if p1=(14:Int)then(ck (0<=((at' (at' p0.2.1.2 p2) p3).1)∧((at' (at' p0.2.1.2 p2) p3).1)<(List.length p0.2.1.2:Int)) (some (List.length (at' p0.2.1.2 ((at' (at' p0.2.1.2 p2) p3).1)):Int)))else(if p1=(15:Int)then(Option.bind (fU U (decide (((at' (at' p0.2.1.2 p2) p3).1)=(0:Int)))) fun r20=>(some (r20)))else(if p1=(16:Int)then(some ((at' (at' p0.2.1.2 p2) p3).2))else(ck (0<=p2∧p2<(List.length p0.2.2.2:Int)) (ck (0<=p3∧p3<(List.length (at' p0.2.2.2 p2):Int)) (some (at' (at' p0.2.2.2 p2) p3)))))))))))))))
theorem UD:aO Tryz.prog 174:=Tryz.call174
theorem AT (U:Nat) {p0:PV} {p1:Int} {p2:Int} {p3:Int} (bx0:Nat)  (v1:Value)  (v2:Value)  (v3:Value)  (v4:Value)  (z5:mB)  (v6:Value)  (z7:pJ) (r:Int) (h:pT U p0 p1 p2 p3=some r):
  aT Tryz.prog 174 #[vP bx0,vI (p1),vI (p2),vI (p3)] [bM bx0 [vS (p0.1.1),v1,v2,v3,v4,vI (p0.2.2.1),v6] 178,Sl aG v1 p0.1.2.1,Sl aE v2 p0.1.2.2,Sl bD v3 p0.2.1.1,S2 aV v4 z5 p0.2.1.2,S2 bD v6 z7 p0.2.2.2] (fun x:Unit=>vI (r)) (fun x l=>l) (fun _ l=>l):=by
 refine aT.of Tryz.func174 rfl Tryz.ntmps174 rfl fun c=>?_
 refine sqR<|qkAsg rfl<|dtN<|aI<|sqR<|qkMove rfl<|dtN<|aN<|sqR<|qkEql rfl<|qkAsg rfl<|dtN ?_
 refine eB h rfl (fun h=>?_) fun h=>?_
 ·refine sqR<|qkMove rfl<|aB (bN rfl) rfl<|qkFld rfl<|qkFld rfl<|aB (cV rfl (aC.fact 0 rfl) rfl rfl rfl) rfl<|qkLen (aC.fact 3 rfl) rfl<|qkAsg rfl<|dtN<|aP<|bK<|aH ?_
  cases h
  exact lI rfl
 refine sqR<|qkEql rfl<|qkAsg rfl<|dtN ?_
 refine eB h rfl (fun h=>?_) fun h=>?_
 ·refine sqR<|qkMove rfl<|aB (bN rfl) rfl<|qkFld rfl<|aB (cV rfl (aC.fact 0 rfl) rfl rfl rfl) rfl<|qkAsg rfl<|dtN<|aP<|bK<|aH ?_
  cases h
  exact lI rfl
 refine sqR<|qkEql rfl<|qkAsg rfl<|dtN ?_
 refine eB h rfl (fun h=>?_) fun h=>?_
 ·refine sqR<|qkMove rfl<|aB (bN rfl) rfl<|qkFld rfl<|qkFld rfl<|aB (cV rfl (aC.fact 0 rfl) rfl rfl rfl) rfl<|qkMove rfl<|ckE h fun j4 h=>aB (aY rfl rfl (aC.fact 3 rfl) rfl rfl j4) rfl<|aB (bT rfl (aC.fact 3 rfl) rfl rfl rfl dO j4) rfl<|qkAsg rfl<|dtN<|aP<|bK<|aH ?_
  cases h
  exact lI rfl
 refine sqR<|qkEql rfl<|qkAsg rfl<|dtN ?_
 refine eB h rfl (fun h=>?_) fun h=>?_
 ·refine sqR<|qkMove rfl<|aB (bN rfl) rfl<|qkFld rfl<|qkFld rfl<|aB (cV rfl (aC.fact 0 rfl) rfl rfl rfl) rfl<|qkMove rfl<|ckE h fun j6 h=>aB (cK rfl rfl (aC.fact 4 rfl) rfl rfl j6) rfl<|aB (cJ rfl (aC.fact 4 rfl) rfl rfl j6) rfl<|aB (fR rfl (aC.el (aC.fact 4 rfl) j6.1 j6.2) rfl) rfl<|qkAsg rfl<|dtN<|aP<|bK<|aH ?_
  cases h
  exact lI rfl
 refine sqR<|qkEql rfl<|qkAsg rfl<|dtN ?_
 refine eB h rfl (fun h=>?_) fun h=>?_
 ·refine sqR<|qkMove rfl<|qkEql rfl<|bnE h fun r8 w9 h=>aF (aJ.callQ uJ (jB U  r8 w9) rfl .nil) rfl fun x10=>qkAsg rfl<|dtN<|aP<|bK<|aH ?_
  cases h
  exact lI rfl
 refine sqR<|qkEql rfl<|qkAsg rfl<|dtN ?_
 refine eB h rfl (fun h=>?_) fun h=>?_
 ·refine sqR<|qkMove rfl<|qkAsg rfl<|dtN<|aP<|bK<|aH ?_
  cases h
  exact lI rfl
 refine cU<|inT<|sqR<|qkMove rfl<|aB (bN rfl) rfl<|qkFld rfl<|qkFld rfl<|aB (cV rfl (aC.fact 0 rfl) rfl rfl rfl) rfl<|qkMove rfl<|ckE h fun j12 h=>aB (cK rfl rfl (aC.fact 4 rfl) rfl rfl j12) rfl<|aB (cJ rfl (aC.fact 4 rfl) rfl rfl j12) rfl<|qkMove rfl<|ckE h fun j13 h=>aB (aY rfl rfl (aC.el (aC.fact 4 rfl) j12.1 j12.2) rfl rfl j13) rfl<|aB (fL (cs:=[vI ((at' (at' p0.2.1.2 p2) p3).1),vI ((at' (at' p0.2.1.2 p2) p3).2)]) rfl (aC.el (aC.fact 4 rfl) j12.1 j12.2) bJ rfl rfl rfl rfl j13) rfl<|aF (aJ.alloc (cs:=LN) rfl rfl) rfl fun b14=>bH 0 (vs:=[vI ((at' (at' p0.2.1.2 p2) p3).1),vI ((at' (at' p0.2.1.2 p2) p3).2)]) rfl rfl rfl rfl rfl rfl<|dtN<|aI<|sqR<|qkMove rfl<|dtN<|aN<|sqR<|qkEql rfl<|qkAsg rfl<|dtN ?_
 refine eB h rfl (fun h=>?_) fun h=>?_
 ·refine aI ?_
  refine JR.start [0,1,3,7,15,0,32,127,255,511] 7 mixedOrders (by decide +kernel) ?_
  refine JR.open (by exact rfl) ?_
  refine jkMove rfl<|jqN rfl (bN rfl)<|jkFld rfl<|jkFld rfl<|bG rfl .nil (mJ 0 rfl) (cV rfl (aC.fact 0 rfl) rfl rfl rfl) aK.z<|jkFld rfl<|jkLd 0 rfl<|bO 7 rfl rfl<|ckE h fun j16 h=>aB (aY rfl rfl (aC.fact 3 rfl) rfl rfl j16) rfl<|aB (bT rfl (aC.fact 3 rfl) rfl rfl rfl dO j16) rfl<|qkAsg rfl<|dtN<|aP<|bK<|aH ?_
  cases h
  exact tV rfl
 refine sqR<|qkEql rfl<|qkAsg rfl<|dtN ?_
 refine eB h rfl (fun h=>?_) fun h=>?_
 ·refine aI ?_
  refine JR.start [0,1,3,7,15,0,32,127,255,511,1023] 7 mixedOrders (by decide +kernel) ?_
  refine JR.open (by exact rfl) ?_
  refine jkMove rfl<|jqN rfl (bN rfl)<|jkFld rfl<|jkFld rfl<|bG rfl .nil (mJ 0 rfl) (cV rfl (aC.fact 0 rfl) rfl rfl rfl) aK.z<|jkFld rfl<|jkLd 0 rfl<|bO 7 rfl rfl<|ckE h fun j18 h=>aB (cK rfl rfl (aC.fact 4 rfl) rfl rfl j18) rfl<|aB (cJ rfl (aC.fact 4 rfl) rfl rfl j18) rfl<|aB (fR rfl (aC.el (aC.fact 4 rfl) j18.1 j18.2) rfl) rfl<|qkAsg rfl<|dtN<|aP<|bK<|aH ?_
  cases h
  exact tV rfl
 refine sqR<|qkEql rfl<|qkAsg rfl<|dtN ?_
 refine eB h rfl (fun h=>?_) fun h=>?_
 ·refine sqR<|qkFld rfl<|qkLd 0 rfl<|qkEql rfl<|bnE h fun r20 w21 h=>aF (aJ.callQ uJ (jB U  r20 w21) rfl .nil) rfl fun x22=>qkAsg rfl<|dtN<|aP<|bK<|aH ?_
  cases h
  exact tV rfl
 refine sqR<|qkEql rfl<|qkAsg rfl<|dtN ?_
 refine eB h rfl (fun h=>?_) fun h=>?_
 ·refine sqR<|qkFld rfl<|qkLd 0 rfl<|qkAsg rfl<|dtN<|aP<|bK<|aH ?_
  cases h
  exact tV rfl
 refine cU<|inT<|sqR<|qkMove rfl<|aB (bN rfl) rfl<|qkFld rfl<|aB (cV rfl (aC.fact 0 rfl) rfl rfl rfl) rfl<|qkMove rfl<|ckE h fun j24 h=>aB (cK rfl rfl (aC.fact 5 rfl) rfl rfl j24) rfl<|aB (cJ rfl (aC.fact 5 rfl) rfl rfl j24) rfl<|qkMove rfl<|ckE h fun j25 h=>aB (aY rfl rfl (aC.el (aC.fact 5 rfl) j24.1 j24.2) rfl rfl j25) rfl<|aB (bT rfl (aC.el (aC.fact 5 rfl) j24.1 j24.2) rfl rfl rfl dO j25) rfl<|qkAsg rfl<|dtN<|aP ?_
 cases h
 exact tV rfl
end
section
def jY (U:Nat) (p0:JE) (p1:eZ) (p2:Int):Option (Int):=
 if p1.1=(1:Int)then(some (p1.2))else(if p1.1=(2:Int)then(some (1:Int))else(if p1.1=(3:Int)then(some (0:Int))else(if p1.1=(4:Int)then(some (-1:Int))else(if p1.1=(5:Int)then(ck (0<=p0.2.2.1∧p0.2.2.1<(List.length p0.2.1:Int)) (ck (0<=p1.2∧p1.2<(List.length (at' p0.2.1 p0.2.2.1):Int)) (some (at' (at' p0.2.1 p0.2.2.1) p1.2))))else(if p1.1=(12:Int)then(ck (0<=p0.2.2.1∧p0.2.2.1<(List.length p0.1.2.1.2:Int)) (ck (0<=p2∧p2<(List.length (at' p0.1.2.1.2 p0.2.2.1):Int)) (ck (0<=((at' (at' p0.1.2.1.2 p0.2.2.1) p2).1)∧((at' (at' p0.1.2.1.2 p0.2.2.1) p2).1)<(List.length p0.2.1:Int)) (ck (0<=p1.2∧p1.2<(List.length (at' p0.2.1 ((at' (at' p0.1.2.1.2 p0.2.2.1) p2).1)):Int)) (some (at' (at' p0.2.1 ((at' (at' p0.1.2.1.2 p0.2.2.1) p2).1)) p1.2))))))else(Option.bind (pT U ((((p0.1.1.1,p0.1.1.2.1,p0.1.1.2.2)),((p0.1.2.1.1,p0.1.2.1.2)),p0.1.2.2.1,p0.1.2.2.2)) p1.1 p0.2.2.1 p2) fun r14=>(some (r14))))))))
theorem UA:aO Tryz.prog 167:=Tryz.call167
theorem BH (U:Nat) {p0:JE} {p1:eZ} {p2:Int} (bx0:Nat)  (bx1:Nat)  (v2:Value)  (v3:Value)  (v4:Value)  (v5:Value)  (z6:mB)  (v7:Value)  (z8:pJ)  (v9:Value)  (z10:pJ)  (v11:Value) (r:Int) (h:jY U p0 p1 p2=some r):
  aT Tryz.prog 167 #[vP bx0,Value.agg #[vI (p1.1),vI (p1.2)],vI (p2)] [bM bx0 [vP bx1,v9,vI (p0.2.2.1),v11] 218,bM bx1 [vS (p0.1.1.1),v2,v3,v4,v5,vI (p0.1.2.2.1),v7] 178,Sl aG v2 p0.1.1.2.1,Sl aE v3 p0.1.1.2.2,Sl bD v4 p0.1.2.1.1,S2 aV v5 z6 p0.1.2.1.2,S2 bD v7 z8 p0.1.2.2.2,S2 bD v9 z10 p0.2.1,Sl aV v11 p0.2.2.2] (fun x:Unit=>vI (r)) (fun x l=>l) (fun _ l=>l):=by
 refine aT.of Tryz.func167 rfl Tryz.ntmps167 rfl fun c=>?_
 refine sqR<|aF (aJ.box (cs:=[vI (p1.1),vI (p1.2)]) rfl rfl) rfl fun b1=>qkAsg rfl<|dtN<|aI<|sqR<|qkFld rfl<|qkLd 0 rfl<|dtN<|aN<|sqR<|qkEql rfl<|qkAsg rfl<|dtN ?_
 refine eB h rfl (fun h=>?_) fun h=>?_
 ·refine sqR<|qkFld rfl<|qkLd 0 rfl<|qkAsg rfl<|dtN<|aP<|bK<|aH ?_
  cases h
  exact tV rfl
 refine sqR<|qkEql rfl<|qkAsg rfl<|dtN ?_
 refine eB h rfl (fun h=>?_) fun h=>?_
 ·refine sqR<|qkAsg rfl<|dtN<|aP<|bK<|aH ?_
  cases h
  exact tV rfl
 refine sqR<|qkEql rfl<|qkAsg rfl<|dtN ?_
 refine eB h rfl (fun h=>?_) fun h=>?_
 ·refine sqR<|qkAsg rfl<|dtN<|aP<|bK<|aH ?_
  cases h
  exact tV rfl
 refine sqR<|qkEql rfl<|qkAsg rfl<|dtN ?_
 refine eB h rfl (fun h=>?_) fun h=>?_
 ·refine sqR<|qkAsg rfl<|dtN<|aP<|bK<|aH ?_
  cases h
  exact tV rfl
 refine sqR<|qkEql rfl<|qkAsg rfl<|dtN ?_
 refine eB h rfl (fun h=>?_) fun h=>?_
 ·refine aI ?_
  refine JR.start [0,1,3,7,0,16,48,112,255,511,0,1024,4095,8191,16383] 12 mixedOrders (by decide +kernel) ?_
  refine JR.open (by exact rfl) ?_
  refine jkMove rfl<|jqN rfl (bN rfl)<|jkFld rfl<|bG rfl .nil (mJ 0 rfl) (cV rfl (aC.fact 0 rfl) rfl rfl rfl) aK.z<|jkMove rfl<|jqN rfl (bN rfl)<|jkFld rfl<|bG rfl .nil (mJ 0 rfl) (cV rfl (aC.fact 0 rfl) rfl rfl rfl) aK.z<|ckE h fun j7 h=>bG rfl .nil (mJ 7 rfl) (cK rfl rfl (aC.fact 0 rfl) rfl rfl j7) aK.z<|bG rfl .nil (mJ 7 rfl) (cJ rfl (aC.fact 0 rfl) rfl rfl j7) aK.z<|jkFld rfl<|jkLd 0 rfl<|bO 12 rfl rfl<|ckE h fun j8 h=>aB (aY rfl rfl (aC.el (aC.fact 7 rfl) j7.1 j7.2) rfl rfl j8) rfl<|aB (bT rfl (aC.el (aC.fact 7 rfl) j7.1 j7.2) rfl rfl rfl dO j8) rfl<|qkAsg rfl<|dtN<|aP<|bK<|aH ?_
  cases h
  exact tV rfl
 refine sqR<|qkEql rfl<|qkAsg rfl<|dtN ?_
 refine eB h rfl (fun h=>?_) fun h=>?_
 ·refine aI ?_
  refine JR.start [0,1,3,7,0,16,48,112,240,496,1008,2032,0,4096,12288,28672,65520,131056,0,524272,1048560,2097136,4194303,8388607,0,16777216,67108863,134217727,268435455] 26 mixedOrders (by decide +kernel) ?_
  refine JR.open (by exact rfl) ?_
  refine jkMove rfl<|jqN rfl (bN rfl)<|jkFld rfl<|bG rfl .nil (mJ 0 rfl) (cV rfl (aC.fact 0 rfl) rfl rfl rfl) aK.z<|jkMove rfl<|jqN rfl (bN rfl)<|jkFld rfl<|bG rfl .nil (mJ 0 rfl) (cV rfl (aC.fact 0 rfl) rfl rfl rfl) aK.z<|jqN rfl (bN rfl)<|jkFld rfl<|jkFld rfl<|bG rfl .nil (mJ 1 rfl) (cV rfl (aC.fact 0 rfl) rfl rfl rfl) aK.z<|jkMove rfl<|jqN rfl (bN rfl)<|jkFld rfl<|bG rfl .nil (mJ 0 rfl) (cV rfl (aC.fact 0 rfl) rfl rfl rfl) aK.z<|ckE h fun j10 h=>bG rfl .nil (mJ 5 rfl) (cK rfl rfl (aC.fact 0 rfl) rfl rfl j10) aK.z<|bG rfl .nil (mJ 5 rfl) (cJ rfl (aC.fact 0 rfl) rfl rfl j10) aK.z<|jkMove rfl<|ckE h fun j11 h=>bG rfl .nil (mJ 5 rfl) (aY rfl rfl (aC.el (aC.fact 0 rfl) j10.1 j10.2) rfl rfl j11) aK.z<|jqN rfl (mX rfl rfl rfl rfl rfl)<|bG rfl .nil (mJ 5 rfl) (pA rfl (aC.el (aC.fact 0 rfl) j10.1 j10.2) rfl rfl rfl zB j11) aK.z<|ckE h fun j12 h=>bG rfl .nil (mJ 7 rfl) (cK rfl rfl (aC.fact 0 rfl) rfl rfl j12) aK.z<|bG rfl .nil (mJ 7 rfl) (cJ rfl (aC.fact 0 rfl) rfl rfl j12) aK.z<|jkFld rfl<|jkLd 0 rfl<|bO 26 rfl rfl<|ckE h fun j13 h=>aB (aY rfl rfl (aC.el (aC.fact 7 rfl) j12.1 j12.2) rfl rfl j13) rfl<|aB (bT rfl (aC.el (aC.fact 7 rfl) j12.1 j12.2) rfl rfl rfl dO j13) rfl<|qkAsg rfl<|dtN<|aP<|bK<|aH ?_
  cases h
  exact tV rfl
 refine cU<|inT<|aI ?_
 refine JR.start [0,1,3,7,0,16,0,64,192,448,0,2047,4095] 11 mixedOrders (by decide +kernel) ?_
 refine JR.open (by exact rfl) ?_
 refine jkMove rfl<|jqN rfl (bN rfl)<|jkFld rfl<|bG rfl .nil (mJ 0 rfl) (cV rfl (aC.fact 0 rfl) rfl rfl rfl) aK.z<|jkFld rfl<|jkLd 0 rfl<|jkMove rfl<|jqN rfl (bN rfl)<|jkFld rfl<|bG rfl .nil (mJ 0 rfl) (cV rfl (aC.fact 0 rfl) rfl rfl rfl) aK.z<|jkMove rfl<|bO 11 rfl rfl<|bnE h fun r14 w15 h=>aF (aJ.callQ UD (AT U bx1 v2 v3 v4 v5 z6 v7 z8 r14 w15) rfl (oI [1,2,3,4,5,6] rfl)) rfl fun x16=>qkAsg rfl<|dtN<|aP ?_
 cases h
 exact tV rfl
end
section
def wE (U:Nat) (p0:Int) (p1:Int):Option (Int):=
 if p0=(18:Int)then(some (wI .i64 (0 - p1)))else(Option.bind (fU U (decide (p1=(0:Int)))) fun r2=>(some (r2)))
theorem UB:aO Tryz.prog 168:=Tryz.call168
theorem Jy (U:Nat) {p0:Int} {p1:Int} (r:Int) (h:wE U p0 p1=some r):
  aT Tryz.prog 168 #[vI (p0),vI (p1)] [] (fun x:Unit=>vI (r)) (fun x l=>l) (fun _ l=>l):=by
 refine aT.of Tryz.func168 rfl Tryz.ntmps168 rfl fun c=>?_
 refine sqR<|qkAsg rfl<|dtN<|aI<|sqR<|qkMove rfl<|qkEql rfl<|dtN ?_
 refine eB h rfl (fun h=>?_) fun h=>?_
 ·refine sqR<|qkMove rfl<|aB (Np rfl) rfl<|qkAsg rfl<|dtN<|aP<|aH ?_
  cases h
  exact lI rfl
 refine cI<|sqR<|qkMove rfl<|qkEql rfl<|bnE h fun r2 w3 h=>aF (aJ.callQ uJ (jB U  r2 w3) rfl .nil) rfl fun x4=>qkAsg rfl<|dtN<|aP ?_
 cases h
 exact lI rfl
end
section
def gG (U:Nat) (p0:Int):Option (Int):=
 some (max (-1073741824:Int) (min p0 (1073741824:Int)))
theorem Bj:aO Tryz.prog 177:=Tryz.call177
theorem kJ (U:Nat) {p0:Int} (r:Int) (h:gG U p0=some r):
  aT Tryz.prog 177 #[vI (p0)] [] (fun x:Unit=>vI (r)) (fun x l=>l) (fun _ l=>l):=by
 refine aT.of Tryz.func177 rfl Tryz.ntmps177 rfl fun c=>?_
 unfold gG at h
 refine sqR<|qkAsg rfl<|dtN<|sqR<|qkMove rfl<|aB (QK rfl rfl) rfl<|aB (HE rfl rfl) rfl<|qkAsg rfl<|dtN<|aP ?_
 cases h
 exact lI rfl
end
section
def nG  (a4:Int):Option (Int):=
 some (a4)
def qH (p0:Int) (p1:Int) (a7:Bool):Option (Int):=
 if a7=true then(nG  (wI .i64 ((wI .i64 (Int.tdiv p0 p1)) - (1:Int))))else(nG  (wI .i64 (Int.tdiv p0 p1)))
def oL (U:Nat) (p0:Int) (p1:Int):Option (Int):=
 if p1=(0:Int)then(some (0:Int))else(ck (p1≠0) (ck (p1≠0) (if(Int.tmod p0 p1)≠(0:Int)then(qH p0 p1 (((decide (p0<(0:Int))) != (decide (p1<(0:Int))))))else(qH p0 p1 (false)))))
theorem NA:aO Tryz.prog 178:=Tryz.call178
theorem Am (U:Nat) {p0:Int} {p1:Int} (r:Int) (h:oL U p0 p1=some r):
  aT Tryz.prog 178 #[vI (p0),vI (p1)] [] (fun x:Unit=>vI (r)) (fun x l=>l) (fun _ l=>l):=by
 refine aT.of Tryz.func178 rfl Tryz.ntmps178 rfl fun c=>?_
 refine sqR<|qkAsg rfl<|dtN<|aI<|sqR<|qkMove rfl<|qkEql rfl<|dtN ?_
 refine eB h rfl (fun h=>?_) fun h=>?_
 ·refine sqR<|qkAsg rfl<|dtN<|aP<|aH ?_
  cases h
  exact lI rfl
 refine cI<|sqR<|qkMove rfl<|qkMove rfl<|ckE h fun j2 h=>aB (QL rfl rfl j2) rfl<|qkAsg rfl<|dtN<|aI<|midU (fun a4=>nG  a4=some r) (fun a4 b5=>[(5,vI (a4))]) (fun a4 b5=>[]) ?_ ?_
 ·refine aI<|midU (fun a7=>qH p0 p1 a7=some r) (fun a7 b8=>[(5,vI (wI .i64 (Int.tdiv p0 p1))),(21,vB (a7))]) (fun a7 b8=>[]) ?_ ?_
  ·refine aM<|qkMove rfl<|qkMove rfl<|ckE h fun j10 h=>aB (Ko rfl rfl j10) rfl<|qkNeq rfl<|qkMove rfl ?_
   refine Cv h rfl (fun _ h=>?_) fun _ h=>?_
   ·refine gyMove rfl<|aR rfl (Kn rfl rfl) rfl<|gyMove rfl<|aR rfl (Kn rfl rfl) rfl<|aR rfl (WE rfl rfl rfl) rfl<|qkPkT rfl<|dtN ?_
    exact jV (((decide (p0<(0:Int))) != (decide (p1<(0:Int))))) () h SF rfl
   refine gdSkip rfl<|gdSkip rfl<|gdSkip rfl<|gdSkip rfl<|gdSkip rfl<|qkPkF rfl<|dtN ?_
   exact jV (false) () h SF rfl
  intro a7 b8 h
  refine As h rfl (fun _ h=>?_) fun _ h=>?_
  ·refine aM<|qkMove rfl<|aB (pR rfl rfl) rfl<|qkAsg rfl<|dtN ?_
   exact jV (wI .i64 ((wI .i64 (Int.tdiv p0 p1)) - (1:Int))) () h SF rfl
  refine cI ?_
  exact jV (wI .i64 (Int.tdiv p0 p1)) () h SF rfl
 intro a4 b5 h
 unfold nG at h
 refine sqR<|qkMove rfl<|qkAsg rfl<|dtN<|aP ?_
 cases h
 exact lI rfl
end
section
def rY (U:Nat) (p0:Int) (p1:Int) (p2:Int):Option (Bool):=
 if p0=(35:Int)then(some (decide (p1=p2)))else(if p0=(36:Int)then(some (decide (p1≠p2)))else(if p0=(37:Int)then(some (decide (p1<p2)))else(if p0=(38:Int)then(some (decide (p1<=p2)))else(if p0=(39:Int)then(some (decide (p2<p1)))else(some (decide (p2<=p1)))))))
theorem UF:aO Tryz.prog 179:=Tryz.call179
theorem ER (U:Nat) {p0:Int} {p1:Int} {p2:Int} (r:Bool) (h:rY U p0 p1 p2=some r):
  aT Tryz.prog 179 #[vI (p0),vI (p1),vI (p2)] [] (fun x:Unit=>vB (r)) (fun x l=>l) (fun _ l=>l):=by
 refine aT.of Tryz.func179 rfl Tryz.ntmps179 rfl fun c=>?_
 refine sqR<|qkAsg rfl<|dtN<|aI<|sqR<|qkMove rfl<|dtN<|aN<|sqR<|qkEql rfl<|qkAsg rfl<|dtN ?_
 refine eB h rfl (fun h=>?_) fun h=>?_
 ·refine sqR<|qkMove rfl<|qkMove rfl<|qkEql rfl<|qkAsg rfl<|dtN<|aP<|bK<|aH ?_
  cases h
  exact lI rfl
 refine sqR<|qkEql rfl<|qkAsg rfl<|dtN ?_
 refine eB h rfl (fun h=>?_) fun h=>?_
 ·refine sqR<|qkMove rfl<|qkMove rfl<|qkNeq rfl<|qkAsg rfl<|dtN<|aP<|bK<|aH ?_
  cases h
  exact lI rfl
 refine sqR<|qkEql rfl<|qkAsg rfl<|dtN ?_
 refine eB h rfl (fun h=>?_) fun h=>?_
 ·refine sqR<|qkMove rfl<|qkMove rfl<|qkLss rfl<|qkAsg rfl<|dtN<|aP<|bK<|aH ?_
  cases h
  exact lI rfl
 refine sqR<|qkEql rfl<|qkAsg rfl<|dtN ?_
 refine eB h rfl (fun h=>?_) fun h=>?_
 ·refine sqR<|qkMove rfl<|qkMove rfl<|aB (yM rfl rfl) rfl<|qkAsg rfl<|dtN<|aP<|bK<|aH ?_
  cases h
  exact lI rfl
 refine sqR<|qkEql rfl<|qkAsg rfl<|dtN ?_
 refine eB h rfl (fun h=>?_) fun h=>?_
 ·refine sqR<|qkMove rfl<|qkMove rfl<|aB (uX rfl rfl) rfl<|qkAsg rfl<|dtN<|aP<|bK<|aH ?_
  cases h
  exact lI rfl
 refine cU<|inT<|sqR<|qkMove rfl<|qkMove rfl<|aB (FM rfl rfl) rfl<|qkAsg rfl<|dtN<|aP ?_
 cases h
 exact lI rfl
end
section
def nE  (a30:Int):Option (Int):=
 some (a30)
def nF  (a41:Int):Option (Int):=
 some (a41)
def uN (U:Nat) (p0:Int) (p1:Int) (p2:Int):Option (Int):=
 if p0=(30:Int)then(Option.bind (gG U (wI .i64 (p1*p2))) fun r2=>(some (r2)))else(if p0=(31:Int)then(Option.bind (oL U p1 p2) fun r6=>(Option.bind (gG U r6) fun r9=>(some (r9))))else(if p0=(32:Int)then(if p2=(0:Int)then(some (0:Int))else(Option.bind (oL U p1 p2) fun r14=>(Option.bind (gG U (wI .i64 (p1 - (wI .i64 (p2*r14))))) fun r17=>(some (r17)))))else(if p0=(33:Int)then(Option.bind (gG U (wI .i64 (p1+p2))) fun r21=>(some (r21)))else(if p0=(34:Int)then(Option.bind (gG U (wI .i64 (p1 - p2))) fun r25=>(some (r25)))else(if p0=(41:Int)then(if p1≠(0:Int)then(Option.bind (fU U (decide (p2≠(0:Int)))) fun r33=>(nE  (r33)))else(Option.bind (fU U false) fun r36=>(nE  (r36))))else(if p0=(42:Int)then(if p1≠(0:Int)then(Option.bind (fU U true) fun r44=>(nF  (r44)))else(Option.bind (fU U (decide (p2≠(0:Int)))) fun r47=>(nF  (r47))))else(Option.bind (rY U p0 p1 p2) fun r50=>(Option.bind (fU U r50) fun r53=>(some (r53))))))))))
theorem UC:aO Tryz.prog 170:=Tryz.call170
theorem Hr (U:Nat) {p0:Int} {p1:Int} {p2:Int} (r:Int) (h:uN U p0 p1 p2=some r):
  aT Tryz.prog 170 #[vI (p0),vI (p1),vI (p2)] [] (fun x:Unit=>vI (r)) (fun x l=>l) (fun _ l=>l):=by
 refine aT.of Tryz.func170 rfl Tryz.ntmps170 rfl fun c=>?_
 refine sqR<|qkAsg rfl<|dtN<|aI<|sqR<|qkMove rfl<|dtN<|aN<|sqR<|qkEql rfl<|qkAsg rfl<|dtN ?_
 refine eB h rfl (fun h=>?_) fun h=>?_
 ·refine sqR<|qkMove rfl<|qkMove rfl<|aB (zG rfl rfl) rfl<|bnE h fun r2 w3 h=>aF (aJ.callQ Bj (kJ U  r2 w3) rfl .nil) rfl fun x4=>qkAsg rfl<|dtN<|aP<|bK<|aH ?_
  cases h
  exact lI rfl
 refine sqR<|qkEql rfl<|qkAsg rfl<|dtN ?_
 refine eB h rfl (fun h=>?_) fun h=>?_
 ·refine sqR<|qkMove rfl<|qkMove rfl<|bnE h fun r6 w7 h=>aF (aJ.callQ NA (Am U  r6 w7) rfl .nil) rfl fun x8=>bnE h fun r9 w10 h=>aF (aJ.callQ Bj (kJ U  r9 w10) rfl .nil) rfl fun x11=>qkAsg rfl<|dtN<|aP<|bK<|aH ?_
  cases h
  exact lI rfl
 refine sqR<|qkEql rfl<|qkAsg rfl<|dtN ?_
 refine eB h rfl (fun h=>?_) fun h=>?_
 ·refine aI<|sqR<|qkMove rfl<|qkEql rfl<|dtN ?_
  refine eB h rfl (fun h=>?_) fun h=>?_
  ·refine sqR<|qkAsg rfl<|dtN<|aP<|aH<|bK<|aH ?_
   cases h
   exact lI rfl
  refine cI<|sqR<|qkMove rfl<|qkMove rfl<|qkMove rfl<|qkMove rfl<|bnE h fun r14 w15 h=>aF (aJ.callQ NA (Am U  r14 w15) rfl .nil) rfl fun x16=>aB (zG rfl rfl) rfl<|aB (pR rfl rfl) rfl<|bnE h fun r17 w18 h=>aF (aJ.callQ Bj (kJ U  r17 w18) rfl .nil) rfl fun x19=>qkAsg rfl<|dtN<|aP<|bK<|aH ?_
  cases h
  exact lI rfl
 refine sqR<|qkEql rfl<|qkAsg rfl<|dtN ?_
 refine eB h rfl (fun h=>?_) fun h=>?_
 ·refine sqR<|qkMove rfl<|qkMove rfl<|qkAdd rfl<|bnE h fun r21 w22 h=>aF (aJ.callQ Bj (kJ U  r21 w22) rfl .nil) rfl fun x23=>qkAsg rfl<|dtN<|aP<|bK<|aH ?_
  cases h
  exact lI rfl
 refine sqR<|qkEql rfl<|qkAsg rfl<|dtN ?_
 refine eB h rfl (fun h=>?_) fun h=>?_
 ·refine sqR<|qkMove rfl<|qkMove rfl<|aB (pR rfl rfl) rfl<|bnE h fun r25 w26 h=>aF (aJ.callQ Bj (kJ U  r25 w26) rfl .nil) rfl fun x27=>qkAsg rfl<|dtN<|aP<|bK<|aH ?_
  cases h
  exact lI rfl
 refine sqR<|qkEql rfl<|qkAsg rfl<|dtN ?_
 refine eB h rfl (fun h=>?_) fun h=>?_
 ·refine aI<|midU (fun a30=>nE  a30=some r) (fun a30 b31=>[(6,vI (a30))]) (fun a30 b31=>[]) ?_ ?_
  ·refine aM<|qkMove rfl<|qkNeq rfl<|qkMove rfl ?_
   refine Cv h rfl (fun _ h=>?_) fun _ h=>?_
   ·refine gyMove rfl<|aR rfl (AF rfl rfl) rfl<|qkPkT rfl<|bnE h fun r33 w34 h=>aF (aJ.callQ uJ (jB U  r33 w34) rfl .nil) rfl fun x35=>qkAsg rfl<|dtN ?_
    exact jV (r33) () h SF rfl
   refine gdSkip rfl<|gdSkip rfl<|qkPkF rfl<|bnE h fun r36 w37 h=>aF (aJ.callQ uJ (jB U  r36 w37) rfl .nil) rfl fun x38=>qkAsg rfl<|dtN ?_
   exact jV (r36) () h SF rfl
  intro a30 b31 h
  unfold nE at h
  refine aP<|bK<|aH ?_
  cases h
  exact lI rfl
 refine sqR<|qkEql rfl<|qkAsg rfl<|dtN ?_
 refine eB h rfl (fun h=>?_) fun h=>?_
 ·refine aI<|midU (fun a41=>nF  a41=some r) (fun a41 b42=>[(6,vI (a41))]) (fun a41 b42=>[]) ?_ ?_
  ·refine aM<|qkMove rfl<|qkNeq rfl<|qkMove rfl ?_
   refine Cv h rfl (fun _ h=>?_) fun _ h=>?_
   ·refine gdSkip rfl<|gdSkip rfl<|qkPkT rfl<|bnE h fun r44 w45 h=>aF (aJ.callQ uJ (jB U  r44 w45) rfl .nil) rfl fun x46=>qkAsg rfl<|dtN ?_
    exact jV (r44) () h SF rfl
   refine gyMove rfl<|aR rfl (AF rfl rfl) rfl<|qkPkF rfl<|bnE h fun r47 w48 h=>aF (aJ.callQ uJ (jB U  r47 w48) rfl .nil) rfl fun x49=>qkAsg rfl<|dtN ?_
   exact jV (r47) () h SF rfl
  intro a41 b42 h
  unfold nF at h
  refine aP<|bK<|aH ?_
  cases h
  exact lI rfl
 refine cU<|inT<|sqR<|qkMove rfl<|qkMove rfl<|qkMove rfl<|bnE h fun r50 w51 h=>aF (aJ.callQ UF (ER U  r50 w51) rfl .nil) rfl fun x52=>bnE h fun r53 w54 h=>aF (aJ.callQ uJ (jB U  r53 w54) rfl .nil) rfl fun x55=>qkAsg rfl<|dtN<|aP ?_
 cases h
 exact lI rfl
end
section
def uK  (a2:Int):Option (Int):=
 some (a2)
def rB (a7:eZ) (ag6:gO->Option (Int)) (a12:Int):Option (Int):=
 ag6 (a12,(wI .i64 (a7.2+(1:Int))))
def oV (p0:aL) (a7:eZ) (ag6:gO->Option (Int)):Option (Int):=
 if a7.2<(List.length p0:Int)then(ck (0<=a7.2∧a7.2<(List.length p0:Int)) (if(at' p0 a7.2)≠(0:Int)then(rB a7 ag6 (wI .i64 (a7.1+(1:Int))))else(rB a7 ag6 (a7.1))))else(uK  (a7.1))
def n_ (U:Nat) (p0:aL):Option (Int):=
 bE (oV p0) U ((0:Int),(0:Int))
theorem IN:aO Tryz.prog 183:=Tryz.call183
theorem zZ (U:Nat) {p0:aL} (v0:Value) (r:Int) (h:n_ U p0=some r):
  aT Tryz.prog 183 #[v0] [Sl bD v0 p0] (fun x:Unit=>vI (r)) (fun x l=>l) (fun _ l=>l):=by
 refine aT.of Tryz.func183 rfl Tryz.ntmps183 rfl fun c=>?_
 unfold n_ at h
 refine sqR<|qkAsg rfl<|dtN<|sqR<|qkAsg rfl<|dtN<|aI<|midU (fun a2=>uK  a2=some r) (fun a2 b3=>[(3,vI (a2))]) (fun a2 b3=>[]) ?_ ?_
 ·refine sqR<|qkMove rfl<|qkLen (aC.fact 0 rfl) rfl<|qkMove rfl<|dtN<|aN<|loopL (oV p0) (fun a7 b8=>[(3,vI (a7.1)),(6,v0),(7,vI (List.length p0:Int)),(8,vI (a7.2))]) (fun a7 b8=>[]) ((0:Int),(0:Int)) () h SF (aQ.refl _) ?_
  intro k9 a7 b8 h
  refine sqR<|qkLss rfl<|dtN<|aI ?_
  refine eB h rfl (fun h=>?_) fun h=>?_
  ·refine cI<|aI<|midU (fun a12=>rB a7 (bE (oV p0) k9) a12=some r) (fun a12 b13=>[(3,vI (a12)),(6,v0),(7,vI (List.length p0:Int)),(8,vI (a7.2))]) (fun a12 b13=>[]) ?_ ?_
   ·refine aN<|sqR<|ckE h fun j14 h=>aB (aY rfl rfl (aC.fact 0 rfl) rfl rfl j14) rfl<|aB (bT rfl (aC.fact 0 rfl) rfl rfl rfl dO j14) rfl<|qkAsg rfl<|dtN<|sqR<|qkMove rfl<|qkNeq rfl<|dtN ?_
    refine eB h rfl (fun h=>?_) fun h=>?_
    ·refine aM<|qkMove rfl<|qkAdd rfl<|qkAsg rfl<|dY<|inT ?_
     exact jV (wI .i64 (a7.1+(1:Int))) () h SF rfl
    refine cU<|inT ?_
    exact jV (a7.1) () h SF rfl
   intro a12 b13 h
   unfold rB at h
   refine aM<|qkAdd rfl<|qkMove rfl<|dtN ?_
   exact yF (a12,(wI .i64 (a7.2+(1:Int)))) () h SF rfl
  refine vT ?_
  exact jV (a7.1) () h SF rfl
 intro a2 b3 h
 unfold uK at h
 refine sqR<|qkMove rfl<|qkAsg rfl<|dtN<|aP ?_
 cases h
 exact lI rfl
end
section
def mT  (a1:Unit):Option (Int):=
 some (-1:Int)
def eH (p0:aL) (g1:Int->Option Bool) (a5:Int) (ag4:(Int)->Option (Int)):Option (Int):=
 if a5<(List.length p0:Int)then(ck (0<=a5∧a5<(List.length p0:Int)) (Option.bind (g1 (at' p0 a5)) fun r10=>(if r10=true then(some (a5))else(ag4 (wI .i64 (a5+(1:Int)))))))else(mT  (()))
def k_ (U:Nat) (p0:aL) (g1:Int->Option Bool):Option (Int):=
 bE (eH p0 g1) U (0:Int)
theorem UG:aO Tryz.prog 184:=Tryz.call184
theorem Cr (U:Nat) {p0:aL} {g1:Int->Option Bool} (f1:FuncId) (cs1:fJ) (Lf:List aS) (hb_g1:aO Tryz.prog f1) (hm_g1:∀(y0:Int) (r:Bool),g1 y0=some r->aT Tryz.prog f1 ([vI (y0)]++cs1).toArray Lf (fun _:Unit=>vB (r)) (fun _ l=>l) (fun _ l=>l)) (v0:Value) (r:Int) (h:k_ U p0 g1=some r):
  aT Tryz.prog 184 #[v0,Value.func (.func f1) #[] (cs1).toArray] ([Sl bD v0 p0]++Lf) (fun x:Unit=>vI (r)) (fun x l=>l) (fun _ l=>l):=by
 refine aT.of Tryz.func184 rfl Tryz.ntmps184 rfl fun c=>?_
 unfold k_ at h
 refine sqR<|qkAsg rfl<|dtN<|aI<|vF (B:=Unit) (fun a1=>mT  a1=some r) (fun a1 b2=>[]) (fun a1 b2=>[]) (fun a1 b2=>([Sl bD v0 p0]++Lf)) ?_ ?_
 ·refine sqR<|qkMove rfl<|qkLen (aC.fact 0 rfl) rfl<|qkMove rfl<|dtN<|aN<|CF (B:=Unit) (eH p0 g1) (fun a5 b6=>[(0,v0),(1,Value.func (.func f1) #[] (cs1).toArray),(7,vI (List.length p0:Int)),(8,vI (a5))]) (fun a5 b6=>[]) (fun a5 b6=>([Sl bD v0 p0]++Lf)) (0:Int) () h SF (aQ.refl _) (aD.refl _ _) ?_
  intro k7 a5 b6 h
  refine sqR<|qkLss rfl<|dtN<|aI ?_
  refine eB h rfl (fun h=>?_) fun h=>?_
  ·refine cI<|aI<|aN<|sqR<|qkMove rfl<|qkAsg rfl<|dtN<|sqR<|qkMove rfl<|qkMove rfl<|qkMove rfl<|ckE h fun j9 h=>aB (aY rfl rfl (aC.fact 0 rfl) rfl rfl j9) rfl<|aB (bT rfl (aC.fact 0 rfl) rfl rfl rfl dO j9) rfl<|bnE h fun r10 w11 h=>aF (pN (vs:=[vI (at' p0 a5)]) (cs:=cs1) hb_g1 rfl (hm_g1 (at' p0 a5) r10 w11) rfl (aD.tail _) (fun _ _=>rfl)) rfl fun x12=>dtN ?_
   refine As h rfl (fun _ h=>?_) fun _ h=>?_
   ·refine sqR<|qkMove rfl<|qkAsg rfl<|dtN<|aP<|bK<|aH<|aH<|bK<|aH ?_
    cases h
    exact lI rfl
   refine cU<|inT<|aM<|qkAdd rfl<|qkMove rfl<|dtN ?_
   exact yF (wI .i64 (a5+(1:Int))) () h SF rfl
  refine vT ?_
  exact jV () (()) h SF rfl
 intro a1 b2 h
 unfold mT at h
 refine sqR<|qkAsg rfl<|dtN<|aP ?_
 cases h
 exact lI rfl
end
section
def mF (U:Nat) (p0:Int):Option (Bool):=
 some (decide (p0≠(0:Int)))
theorem UH:aO Tryz.prog 185:=Tryz.call185
theorem Hs (U:Nat) {p0:Int} (r:Bool) (h:mF U p0=some r):
  aT Tryz.prog 185 #[vI (p0)] [] (fun x:Unit=>vB (r)) (fun x l=>l) (fun _ l=>l):=by
 refine aT.of Tryz.func185 rfl Tryz.ntmps185 rfl fun c=>?_
 unfold mF at h
 refine sqR<|qkAsg rfl<|dtN<|sqR<|qkMove rfl<|qkNeq rfl<|qkAsg rfl<|dtN<|aP ?_
 cases h
 exact lI rfl
end
section
def qU  (a3:eZ):Option gO:=
 some (a3.1,a3.2)
def mN (a9:Int×Int×Int) (ag8:(Int×Int×Int)->Option gO) (a15:eZ):Option gO:=
 ag8 (a15.1,a15.2,(wI .i64 (a9.2.2+(1:Int))))
def qV (p0:aL) (a9:Int×Int×Int) (ag8:(Int×Int×Int)->Option gO):Option gO:=
 if a9.2.2<(List.length p0:Int)then(ck (0<=a9.2.2∧a9.2.2<(List.length p0:Int)) (if a9.1<(at' p0 a9.2.2)then(mN a9 ag8 ((at' p0 a9.2.2),a9.1))else(mN a9 ag8 (a9.1,(max a9.2.1 (at' p0 a9.2.2))))))else(qU  (a9.1,a9.2.1))
def oA (U:Nat) (p0:aL):Option gO:=
 bE (qV p0) U ((-1073741824:Int),(-1073741824:Int),(0:Int))
theorem NB:aO Tryz.prog 186:=Tryz.call186
theorem xA (U:Nat) {p0:aL} (v0:Value) (r:eZ) (h:oA U p0=some r):
  aT Tryz.prog 186 #[v0] [Sl bD v0 p0] (fun x:Unit=>Value.tuple #[vI (r.1),vI (r.2)]) (fun x l=>l) (fun _ l=>l):=by
 refine aT.of Tryz.func186 rfl Tryz.ntmps186 rfl fun c=>?_
 unfold oA at h
 refine sqR<|qkAsg rfl<|qkAsg rfl<|dtN<|sqR<|qkAsg rfl<|qkAsg rfl<|dtN<|aI<|midU (fun a3=>qU  a3=some r) (fun a3 b4=>[(2,vI (a3.1)),(3,vI (a3.2))]) (fun a3 b4=>[]) ?_ ?_
 ·refine sqR<|qkMove rfl<|qkLen (aC.fact 0 rfl) rfl<|qkMove rfl<|dtN<|aN<|loopL (qV p0) (fun a9 b10=>[(2,vI (a9.1)),(3,vI (a9.2.1)),(6,v0),(7,vI (List.length p0:Int)),(8,vI (a9.2.2))]) (fun a9 b10=>[]) ((-1073741824:Int),(-1073741824:Int),(0:Int)) () h SF (aQ.refl _) ?_
  intro k11 a9 b10 h
  refine sqR<|qkLss rfl<|dtN<|aI ?_
  refine eB h rfl (fun h=>?_) fun h=>?_
  ·refine cI<|aI<|midU (fun a15=>mN a9 (bE (qV p0) k11) a15=some r) (fun a15 b16=>[(2,vI (a15.1)),(3,vI (a15.2)),(6,v0),(7,vI (List.length p0:Int)),(8,vI (a9.2.2))]) (fun a15 b16=>[]) ?_ ?_
   ·refine aN<|sqR<|ckE h fun j17 h=>aB (aY rfl rfl (aC.fact 0 rfl) rfl rfl j17) rfl<|aB (bT rfl (aC.fact 0 rfl) rfl rfl rfl dO j17) rfl<|qkAsg rfl<|dtN<|sqR<|qkMove rfl<|qkMove rfl<|aB (uX rfl rfl) rfl<|dtN ?_
    refine eB h rfl (fun h=>?_) fun h=>?_
    ·refine aM<|qkMove rfl<|qkMove rfl<|qkAsg rfl<|qkAsg rfl<|dY<|inT ?_
     exact jV ((at' p0 a9.2.2),a9.1) () h SF rfl
    refine aM<|qkMove rfl<|qkMove rfl<|aB (HE rfl rfl) rfl<|qkAsg rfl<|dY<|inT ?_
    exact jV (a9.1,(max a9.2.1 (at' p0 a9.2.2))) () h SF rfl
   intro a15 b16 h
   unfold mN at h
   refine aM<|qkAdd rfl<|qkMove rfl<|dtN ?_
   exact yF (a15.1,a15.2,(wI .i64 (a9.2.2+(1:Int)))) () h SF rfl
  refine vT ?_
  exact jV (a9.1,a9.2.1) () h SF rfl
 intro a3 b4 h
 unfold qU at h
 refine sqR<|qkMove rfl<|qkMove rfl<|qkAsg rfl<|qkAsg rfl<|dtN<|aP ?_
 cases h
 exact iZ () rfl rfl (RV.tmp rfl) (RV.tmp rfl) (aQ.refl _) aD.nil
end
section
def sB  (a1:Unit):Option (Int):=
 some (-1:Int)
def hZ (p0:aL) (p1:Int) (a5:Int) (ag4:(Int)->Option (Int)):Option (Int):=
 if a5<(List.length p0:Int)then(ck (0<=a5∧a5<(List.length p0:Int)) (if p1=(at' p0 a5)then(some (a5))else(ag4 (wI .i64 (a5+(1:Int))))))else(sB  (()))
def nN (U:Nat) (p0:aL) (p1:Int):Option (Int):=
 bE (hZ p0 p1) U (0:Int)
theorem UK:aO Tryz.prog 190:=Tryz.call190
theorem GX (U:Nat) {p0:aL} {p1:Int} (v0:Value) (r:Int) (h:nN U p0 p1=some r):
  aT Tryz.prog 190 #[v0,vI (p1)] [Sl bD v0 p0] (fun x:Unit=>vI (r)) (fun x l=>l) (fun _ l=>l):=by
 refine aT.of Tryz.func190 rfl Tryz.ntmps190 rfl fun c=>?_
 unfold nN at h
 refine sqR<|qkAsg rfl<|dtN<|aI<|midU (fun a1=>sB  a1=some r) (fun a1 b2=>[]) (fun a1 b2=>[]) ?_ ?_
 ·refine sqR<|qkMove rfl<|qkLen (aC.fact 0 rfl) rfl<|qkMove rfl<|dtN<|aN<|loopL (hZ p0 p1) (fun a5 b6=>[(0,v0),(1,vI (p1)),(7,vI (List.length p0:Int)),(8,vI (a5))]) (fun a5 b6=>[]) (0:Int) () h SF (aQ.refl _) ?_
  intro k7 a5 b6 h
  refine sqR<|qkLss rfl<|dtN<|aI ?_
  refine eB h rfl (fun h=>?_) fun h=>?_
  ·refine cI<|aI<|aN<|sqR<|qkMove rfl<|qkAsg rfl<|dtN<|sqR<|qkMove rfl<|qkMove rfl<|qkMove rfl<|ckE h fun j9 h=>aB (aY rfl rfl (aC.fact 0 rfl) rfl rfl j9) rfl<|aB (bT rfl (aC.fact 0 rfl) rfl rfl rfl dO j9) rfl<|qkEql rfl<|dtN ?_
   refine eB h rfl (fun h=>?_) fun h=>?_
   ·refine sqR<|qkMove rfl<|qkAsg rfl<|dtN<|aP<|bK<|aH<|aH<|bK<|aH ?_
    cases h
    exact lI rfl
   refine cU<|inT<|aM<|qkAdd rfl<|qkMove rfl<|dtN ?_
   exact yF (wI .i64 (a5+(1:Int))) () h SF rfl
  refine vT ?_
  exact jV () (()) h SF rfl
 intro a1 b2 h
 unfold sB at h
 refine sqR<|qkAsg rfl<|dtN<|aP ?_
 cases h
 exact lI rfl
end
section
def pI (U:Nat) (p0:aL) (p1:Int):Option (Bool):=
 Option.bind (nN U p0 p1) fun r1=>(some (decide ((0:Int)<=r1)))
theorem UJ:aO Tryz.prog 189:=Tryz.call189
theorem Dz (U:Nat) {p0:aL} {p1:Int} (v0:Value) (r:Bool) (h:pI U p0 p1=some r):
  aT Tryz.prog 189 #[v0,vI (p1)] [Sl bD v0 p0] (fun x:Unit=>vB (r)) (fun x l=>l) (fun _ l=>l):=by
 refine aT.of Tryz.func189 rfl Tryz.ntmps189 rfl fun c=>?_
 refine sqR<|qkAsg rfl<|dtN<|sqR<|qkMove rfl<|qkMove rfl<|bnE h fun r1 w2 h=>aF (aJ.callQ UK (GX U v0 r1 w2) rfl (oI [0] rfl)) rfl fun x3=>aB (FM rfl rfl) rfl<|qkAsg rfl<|dtN<|aP ?_
 cases h
 exact lI rfl
end
section
def xJ  (a2:Int):Option (Int):=
 some (a2)
def uY (U:Nat) (p0:aL) (a6:Int) (ag5:(Int)->Option (Int)):Option (Int):=
 Option.bind (pI U p0 a6) fun r9=>(if r9=true then(ag5 (wI .i64 (a6+(1:Int))))else(xJ  (a6)))
def wR (U:Nat) (p0:aL):Option (Int):=
 bE (uY U p0) U (0:Int)
theorem UI:aO Tryz.prog 187:=Tryz.call187
theorem M_ (U:Nat) {p0:aL} (v0:Value) (r:Int) (h:wR U p0=some r):
  aT Tryz.prog 187 #[v0] [Sl bD v0 p0] (fun x:Unit=>vI (r)) (fun x l=>l) (fun _ l=>l):=by
 refine aT.of Tryz.func187 rfl Tryz.ntmps187 rfl fun c=>?_
 unfold wR at h
 refine sqR<|qkAsg rfl<|dtN<|sqR<|qkAsg rfl<|dtN<|aI<|midU (fun a2=>xJ  a2=some r) (fun a2 b3=>[(3,vI (a2))]) (fun a2 b3=>[]) ?_ ?_
 ·refine aN<|loopL (uY U p0) (fun a6 b7=>[(0,v0),(3,vI (a6))]) (fun a6 b7=>[]) (0:Int) () h SF (aQ.refl _) ?_
  intro k8 a6 b7 h
  refine aI<|sqR<|qkMove rfl<|qkMove rfl<|bnE h fun r9 w10 h=>aF (aJ.callQ UJ (Dz U v0 r9 w10) rfl (oI [0] rfl)) rfl fun x11=>dtN ?_
  refine As h rfl (fun _ h=>?_) fun _ h=>?_
  ·refine cI<|aN<|aM<|qkMove rfl<|qkAdd rfl<|qkAsg rfl<|dY<|inT ?_
   exact yF (wI .i64 (a6+(1:Int))) () h SF rfl
  refine vT ?_
  exact jV (a6) () h SF rfl
 intro a2 b3 h
 unfold xJ at h
 refine sqR<|qkMove rfl<|qkAsg rfl<|dtN<|aP ?_
 cases h
 exact lI rfl
end
section
def wC  (a25:Int):Option (Int):=
 some (a25)
def qG (p1:aL) (a30:eZ) (ag29:gO->Option (Int)):Option (Int):=
 if a30.2<(List.length p1:Int)then(ck (0<=a30.2∧a30.2<(List.length p1:Int)) (ag29 ((min a30.1 (at' p1 a30.2)),(wI .i64 (a30.2+(1:Int))))))else(wC  (a30.1))
def Da (U:Nat) (a41:Int):Option (Int):=
 Option.bind (gG U a41) fun r43=>(some (r43))
def Db (U:Nat) (p1:aL) (a49:eZ) (ag48:gO->Option (Int)):Option (Int):=
 if a49.2<(List.length p1:Int)then(ck (0<=a49.2∧a49.2<(List.length p1:Int)) (ag48 ((wI .i64 (a49.1+(at' p1 a49.2))),(wI .i64 (a49.2+(1:Int))))))else(Da U (a49.1))
def xM (U:Nat) (p0:Int) (p1:aL):Option (Int):=
 if p0=(20:Int)then(Option.bind (n_ U p1) fun r2=>(Option.bind (fU U (decide (r2=(List.length p1:Int)))) fun r5=>(some (r5))))else(if p0=(21:Int)then(Option.bind (n_ U p1) fun r9=>(Option.bind (fU U (decide ((0:Int)<r9))) fun r12=>(some (r12))))else(if p0=(22:Int)then(Option.bind (n_ U p1) fun r16=>(some (r16)))else(if p0=(23:Int)then(Option.bind (k_ U p1 (fun y0=>mF U y0)) fun r20=>(some (r20)))else(if p0=(24:Int)then(bE (qG p1) U ((1073741824:Int),(0:Int)))else(if p0=(25:Int)then(Option.bind (oA U p1) fun r36=>(some (r36.1)))else(if p0=(26:Int)then(bE (Db U p1) U ((0:Int),(0:Int)))else(if p0=(27:Int)then(Option.bind (wR U p1) fun r55=>(some (r55)))else(if p0=(28:Int)then(Option.bind (oA U p1) fun r59=>(some (r59.2)))else(if(List.length p1:Int)=(0:Int)then(some (0:Int))else(ck (0<=(0:Int)∧(0:Int)<(List.length p1:Int)) (some (at' p1 (0:Int)))))))))))))
theorem UE:aO Tryz.prog 176:=Tryz.call176
theorem Lm (U:Nat) {p0:Int} {p1:aL} (v0:Value) (r:Int) (h:xM U p0 p1=some r):
  aT Tryz.prog 176 #[vI (p0),v0] [Sl bD v0 p1] (fun x:Unit=>vI (r)) (fun x l=>l) (fun _ l=>l):=by
 refine aT.of Tryz.func176 rfl Tryz.ntmps176 rfl fun c=>?_
 refine sqR<|qkAsg rfl<|dtN<|aI<|sqR<|qkMove rfl<|dtN<|aN<|sqR<|qkEql rfl<|qkAsg rfl<|dtN ?_
 refine eB h rfl (fun h=>?_) fun h=>?_
 ·refine sqR<|qkMove rfl<|bnE h fun r2 w3 h=>aF (aJ.callQ IN (zZ U v0 r2 w3) rfl (oI [0] rfl)) rfl fun x4=>qkMove rfl<|qkLen (aC.fact 0 rfl) rfl<|qkEql rfl<|bnE h fun r5 w6 h=>aF (aJ.callQ uJ (jB U  r5 w6) rfl .nil) rfl fun x7=>qkAsg rfl<|dtN<|aP<|bK<|aH ?_
  cases h
  exact lI rfl
 refine sqR<|qkEql rfl<|qkAsg rfl<|dtN ?_
 refine eB h rfl (fun h=>?_) fun h=>?_
 ·refine sqR<|qkMove rfl<|bnE h fun r9 w10 h=>aF (aJ.callQ IN (zZ U v0 r9 w10) rfl (oI [0] rfl)) rfl fun x11=>aB (uX rfl rfl) rfl<|bnE h fun r12 w13 h=>aF (aJ.callQ uJ (jB U  r12 w13) rfl .nil) rfl fun x14=>qkAsg rfl<|dtN<|aP<|bK<|aH ?_
  cases h
  exact lI rfl
 refine sqR<|qkEql rfl<|qkAsg rfl<|dtN ?_
 refine eB h rfl (fun h=>?_) fun h=>?_
 ·refine sqR<|qkMove rfl<|bnE h fun r16 w17 h=>aF (aJ.callQ IN (zZ U v0 r16 w17) rfl (oI [0] rfl)) rfl fun x18=>qkAsg rfl<|dtN<|aP<|bK<|aH ?_
  cases h
  exact lI rfl
 refine sqR<|qkEql rfl<|qkAsg rfl<|dtN ?_
 refine eB h rfl (fun h=>?_) fun h=>?_
 ·refine sqR<|qkMove rfl<|bnE h fun r20 w21 h=>aF (aJ.callQ UG (Cr U 185 [] [] UH (fun y0 r h=>Hs U  r h) v0 r20 w21) rfl (oI [0] rfl)) rfl fun x22=>qkAsg rfl<|dtN<|aP<|bK<|aH ?_
  cases h
  exact lI rfl
 refine sqR<|qkEql rfl<|qkAsg rfl<|dtN ?_
 refine eB h rfl (fun h=>?_) fun h=>?_
 ·refine sqR<|qkAsg rfl<|dtN<|aI<|midU (fun a25=>wC  a25=some r) (fun a25 b26=>[(5,vI (a25))]) (fun a25 b26=>[]) ?_ ?_
  ·refine sqR<|qkMove rfl<|qkLen (aC.fact 0 rfl) rfl<|qkMove rfl<|dtN<|aN<|loopL (qG p1) (fun a30 b31=>[(5,vI (a30.1)),(40,v0),(41,vI (List.length p1:Int)),(42,vI (a30.2))]) (fun a30 b31=>[]) ((1073741824:Int),(0:Int)) () h SF (aQ.refl _) ?_
   intro k32 a30 b31 h
   refine sqR<|qkLss rfl<|dtN<|aI ?_
   refine eB h rfl (fun h=>?_) fun h=>?_
   ·refine cI<|aI<|aN<|sqR<|ckE h fun j34 h=>aB (aY rfl rfl (aC.fact 0 rfl) rfl rfl j34) rfl<|aB (bT rfl (aC.fact 0 rfl) rfl rfl rfl dO j34) rfl<|qkAsg rfl<|dtN<|aM<|qkMove rfl<|qkMove rfl<|aB (QK rfl rfl) rfl<|qkAsg rfl<|dY<|inT<|aM<|qkAdd rfl<|qkMove rfl<|dtN ?_
    exact yF ((min a30.1 (at' p1 a30.2)),(wI .i64 (a30.2+(1:Int)))) () h SF rfl
   refine vT ?_
   exact jV (a30.1) () h SF rfl
  intro a25 b26 h
  unfold wC at h
  refine sqR<|qkMove rfl<|qkAsg rfl<|dtN<|aP<|bK<|aH ?_
  cases h
  exact lI rfl
 refine sqR<|qkEql rfl<|qkAsg rfl<|dtN ?_
 refine eB h rfl (fun h=>?_) fun h=>?_
 ·refine sqR<|qkMove rfl<|bnE h fun r36 w37 h=>aF (aJ.callQ NB (xA U v0 r36 w37) rfl (oI [0] rfl)) rfl fun x38=>qkMove rfl<|qkExt rfl<|qkExt rfl<|qkAsg rfl<|qkAsg rfl<|dtN<|sqR<|qkMove rfl<|qkAsg rfl<|dtN<|aP<|bK<|aH ?_
  cases h
  exact lI rfl
 refine sqR<|qkEql rfl<|qkAsg rfl<|dtN ?_
 refine eB h rfl (fun h=>?_) fun h=>?_
 ·refine sqR<|qkAsg rfl<|dtN<|aI<|midU (fun a41=>Da U a41=some r) (fun a41 b42=>[(10,vI (a41))]) (fun a41 b42=>[]) ?_ ?_
  ·refine sqR<|qkMove rfl<|qkLen (aC.fact 0 rfl) rfl<|qkMove rfl<|dtN<|aN<|loopL (Db U p1) (fun a49 b50=>[(10,vI (a49.1)),(61,v0),(62,vI (List.length p1:Int)),(63,vI (a49.2))]) (fun a49 b50=>[]) ((0:Int),(0:Int)) () h SF (aQ.refl _) ?_
   intro k51 a49 b50 h
   refine sqR<|qkLss rfl<|dtN<|aI ?_
   refine eB h rfl (fun h=>?_) fun h=>?_
   ·refine cI<|aI<|aN<|sqR<|ckE h fun j53 h=>aB (aY rfl rfl (aC.fact 0 rfl) rfl rfl j53) rfl<|aB (bT rfl (aC.fact 0 rfl) rfl rfl rfl dO j53) rfl<|qkAsg rfl<|dtN<|aM<|qkMove rfl<|qkMove rfl<|qkAdd rfl<|qkAsg rfl<|dY<|inT<|aM<|qkAdd rfl<|qkMove rfl<|dtN ?_
    exact yF ((wI .i64 (a49.1+(at' p1 a49.2))),(wI .i64 (a49.2+(1:Int)))) () h SF rfl
   refine vT ?_
   exact jV (a49.1) () h SF rfl
  intro a41 b42 h
  refine sqR<|qkMove rfl<|bnE h fun r43 w44 h=>aF (aJ.callQ Bj (kJ U  r43 w44) rfl .nil) rfl fun x45=>qkAsg rfl<|dtN<|aP<|bK<|aH ?_
  cases h
  exact lI rfl
 refine sqR<|qkEql rfl<|qkAsg rfl<|dtN ?_
 refine eB h rfl (fun h=>?_) fun h=>?_
 ·refine sqR<|qkMove rfl<|bnE h fun r55 w56 h=>aF (aJ.callQ UI (M_ U v0 r55 w56) rfl (oI [0] rfl)) rfl fun x57=>qkAsg rfl<|dtN<|aP<|bK<|aH ?_
  cases h
  exact lI rfl
 refine sqR<|qkEql rfl<|qkAsg rfl<|dtN ?_
 refine eB h rfl (fun h=>?_) fun h=>?_
 ·refine sqR<|qkMove rfl<|bnE h fun r59 w60 h=>aF (aJ.callQ NB (xA U v0 r59 w60) rfl (oI [0] rfl)) rfl fun x61=>qkMove rfl<|qkExt rfl<|qkExt rfl<|qkAsg rfl<|qkAsg rfl<|dtN<|sqR<|qkMove rfl<|qkAsg rfl<|dtN<|aP<|bK<|aH ?_
  cases h
  exact lI rfl
 refine cU<|inT<|aI<|sqR<|qkMove rfl<|qkLen (aC.fact 0 rfl) rfl<|qkEql rfl<|dtN ?_
 refine eB h rfl (fun h=>?_) fun h=>?_
 ·refine sqR<|qkAsg rfl<|dtN<|aP<|aH ?_
  cases h
  exact lI rfl
 refine cI<|sqR<|qkMove rfl<|ckE h fun j63 h=>aB (aY rfl rfl (aC.fact 0 rfl) rfl rfl j63) rfl<|aB (bT rfl (aC.fact 0 rfl) rfl rfl rfl dO j63) rfl<|qkAsg rfl<|dtN<|aP ?_
 cases h
 exact lI rfl
end
section
def lD  (a17:eZ):Option gO:=
 some (a17.1,a17.2)
def iF (U:Nat) (p0:JE) (p1:Int) (a23:mI) (a26:Int):Option gO:=
 ck (0<=(List.length (at' p0.1.2.1.2 p0.2.2.1):Int)∧(List.length (at' p0.1.2.1.2 p0.2.2.1):Int)<=((24:Nat):Int)∧(List.length (at' p0.1.2.1.2 p0.2.2.1):Int)<=(List.length a23.2:Int)) (Option.bind (xM U ((at' p0.2.2.2 p1).1) (List.take (Int.toNat (List.length (at' p0.1.2.1.2 p0.2.2.1):Int)) a23.2)) fun r29=>(lD  (r29,a26)))
def oZ (U:Nat) (p0:JE) (p1:Int) (a23:mI):Option gO:=
 if(List.length (at' p0.1.2.1.2 p0.2.2.1):Int)=(0:Int)then(Option.bind (zQ U p0.2.2.2 p1) fun r33=>(iF U p0 p1 a23 (r33)))else(iF U p0 p1 a23 (a23.1))
def iG (U:Nat) (p0:JE) (p1:Int) (rc:VL->Int->Int->Option gO) (a40:Int×Int×aL) (ag39:(Int×Int×aL)->Option gO):Option gO:=
 if a40.2.1<(List.length (at' p0.1.2.1.2 p0.2.2.1):Int)then(Option.bind (rc ((((((p0.1.1.1,p0.1.1.2.1,p0.1.1.2.2)),((p0.1.2.1.1,p0.1.2.1.2)),p0.1.2.2.1,p0.1.2.2.2)),p0.2.1,p0.2.2.1,p0.2.2.2)) (wI .i64 (p1+(1:Int))) a40.2.1) fun r44=>(ck ((0<=a40.2.1∧a40.2.1<((24:Nat):Int))∧List.length a40.2.2=24) (ag39 (r44.2,(wI .i64 (a40.2.1+(1:Int))),(List.set a40.2.2 (Int.toNat a40.2.1) r44.1)))))else(oZ U p0 p1 (a40.1,a40.2.2))
def cB (rc:VL->Int->Int->Option gO) (U:Nat) (p0:JE) (p1:Int) (p2:Int):Option gO:=
 ck (0<=p1∧p1<(List.length p0.2.2.2:Int)) (if((at' p0.2.2.2 p1).1)<=(17:Int)then(Option.bind (jY U ((((((p0.1.1.1,p0.1.1.2.1,p0.1.1.2.2)),((p0.1.2.1.1,p0.1.2.1.2)),p0.1.2.2.1,p0.1.2.2.2)),p0.2.1,p0.2.2.1,p0.2.2.2)) ((((at' p0.2.2.2 p1).1),((at' p0.2.2.2 p1).2))) p2) fun r4=>(some (r4,(wI .i64 (p1+(1:Int))))))else(if((at' p0.2.2.2 p1).1)<=(19:Int)then(Option.bind (rc ((((((p0.1.1.1,p0.1.1.2.1,p0.1.1.2.2)),((p0.1.2.1.1,p0.1.2.1.2)),p0.1.2.2.1,p0.1.2.2.2)),p0.2.1,p0.2.2.1,p0.2.2.2)) (wI .i64 (p1+(1:Int))) p2) fun r8=>(Option.bind (wE U ((at' p0.2.2.2 p1).1) r8.1) fun r11=>(some (r11,r8.2))))else(if((at' p0.2.2.2 p1).1)<=(29:Int)then(ck (0<=p0.2.2.1∧p0.2.2.1<(List.length p0.1.2.1.2:Int)) (bE (iG U p0 p1 rc) U ((0:Int),(0:Int),(List.replicate 24 (0:Int)))))else(if((at' p0.2.2.2 p1).1)<=(42:Int)then(Option.bind (rc ((((((p0.1.1.1,p0.1.1.2.1,p0.1.1.2.2)),((p0.1.2.1.1,p0.1.2.1.2)),p0.1.2.2.1,p0.1.2.2.2)),p0.2.1,p0.2.2.1,p0.2.2.2)) (wI .i64 (p1+(1:Int))) p2) fun r49=>(Option.bind (rc ((((((p0.1.1.1,p0.1.1.2.1,p0.1.1.2.2)),((p0.1.2.1.1,p0.1.2.1.2)),p0.1.2.2.1,p0.1.2.2.2)),p0.2.1,p0.2.2.1,p0.2.2.2)) r49.2 p2) fun r52=>(Option.bind (uN U ((at' p0.2.2.2 p1).1) r49.1 r52.1) fun r55=>(some (r55,r52.2)))))else(Option.bind (rc ((((((p0.1.1.1,p0.1.1.2.1,p0.1.1.2.2)),((p0.1.2.1.1,p0.1.2.1.2)),p0.1.2.2.1,p0.1.2.2.2)),p0.2.1,p0.2.2.1,p0.2.2.2)) (wI .i64 (p1+(1:Int))) p2) fun r58=>(Option.bind (rc ((((((p0.1.1.1,p0.1.1.2.1,p0.1.1.2.2)),((p0.1.2.1.1,p0.1.2.1.2)),p0.1.2.2.1,p0.1.2.2.2)),p0.2.1,p0.2.2.1,p0.2.2.2)) r58.2 p2) fun r61=>(Option.bind (rc ((((((p0.1.1.1,p0.1.1.2.1,p0.1.1.2.2)),((p0.1.2.1.1,p0.1.2.1.2)),p0.1.2.2.1,p0.1.2.2.2)),p0.2.1,p0.2.2.1,p0.2.2.2)) r61.2 p2) fun r64=>(if r58.1≠(0:Int)then(some (r61.1,r64.2))else(some (r64.1,r64.2))))))))))
def bL:Nat->VL->Int->Int->Option gO
 |0,_,_,_=>none
 |U+1,p0,p1,p2=>cB (bL U) U p0 p1 p2
theorem xI:aO Tryz.prog 161:=Tryz.call161
theorem zW (rc:VL->Int->Int->Option gO) (U:Nat) (hrc:∀{p0:JE} {p1:Int} {p2:Int} (bx0:Nat)  (bx1:Nat)  (v2:Value)  (v3:Value)  (v4:Value)  (v5:Value)  (z6:mB)  (v7:Value)  (z8:pJ)  (v9:Value)  (z10:pJ)  (v11:Value) (r:eZ),rc p0 p1 p2=some r->aT Tryz.prog 161 #[vP bx0,vI (p1),vI (p2)] [bM bx0 [vP bx1,v9,vI (p0.2.2.1),v11] 218,bM bx1 [vS (p0.1.1.1),v2,v3,v4,v5,vI (p0.1.2.2.1),v7] 178,Sl aG v2 p0.1.1.2.1,Sl aE v3 p0.1.1.2.2,Sl bD v4 p0.1.2.1.1,S2 aV v5 z6 p0.1.2.1.2,S2 bD v7 z8 p0.1.2.2.2,S2 bD v9 z10 p0.2.1,Sl aV v11 p0.2.2.2] (fun x:Unit=>Value.tuple #[vI (r.1),vI (r.2)]) (fun x l=>l) (fun _ l=>l)) {p0:JE} {p1:Int} {p2:Int} (bx0:Nat)  (bx1:Nat)  (v2:Value)  (v3:Value)  (v4:Value)  (v5:Value)  (z6:mB)  (v7:Value)  (z8:pJ)  (v9:Value)  (z10:pJ)  (v11:Value) (r:eZ) (h:cB rc U p0 p1 p2=some r):
  aT Tryz.prog 161 #[vP bx0,vI (p1),vI (p2)] [bM bx0 [vP bx1,v9,vI (p0.2.2.1),v11] 218,bM bx1 [vS (p0.1.1.1),v2,v3,v4,v5,vI (p0.1.2.2.1),v7] 178,Sl aG v2 p0.1.1.2.1,Sl aE v3 p0.1.1.2.2,Sl bD v4 p0.1.2.1.1,S2 aV v5 z6 p0.1.2.1.2,S2 bD v7 z8 p0.1.2.2.2,S2 bD v9 z10 p0.2.1,Sl aV v11 p0.2.2.2] (fun x:Unit=>Value.tuple #[vI (r.1),vI (r.2)]) (fun x l=>l) (fun _ l=>l):=by
 refine aT.of Tryz.func161 rfl Tryz.ntmps161 rfl fun c=>?_
 refine sqR<|qkAsg rfl<|qkAsg rfl<|dtN<|sqR<|qkMove rfl<|aB (bN rfl) rfl<|qkFld rfl<|aB (cV rfl (aC.fact 0 rfl) rfl rfl rfl) rfl<|qkMove rfl<|ckE h fun j1 h=>aB (aY rfl rfl (aC.fact 8 rfl) rfl rfl j1) rfl<|aB (fL (cs:=[vI ((at' p0.2.2.2 p1).1),vI ((at' p0.2.2.2 p1).2)]) rfl (aC.fact 8 rfl) bJ rfl rfl rfl rfl j1) rfl<|aF (aJ.alloc (cs:=LN) rfl rfl) rfl fun b2=>bH 0 (vs:=[vI ((at' p0.2.2.2 p1).1),vI ((at' p0.2.2.2 p1).2)]) rfl rfl rfl rfl rfl rfl<|dtN<|aI<|aN<|sqR<|qkFld rfl<|qkLd 0 rfl<|aB (yM rfl rfl) rfl<|qkAsg rfl<|dtN ?_
 refine eB h rfl (fun h=>?_) fun h=>?_
 ·refine sqR<|qkMove rfl<|qkLdA 0 rfl<|qkMove rfl<|bnE h fun r4 w5 h=>aF (aJ.callQ UA (BH U bx0 bx1 v2 v3 v4 v5 z6 v7 z8 v9 z10 v11 r4 w5) rfl (oI [0,1,2,3,4,5,6,7,8] rfl)) rfl fun x6=>qkMove rfl<|qkAdd rfl<|qkAsg rfl<|qkAsg rfl<|dtN<|aP<|bK<|aH ?_
  cases h
  exact iZ () rfl rfl (RV.tmp rfl) (RV.tmp rfl) .nil aD.nil
 refine sqR<|qkFld rfl<|qkLd 0 rfl<|aB (yM rfl rfl) rfl<|qkAsg rfl<|dtN ?_
 refine eB h rfl (fun h=>?_) fun h=>?_
 ·refine sqR<|qkMove rfl<|qkMove rfl<|qkAdd rfl<|qkMove rfl<|bnE h fun r8 w9 h=>aF (aJ.callQ xI (hrc bx0 bx1 v2 v3 v4 v5 z6 v7 z8 v9 z10 v11 r8 w9) rfl (oI [0,1,2,3,4,5,6,7,8] rfl)) rfl fun x10=>qkMove rfl<|qkExt rfl<|qkExt rfl<|qkAsg rfl<|qkAsg rfl<|dtN<|sqR<|qkFld rfl<|qkLd 0 rfl<|qkMove rfl<|bnE h fun r11 w12 h=>aF (aJ.callQ UB (Jy U  r11 w12) rfl .nil) rfl fun x13=>qkMove rfl<|qkAsg rfl<|qkAsg rfl<|dtN<|aP<|bK<|aH ?_
  cases h
  exact iZ () rfl rfl (RV.tmp rfl) (RV.tmp rfl) .nil aD.nil
 refine sqR<|qkFld rfl<|qkLd 0 rfl<|aB (yM rfl rfl) rfl<|qkAsg rfl<|dtN ?_
 refine eB h rfl (fun h=>?_) fun h=>?_
 ·refine sqR<|qkMove rfl<|qkFld rfl<|qkLd 0 rfl<|qkMove rfl<|xS (A:=eZ) (B:=Unit) (vs:=[vP bx0,vI ((at' p0.2.2.2 p1).1),vI (p1)]) (fun a17=>lD  a17=some r) (fun a17 b18=>Value.tuple #[vI (a17.1),vI (a17.2)]) (fun a17 b18=>[]) (fun a17 b18=>[bM bx0 [vP bx1,v9,vI (p0.2.2.1),v11] 218,bM bx1 [vS (p0.1.1.1),v2,v3,v4,v5,vI (p0.1.2.2.1),v7] 178,Sl aG v2 p0.1.1.2.1,Sl aE v3 p0.1.1.2.2,Sl bD v4 p0.1.2.1.1,S2 aV v5 z6 p0.1.2.1.2,S2 bD v7 z8 p0.1.2.2.2,S2 bD v9 z10 p0.2.1,Sl aV v11 p0.2.2.2]) (sL.fn (show aO Tryz.prog 169 from Tryz.call169) rfl) Tryz.func169 rfl Tryz.ntmps169 rfl rfl ?_ ?_
  ·refine sqR<|qkAsg rfl<|qkAsg rfl<|dtN<|sqR ?_
   refine aF (aJ.alloc (cs:=cellsOf bU (List.replicate 24 (0:Int))) rfl (by kernel_rfl)) rfl fun b19=>?_
   refine dtN<|aI ?_
   refine JR.start [0,1,3,7,15,31,63,127,0,256,768,1792,4095,8191,16383,32767] 12 mixedOrders (by decide +kernel) ?_
   refine JR.open (by exact rfl) ?_
   refine jkMove rfl<|jqN rfl (bN rfl)<|jkFld rfl<|bG rfl .nil (mJ 0 rfl) (cV rfl (aC.fact 0 rfl) rfl rfl rfl) aK.z<|jqN rfl (bN rfl)<|jkFld rfl<|jkFld rfl<|bG rfl .nil (mJ 1 rfl) (cV rfl (aC.fact 0 rfl) rfl rfl rfl) aK.z<|jkMove rfl<|jqN rfl (bN rfl)<|jkFld rfl<|bG rfl .nil (mJ 0 rfl) (cV rfl (aC.fact 0 rfl) rfl rfl rfl) aK.z<|bO 12 rfl rfl<|ckE h fun j20 h=>aB (cK rfl rfl (aC.fact 5 rfl) rfl rfl j20) rfl<|aB (cJ rfl (aC.fact 5 rfl) rfl rfl j20) rfl<|aB (fR rfl (aC.el (aC.fact 5 rfl) j20.1 j20.2) rfl) rfl<|qkAsg rfl<|dtN<|aI<|midU (fun a23=>oZ U p0 p1 a23=some r) (fun a23 b24=>[(0,vP bx0),(1,vI ((at' p0.2.2.2 p1).1)),(2,vI (p1)),(7,vI (a23.1)),(8,vP b19),(9,vI (List.length (at' p0.1.2.1.2 p0.2.2.1):Int))]) (fun a23 b24=>[bM b19 (cellsOf bU a23.2) 227]) ?_ ?_
   ·refine sqR<|qkMove rfl<|qkMove rfl<|dtN<|aN<|loopL (iG U p0 p1 rc) (fun a40 b41=>[(0,vP bx0),(1,vI ((at' p0.2.2.2 p1).1)),(2,vI (p1)),(7,vI (a40.1)),(8,vP b19),(9,vI (List.length (at' p0.1.2.1.2 p0.2.2.1):Int)),(26,vI (List.length (at' p0.1.2.1.2 p0.2.2.1):Int)),(27,vI (a40.2.1))]) (fun a40 b41=>[bM b19 (cellsOf bU a40.2.2) 227]) ((0:Int),(0:Int),(List.replicate 24 (0:Int))) () h SF (aQ.ix [0] rfl rfl) ?_
    intro k42 a40 b41 h
    refine sqR<|qkLss rfl<|dtN<|aI ?_
    refine eB h rfl (fun h=>?_) fun h=>?_
    ·refine cI<|aI<|aN<|sqR<|qkMove rfl<|qkAsg rfl<|dtN<|aM<|qkMove rfl<|qkMove rfl<|qkMove rfl<|qkAdd rfl<|qkMove rfl<|bnE h fun r44 w45 h=>aF (aJ.callQ xI (hrc bx0 bx1 v2 v3 v4 v5 z6 v7 z8 v9 z10 v11 r44 w45) rfl (oI [0,1,2,3,4,5,6,7,8] rfl)) rfl fun x46=>qkMove rfl<|qkExt rfl<|qkExt rfl<|ckE h fun j47 h=>aB (mE rfl rfl rfl rfl rfl j47.1) rfl<|FD 0 (e:=bU) r44.1 j47 rfl rfl rfl rfl rfl rfl rfl<|qkAsg rfl<|dY<|inT<|aM<|qkAdd rfl<|qkMove rfl<|dtN ?_
     exact yF (r44.2,(wI .i64 (a40.2.1+(1:Int))),(List.set a40.2.2 (Int.toNat a40.2.1) r44.1)) () h SF rfl
    refine vT ?_
    exact jV (a40.1,a40.2.2) () h SF rfl
   intro a23 b24 h
   refine aI<|midU (fun a26=>iF U p0 p1 a23 a26=some r) (fun a26 b27=>[(1,vI ((at' p0.2.2.2 p1).1)),(7,vI (a26)),(8,vP b19),(9,vI (List.length (at' p0.1.2.1.2 p0.2.2.1):Int))]) (fun a26 b27=>[bM b19 (cellsOf bU a23.2) 227]) ?_ ?_
   ·refine sqR<|qkMove rfl<|qkEql rfl<|dtN ?_
    refine eB h rfl (fun h=>?_) fun h=>?_
    ·refine aM<|qkMove rfl<|aB (bN rfl) rfl<|qkFld rfl<|aB (cV rfl (aC.fact 0 rfl) rfl rfl rfl) rfl<|qkMove rfl<|bnE h fun r33 w34 h=>aF (aJ.callQ Uo (Na U v11 r33 w34) rfl (oI [8] rfl)) rfl fun x35=>qkAsg rfl<|dtN ?_
     exact jV (r33) () h SF rfl
    refine cI ?_
    exact jV (a23.1) () h SF rfl
   intro a26 b27 h
   refine sqR<|qkMove rfl<|qkMove rfl<|ckE h fun j28 h=>aB (Mf rfl rfl rfl rfl j28) rfl<|bnE h fun r29 w30 h=>aF (aJ.callQ UE (Lm U (Value.slice (some ⟨b19,0,none⟩) (Int.toNat (List.length (at' p0.1.2.1.2 p0.2.2.1):Int)) 24) r29 w30) rfl (aD.cons (Qv (i:=0) rfl cP j28 (by decide)) .nil)) rfl fun x31=>?_
   refine qkMove rfl<|qkAsg rfl<|qkAsg rfl<|dtN<|aP ?_
   exact sW (r29,a26) () h (.inl rfl) (CK.r2 rfl (RV.tmp rfl) (RV.tmp rfl)) rfl .nil (aD.refl _ _)
  intro a17 b18 h
  unfold lD at h
  refine qkExt rfl<|qkExt rfl<|qkAsg rfl<|qkAsg rfl<|dtN<|aP<|bK<|aH ?_
  cases h
  exact iZ () rfl rfl (RV.tmp rfl) (RV.tmp rfl) (aQ.refl _) aD.nil
 refine sqR<|qkFld rfl<|qkLd 0 rfl<|aB (yM rfl rfl) rfl<|qkAsg rfl<|dtN ?_
 refine eB h rfl (fun h=>?_) fun h=>?_
 ·refine sqR<|qkMove rfl<|qkMove rfl<|qkAdd rfl<|qkMove rfl<|bnE h fun r49 w50 h=>aF (aJ.callQ xI (hrc bx0 bx1 v2 v3 v4 v5 z6 v7 z8 v9 z10 v11 r49 w50) rfl (oI [0,1,2,3,4,5,6,7,8] rfl)) rfl fun x51=>qkMove rfl<|qkExt rfl<|qkExt rfl<|qkAsg rfl<|qkAsg rfl<|dtN<|sqR<|qkMove rfl<|qkMove rfl<|qkMove rfl<|bnE h fun r52 w53 h=>aF (aJ.callQ xI (hrc bx0 bx1 v2 v3 v4 v5 z6 v7 z8 v9 z10 v11 r52 w53) rfl (oI [0,1,2,3,4,5,6,7,8] rfl)) rfl fun x54=>qkMove rfl<|qkExt rfl<|qkExt rfl<|qkAsg rfl<|qkAsg rfl<|dtN<|sqR<|qkFld rfl<|qkLd 0 rfl<|qkMove rfl<|qkMove rfl<|bnE h fun r55 w56 h=>aF (aJ.callQ UC (Hr U  r55 w56) rfl .nil) rfl fun x57=>qkMove rfl<|qkAsg rfl<|qkAsg rfl<|dtN<|aP<|bK<|aH ?_
  cases h
  exact iZ () rfl rfl (RV.tmp rfl) (RV.tmp rfl) .nil aD.nil
 refine cU<|inT<|sqR<|qkMove rfl<|qkMove rfl<|qkAdd rfl<|qkMove rfl<|bnE h fun r58 w59 h=>aF (aJ.callQ xI (hrc bx0 bx1 v2 v3 v4 v5 z6 v7 z8 v9 z10 v11 r58 w59) rfl (oI [0,1,2,3,4,5,6,7,8] rfl)) rfl fun x60=>qkMove rfl<|qkExt rfl<|qkExt rfl<|qkAsg rfl<|qkAsg rfl<|dtN<|sqR<|qkMove rfl<|qkMove rfl<|qkMove rfl<|bnE h fun r61 w62 h=>aF (aJ.callQ xI (hrc bx0 bx1 v2 v3 v4 v5 z6 v7 z8 v9 z10 v11 r61 w62) rfl (oI [0,1,2,3,4,5,6,7,8] rfl)) rfl fun x63=>qkMove rfl<|qkExt rfl<|qkExt rfl<|qkAsg rfl<|qkAsg rfl<|dtN<|sqR<|qkMove rfl<|qkMove rfl<|qkMove rfl<|bnE h fun r64 w65 h=>aF (aJ.callQ xI (hrc bx0 bx1 v2 v3 v4 v5 z6 v7 z8 v9 z10 v11 r64 w65) rfl (oI [0,1,2,3,4,5,6,7,8] rfl)) rfl fun x66=>qkMove rfl<|qkExt rfl<|qkExt rfl<|qkAsg rfl<|qkAsg rfl<|dtN<|aI<|sqR<|qkMove rfl<|qkNeq rfl<|dtN ?_
 refine eB h rfl (fun h=>?_) fun h=>?_
 ·refine sqR<|qkMove rfl<|qkMove rfl<|qkAsg rfl<|qkAsg rfl<|dtN<|aP<|aH ?_
  cases h
  exact iZ () rfl rfl (RV.tmp rfl) (RV.tmp rfl) .nil aD.nil
 refine cI<|sqR<|qkMove rfl<|qkMove rfl<|qkAsg rfl<|qkAsg rfl<|dtN<|aP ?_
 cases h
 exact iZ () rfl rfl (RV.tmp rfl) (RV.tmp rfl) .nil aD.nil
theorem AU (U:Nat):∀{p0:JE} {p1:Int} {p2:Int} (bx0:Nat)  (bx1:Nat)  (v2:Value)  (v3:Value)  (v4:Value)  (v5:Value)  (z6:mB)  (v7:Value)  (z8:pJ)  (v9:Value)  (z10:pJ)  (v11:Value) (r:eZ),bL U p0 p1 p2=some r->
  aT Tryz.prog 161 #[vP bx0,vI (p1),vI (p2)] [bM bx0 [vP bx1,v9,vI (p0.2.2.1),v11] 218,bM bx1 [vS (p0.1.1.1),v2,v3,v4,v5,vI (p0.1.2.2.1),v7] 178,Sl aG v2 p0.1.1.2.1,Sl aE v3 p0.1.1.2.2,Sl bD v4 p0.1.2.1.1,S2 aV v5 z6 p0.1.2.1.2,S2 bD v7 z8 p0.1.2.2.2,S2 bD v9 z10 p0.2.1,Sl aV v11 p0.2.2.2] (fun x:Unit=>Value.tuple #[vI (r.1),vI (r.2)]) (fun x l=>l) (fun _ l=>l):=by
 induction U with
 |zero=>intros;rename_i h;cases h
 |succ U ih=>exact fun bx0 bx1 v2 v3 v4 v5 z6 v7 z8 v9 z10 v11 r h=>zW (bL U) U ih bx0 bx1 v2 v3 v4 v5 z6 v7 z8 v9 z10 v11 r h
end
end Go.Proofs.YtigggfnchamobaaGreatDoor
end
