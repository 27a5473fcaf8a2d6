/- Models and proofs. Conditions: none. -/
import Derived.Test.YtlciiihigmgaiaaGreatZCAl1
import Derived.Maps.RangeRun
set_option linter.unusedVariables false
set_option linter.unusedSimpArgs false
set_option maxHeartbeats 4000000
set_option maxRecDepth 20000
section
set_option linter.unusedSectionVars false
namespace Go.Sx
open Go.RowKit
section defs
variable {κ ν:Type} [DecidableEq κ]
def yZ (ek:κ->Value) (ev:ν->Value):Nat->List (κ×ν)->List MapEntry
 |_,[]=>[]
 |i,x::xs=>⟨ek x.1,ev x.2,i⟩::yZ ek ev (i+1) xs
def jE (k:κ):List (κ×ν)->Option ν
 | []=>none
 |x::xs=>if k=x.1 then some x.2 else jE k xs
def xG (k:κ) (v:ν):List (κ×ν)->List (κ×ν)
 | []=>[(k,v)]
 |x::xs=>if k=x.1 then(k,v)::xs else x::xG k v xs
def Mf (ev:ν->Value) (k:κ):Nat->List (κ×ν)->Option (Nat×Value)
 |_,[]=>none
 |i,x::xs=>if k=x.1 then some (i,ev x.2)else Mf ev k (i+1) xs
theorem GL (ev:ν->Value) (k:κ):∀(i:Nat) (l:List (κ×ν)),(Mf ev k i l).map (·.2)=(jE k l).map ev
 |_,[]=>rfl
 |i,x::xs=>by
  simp only[Mf,jE]
  split
  ·rfl
  ·exact GL ev k (i+1) xs
theorem Es (ek:κ->Value) (ev:ν->Value):∀(i:Nat) (l:List (κ×ν)) (x:κ×ν),yZ ek ev i (l++[x])=yZ ek ev i l++[⟨ek x.1,ev x.2,i+l.length⟩]
 |i,[],x=>rfl
 |i,y::ys,x=>by
  simp only[List.cons_append,yZ,Es ek ev (i+1) ys x,List.length_cons]
  rw[show i+1+ys.length=i+(ys.length+1) by omega]
theorem Cp (k:κ) (v:ν):∀l:List (κ×ν),jE k l=none->xG k v l=l++[(k,v)]
 | [],_=>rfl
 | x :: xs, h => by
  simp only[jE]at h
  split at h
  ·cases h
  ·rename_i hne
   simp only[xG,if_neg hne,Cp k v xs h,List.cons_append]
theorem KP (ek:κ->Value) (ev:ν->Value) (k:κ) (v:ν):∀(i0 i:Nat) (l:List (κ×ν)) (j:Nat) (u:Value),Mf ev k i l=some (j,u)->
  i<=j∧((yZ ek ev i l)[j - i]?).map (·.key)=some (ek k)∧yZ ek ev i (xG k v l)=(yZ ek ev i l).modify (j - i) (fun e=>{e with key:=ek k,val:=ev v})∧(xG k v l).length=l.length
 |_,i,[],j,u,h=>by simp[Mf]at h
 | i0, i, x :: xs, j, u, h => by
  simp only[Mf]at h
  split at h
  ·rename_i he
   simp only[Option.some.injEq,Prod.mk.injEq]at h
   obtain⟨rfl,_⟩:=h
   simp[yZ,xG,he]
  ·rename_i hne
   obtain⟨h1,h2,h3,h4⟩:=KP ek ev k v i0 (i+1) xs j u h
   have hj:j - i=(j - (i+1))+1:=by omega
   refine⟨by omega,?_,?_,?_⟩
   ·rw[hj];simpa [yZ]using h2
   ·simp only[xG,if_neg hne,yZ]
    rw[hj,List.modify_succ_cons,h3]
   ·simp[xG,hne,h4]
end defs
structure DG (P:Program) (kt:TypeId) {κ:Type} [DecidableEq κ] (ek:κ->Value):Prop where
 chk:∀b k w,(Instr.checkKey b 10000 kt (ek k)).run P w = .ok () w
 find:∀{ν:Type} (ev:ν->Value) (k:κ) (l:List (κ×ν)) w,(Instr.findKey kt (ek k) (yZ ek ev 0 l)).run P w = .ok (Mf ev k 0 l) w
 same:∀k,Instr.sameBits 10000 (ek k) (ek k)=true
def Mp {κ ν:Type} (ek:κ->Value) (ev:ν->Value) (r:Nat) (l:List (κ×ν)):aP where
 p w F:=F r∧w.heap[r]? = some (.map (yZ ek ev 0 l).toArray l.length)
 mono:=fun⟨h1,h2⟩ h=>by
  obtain⟨h3,h4⟩:=h r h1 (Array.getElem?_eq_some_iff.1 h2).1
  exact⟨h3,by rw[h4];exact h2⟩
section
variable {P:Program} {rd:Option Nat} {c:rA} {n:Sz} {σ:Fr} {M L:List aP} {Q:Exit->Act->World->Prop} {ops:Array Oper} {rest:List Oper}
variable {d:Option Tmp} {ty:TypeId} {pos:String} {aft:Array Edge} {g:Option (Nat×Bool)}
theorem St.push {w:World} (t:St c M L w) (o:Obj) {m:aP} (hm:m.p (w.alloc o) (fun k=>k=w.heap.size)):St c (m::M) L (w.alloc o):=by
 have e:CG w (w.alloc o):=(Below.refl _ _).alloc (Nat.le_refl _) _
 obtain⟨ho,F,hF,hL⟩:=t
 have hb:∀k,k<w.heap.size->(w.alloc o).heap[k]? = w.heap[k]? := e.block
 refine⟨ho.trans e,fun i k=>match i with|0=>k=w.heap.size|i+1=>F i k,⟨?_,?_,?_⟩,fun f hf=> ?_⟩
 ·intro i m' hm'
  cases i with
  |zero=>simp at hm';subst hm';exact hm
  |succ i=>exact aP.same (hF.res i m' (by simpa using hm')) (fun _ h=>h) (fun k _ hl=>hb k hl)
 ·intro i k hk
  cases i with
  |zero=>subst hk;exact⟨.inl ho.size,by simp⟩
  |succ i=>exact⟨(hF.rng i k hk).1,Nat.lt_of_lt_of_le (hF.rng i k hk).2 e.size⟩
 ·intro i j k hi hj
  cases i with
  |zero=>
   cases j with
   |zero=>rfl
   |succ j=>have:=(hF.rng j k hj).2;simp only at hi;omega
  |succ i=>
   cases j with
   |zero=>have:=(hF.rng i k hi).2;simp only at hj;omega
   |succ j=>exact congrArg (· + 1) (hF.dis i j k hi hj)
 ·exact f.mono (hL f hf) fun k hk hl=>⟨⟨hk.1,fun i hi=>by
   cases i with
   |zero=>simp only at hi;omega
   |succ i=>exact hk.2 i hi⟩,hb k hl⟩
variable {κ ν:Type} [DecidableEq κ] {ek:κ->Value} {ev:ν->Value}
theorem aK.makeMap (ek:κ->Value) (ev:ν->Value) {T:TypeId}:aK P c n σ M L ⟨d,.makeMap T none,ty,pos,aft,g⟩ (fun r:Nat=> .map (some r)) (fun r=>Mp ek ev r []::M) (fun _=>L):=fun a w s t=>by
 have hrun:(execOp a.eval ⟨d,.makeMap T none,ty,pos,aft,g⟩).run P w = .ok (.value (.map (some w.heap.size))) (w.alloc (.map #[] 0)):=by
  simp[execOp,Instr.makeMap]
 simp only[Oper.wp,hrun,Oper.upon]
 exact⟨w.heap.size,rfl,t.push _ ⟨rfl,heap_alloc_new w _⟩⟩
theorem Kg [cL P] {T kt vt:TypeId} {s1 s2 s3 s4:Nat} {z zv:Value} {dv:TypeDesc} {w:World} {r:Nat} {l:List (κ×ν)} {F:Nat->Prop} (hk:DG P kt ek) (hM:(Mp ek ev r l).p w F)
  (hT:cL.tab P T=some ⟨.map kt vt,s1,s2,z⟩) (hV:cL.tab P vt=some ⟨dv,s3,s4,zv⟩) (k:κ) (b:Bool):
  (Instr.lookup T (.map (some r)) (ek k) b).run P w = .ok (if b then .tuple #[((jE k l).map ev).getD zv,.bool (jE k l).isSome]else((jE k l).map ev).getD zv) w:=by
 have hg:(getObj r).run P w = .ok (.map (yZ ek ev 0 l).toArray l.length) w:=by
  simp[getObj,Sem.run,hM.2]
 have hf:=hk.find ev k l w
 have hfg:=GL ev k 0 l
 simp only[Instr.lookup]
 simp[(cL.ok hT).run_und w,hg,hk.chk,hf]
 cases hfd:Mf ev k 0 l with
 |none=>
  rw[hfd]at hfg
  have:jE k l=none:=by cases h:jE k l<;>simp[h]at hfg ⊢
  simp[this,(cL.ok hV).run_zero w]
 | some x =>
  rw[hfd]at hfg
  obtain⟨v,hv,hx⟩:∃v,jE k l=some v∧ev v=x.2:=by
   cases h:jE k l with
   |none=>simp[h]at hfg
   |some v=>simp[h]at hfg;exact⟨v,rfl,hfg.symm⟩
  simp[hv,hx]
theorem HQ [cL P] (j:Nat) {T kt vt:TypeId} {s1 s2 s3 s4:Nat} {z zv:Value} {dv:TypeDesc} {x y:Operand} {r:Nat} {l:List (κ×ν)} (k:κ) {b:Bool} (hk:DG P kt ek) (hx:Go.Sx.ev σ x=some (.map (some r))) (hy:Go.Sx.ev σ y=some (ek k)) (hf:M[j]? = some (Mp ek ev r l))
  (hT:cL.tab P T=some ⟨.map kt vt,s1,s2,z⟩) (hV:cL.tab P vt=some ⟨dv,s3,s4,zv⟩) {u:Value} (hu:((jE k l).map ev).getD zv=u):
  Y P c n σ M L ⟨d,.lookup T x y b,ty,pos,aft,g⟩ (if b then .tuple #[u,.bool (jE k l).isSome]else u):=fun a w s t=>by
 obtain⟨F,hF⟩:=t.res hf
 subst hu
 simp[execOp,s.eval hx,s.eval hy,Kg hk hF hT hV]
theorem zC {w:World} {r:Nat} {es:Array MapEntry} {k:Nat} (h:w.heap[r]? = some (.map es k)) (o:Obj):(setObj r o).run P w = .ok () {w with heap:=w.heap.setIfInBounds r o}:=by
 simp[setObj,Sem.run,h]
theorem St.setMap {w:World} (t:St c M L w) {j r:Nat} {l l':List (κ×ν)} (hf:M[j]? = some (Mp ek ev r l)) (o:Obj) (ho:o = .map (yZ ek ev 0 l').toArray l'.length):
  St c (M.set j (Mp ek ev r l')) L {w with heap:=w.heap.setIfInBounds r o}:=
 t.upd hf rfl rfl rfl (by simp) fun F hF _=>⟨fun k _ hk=>by
   rw[Array.getElem?_setIfInBounds_ne (fun e=>hk (by subst e;exact hF.1))],F,⟨hF.1,by
    rw[Array.getElem?_setIfInBounds_self_of_lt (Array.getElem?_eq_some_iff.1 hF.2).1,ho]⟩,fun _ h=> .inl h⟩
theorem Hx [cL P] (j:Nat) {T kt vt:TypeId} {s1 s2:Nat} {z:Value} {x y v:Operand} {r:Nat} {l:List (κ×ν)} (k:κ) (nv:ν) (hk:DG P kt ek) (hx:Go.Sx.ev σ x=some (.map (some r))) (hy:Go.Sx.ev σ y=some (ek k)) (hv:Go.Sx.ev σ v=some (ev nv)) (hf:M[j]? = some (Mp ek ev r l))
  (hT:cL.tab P T=some ⟨.map kt vt,s1,s2,z⟩) (h:J c n σ (M.set j (Mp ek ev r (xG k nv l))) L (wpList P ops Q rest)):
  J c n σ M L (wpList P ops Q (⟨none,.mapUpdate T x y v,ty,pos,aft,none⟩::rest)):=fun a w s t=>by
 refine jA rfl ?_
 obtain⟨F,hF⟩:=t.res hf
 have hg:(getObj r).run P w = .ok (.map (yZ ek ev 0 l).toArray l.length) w:=by
  simp[getObj,Sem.run,hF.2]
 have hfd:=hk.find ev k l w
 have hfg:=GL ev k 0 l
 have hrun:∃o:Obj,(execOp a.eval ⟨none,.mapUpdate T x y v,ty,pos,aft,none⟩).run P w = .ok .skip {w with heap:=w.heap.setIfInBounds r o}∧o = .map (yZ ek ev 0 (xG k nv l)).toArray (xG k nv l).length:=by
  simp only[execOp,s.eval hx,s.eval hy,s.eval hv,Instr.mapUpdate]
  cases hfn:Mf ev k 0 l with
  |none=>
   rw[hfn]at hfg hfd
   have hn:jE k l=none:=by cases h:jE k l<;>simp[h]at hfg ⊢
   refine⟨.map (yZ ek ev 0 l++[(⟨ek k,ev nv,l.length⟩:MapEntry)]).toArray (l.length+1),by simp[(cL.ok hT).run_und w,hg,hk.chk,hfd,zC hF.2],?_⟩
   rw[Cp k nv l hn,Es];simp
  | some q =>
   obtain⟨i,u⟩:=q
   rw[hfn]at hfd
   obtain⟨_,h2,h3,h4⟩:=KP ek ev k nv 0 0 l i u hfn
   rw[Nat.sub_zero]at h2 h3
   have hkey:(((yZ ek ev 0 l).toArray[i]?).map (·.key)).getD (ek k)=ek k:=by
    rw[List.getElem?_toArray,h2];rfl
   refine⟨.map ((yZ ek ev 0 l).toArray.modify i fun e=>{e with key:=ek k,val:=ev nv}) l.length,?_,?_⟩
   ·have hst:(Instr.keyThatStays (ek k) (ek k)).run P w = .ok (ek k) w:=by simp[Instr.keyThatStays,hk.same k]
    have hkey':(Option.map (fun x=>x.key) (yZ ek ev 0 l)[i]?).getD (ek k)=ek k:=by rw[h2];rfl
    simp[(cL.ok hT).run_und w,hg,hk.chk,hfd,hkey',hst,zC hF.2]
   ·rw[h3,h4];simp
 obtain⟨o,hr,ho⟩:=hrun
 simp only[Oper.wp,hr,Oper.upon]
 exact h _ _ s (t.setMap hf o ho)
end
end Go.Sx
end
section
set_option linter.unusedSectionVars false
namespace Go.Sx
open Go.RowKit Go.ChangeMaps
def It (b m len:Nat) (seen:List Nat):aP where
 p w F:=F b∧w.heap[b]? = some (.mapIter (some m) len seen.toArray len)
 mono:=fun⟨h1,h2⟩ h=>by
  obtain⟨h3,h4⟩:=h b h1 (Array.getElem?_eq_some_iff.1 h2).1
  exact⟨h3,by rw[h4];exact h2⟩
section
variable {κ ν:Type} [DecidableEq κ] {ek:κ->Value} {ev:ν->Value} {R:Type}
theorem Ha (ek:κ->Value) (ev:ν->Value):∀(k:Nat) (l:List (κ×ν)) (e:MapEntry),e∈yZ ek ev k l->∃i kv,l[i]? = some kv∧e=⟨ek kv.1,ev kv.2,k+i⟩
 |_,[],e,h=>by simp[yZ]at h
 | k, x :: xs, e, h => by
  rcases List.mem_cons.1 h with rfl|h
  ·exact⟨0,x,rfl,rfl⟩
  ·obtain⟨i,kv,h1,h2⟩:=Ha ek ev (k+1) xs e h
   exact⟨i+1,kv,h1,by rw[h2,show k+1+i=k+(i+1) by omega]⟩
theorem G_ (ek:κ->Value) (ev:ν->Value):∀(k:Nat) (l:List (κ×ν)) (i:Nat) (kv:κ×ν),l[i]? = some kv->(⟨ek kv.1,ev kv.2,k+i⟩:MapEntry)∈yZ ek ev k l
 |_,[],i,kv,h=>by simp at h
 |k,x::xs,0,kv,h=>by simp at h;subst h;exact List.mem_cons_self
 |k,x::xs,i+1,kv,h=>by
  have:=G_ ek ev (k+1) xs i kv (by simpa using h)
  rw[show k+1+i=k+(i+1) by omega]at this
  exact List.mem_cons_of_mem _ this
theorem Iq (ek:κ->Value) (ev:ν->Value):∀(k:Nat) (l:List (κ×ν)),(yZ ek ev k l).map (·.born)=List.range' k l.length
 |_,[]=>rfl
 |k,x::xs=>by simp[yZ,Iq ek ev (k+1) xs,List.range'_succ]
def E_ (step:κ×ν->Option R->Option R) (K:Option R) (l:List (κ×ν)):Option R:=l.foldr step K
def rem (l:List (κ×ν)) (seen:List Nat):List (κ×ν):=((List.range l.length).filter (fun i=> !seen.contains i)).filterMap (fun i=>l[i]?)
theorem Ga:∀l:List (κ×ν),(List.range l.length).filterMap (fun i=>l[i]?)=l
 | []=>rfl
 |x::xs=>by
  rw[List.length_cons,List.range_succ_eq_map,List.filterMap_cons]
  simp only[List.getElem?_cons_zero,List.filterMap_map]
  congr 1
  have:=Ga xs
  simpa [Function.comp_def]using this
theorem Sf (l:List (κ×ν)):rem l []=l:=by
 unfold rem
 rw[List.filter_eq_self.2 (by simp),Ga]
theorem Pu {l:List (κ×ν)} {seen:List Nat} {i:Nat} {kv:κ×ν} (hi:l[i]? = some kv) (hs:i∉seen):∃l1 l2,rem l seen=l1++kv::l2∧rem l (seen++[i])=l1++l2:=by
 have hlt:=aR hi
 have hmem:i∈(List.range l.length).filter (fun i=> !seen.contains i):=by simp[hlt,hs]
 obtain⟨A,B,hAB⟩:=List.append_of_mem hmem
 have hnd:((List.range l.length).filter (fun i=> !seen.contains i)).Nodup:=List.Pairwise.filter _ List.nodup_range
 rw[hAB]at hnd
 have hA:i∉A:=fun h=>by
  have:=(List.nodup_append.1 hnd).2.2 i h i List.mem_cons_self
  exact this rfl
 have hB:i∉B:=fun h=>by
  have:=(List.nodup_cons.1 (List.nodup_append.1 hnd).2.1).1
  exact this h
 refine⟨A.filterMap (fun i=>l[i]?),B.filterMap (fun i=>l[i]?),?_,?_⟩
 ·unfold rem
  rw[hAB,List.filterMap_append,List.filterMap_cons,hi]
 ·unfold rem
  have e:(List.range l.length).filter (fun j=> !(seen++[i]).contains j)=((List.range l.length).filter (fun j=> !seen.contains j)).filter (fun j=>decide (j≠i)):=by
   rw[List.filter_filter]
   apply List.filter_congr
   intro j _
   rw[Bool.eq_iff_iff]
   simp[and_comm]
  rw[e,hAB,List.filter_append,List.filter_cons]
  have fA:A.filter (fun j=>decide (j≠i))=A:=List.filter_eq_self.2 (fun j hj=>by simp;rintro rfl;exact hA hj)
  have fB:B.filter (fun j=>decide (j≠i))=B:=List.filter_eq_self.2 (fun j hj=>by simp;rintro rfl;exact hB hj)
  rw[fA,fB,List.filterMap_append.symm]
  simp
theorem FY {step:κ×ν->Option R->Option R} (hc:∀a b x,step a (step b x)=step b (step a x)) (K:Option R) (kv:κ×ν) (l2:List (κ×ν)):∀l1:List (κ×ν),E_ step K (l1++kv::l2)=step kv (E_ step K (l1++l2))
 | []=>rfl
 |x::xs=>by
  have:=FY hc K kv l2 xs
  unfold E_ at this ⊢
  rw[List.cons_append,List.cons_append,List.foldr_cons,List.foldr_cons,this,hc]
end
section
variable {P:Program} {rd:Option Nat} {c:rA} {n:Sz} {σ σ':Fr} {M L M' L':List aP} {Q:Exit->Act->World->Prop} {ops:Array Oper} {rest:List Oper}
variable {d:Option Tmp} {ty:TypeId} {pos:String} {aft:Array Edge} {g:Option (Nat×Bool)}
variable {κ ν:Type} [DecidableEq κ] {ek:κ->Value} {ev:ν->Value} {R:Type}
theorem aK.range [cL P] (j:Nat) {T kt vt:TypeId} {s1 s2:Nat} {z:Value} {x:Operand} {m:Nat} {l:List (κ×ν)} (hx:Go.Sx.ev σ x=some (.map (some m))) (hf:M[j]? = some (Mp ek ev m l)) (hT:cL.tab P T=some ⟨.map kt vt,s1,s2,z⟩):
  aK P c n σ M L ⟨d,.range T x,ty,pos,aft,g⟩ (fun b:Nat=> .pointer (some ⟨b,0,none⟩)) (fun b=>It b m l.length []::M) (fun _=>L):=fun a w s t=>by
 obtain⟨F,hF⟩:=t.res hf
 have hrun:(execOp a.eval ⟨d,.range T x,ty,pos,aft,g⟩).run P w = .ok (.value (.pointer (some ⟨w.heap.size,0,none⟩))) (w.alloc (.mapIter (some m) l.length #[] l.length)):=by
  simp[execOp,s.eval hx,run_range_map w T kt vt m _ _ (cL.ok hT).und hF.2]
 simp only[Oper.wp,hrun,Oper.upon]
 exact⟨w.heap.size,rfl,t.push _ ⟨rfl,heap_alloc_new w _⟩⟩
def BC (ek:κ->Value) (ev:ν->Value) (l:List (κ×ν)):Option Nat->Value
 |none=> .tuple #[.bool false]
 |some i=>match l[i]? with
  |some kv=> .tuple #[.bool true,ek kv.1,ev kv.2]
  |none=>undef
def UG (len:Nat) (seen:List Nat):Option Nat->Prop
 |none=>∀i,i<len->i∈seen
 |some i=>i<len∧i∉seen
def Lc (M:List aP) (ji b m len:Nat) (seen:List Nat):Option Nat->List aP
 |none=>M
 |some i=>M.set ji (It b m len (seen++[i]))
theorem St.pureL {w:World} {p:Prop} (hp:p) (t:St c M L w):St c M (Tw p::L) w:=by
 obtain⟨ho,F,hF,hL⟩:=t
 refine⟨ho,F,hF,fun f hf=> ?_⟩
 rcases List.mem_cons.1 hf with rfl|hf
 ·exact hp
 ·exact hL f hf
theorem aK.next (jm ji:Nat) {x:Operand} {b m:Nat} {l:List (κ×ν)} {seen:List Nat} (hx:Go.Sx.ev σ x=some (.pointer (some ⟨b,0,none⟩))) (hf:M[jm]? = some (Mp ek ev m l)) (hi:M[ji]? = some (It b m l.length seen)):
  aK P c n σ M L ⟨d,.next x false,ty,pos,aft,g⟩ (BC ek ev l) (Lc M ji b m l.length seen) (fun o=>Tw (UG l.length seen o)::L):=fun a w s t=>by
 obtain⟨F,hF⟩:=t.res hf
 obtain⟨G,hG⟩:=t.res hi
 have hold:∀e∈(yZ ek ev 0 l).toArray.toList,e.born<l.length:=fun e he=>by
  obtain⟨i,kv,h1,h2⟩:=Ha ek ev 0 l e (by simpa using he)
  rw[h2];have:=aR h1;simp;omega
 rcases run_next_at (P:=P) w ty b m l.length l.length seen.toArray (yZ ek ev 0 l).toArray l.length hG.2 hF.2 hold (Nat.le_refl _)with⟨h0,hr⟩|⟨e,he,w1,hw1,hr⟩
 ·have hrun:(execOp a.eval ⟨d,.next x false,ty,pos,aft,g⟩).run P w = .ok (.value (.tuple #[.bool false])) w:=by
   simp[execOp,s.eval hx,hr]
  simp only[Oper.wp,hrun,Oper.upon]
  refine⟨none,rfl,t.pureL fun i hi'=> ?_⟩
  obtain⟨kv,hkv⟩:∃kv,l[i]? = some kv:=⟨_,List.getElem?_eq_getElem hi'⟩
  have:=all_seen _ _ h0 _ (by simpa using G_ ek ev 0 l i kv hkv)
  simpa using this
 ·have hml:=_root_.Go.mem_left he
  obtain⟨i,kv,h1,h2⟩:=Ha ek ev 0 l e (by simpa using hml.1)
  subst h2
  rw[Nat.zero_add]at hr hml
  have hrun:(execOp a.eval ⟨d,.next x false,ty,pos,aft,g⟩).run P w = .ok (.value (.tuple #[.bool true,ek kv.1,ev kv.2])) (setBlock w1 b (.mapIter (some m) l.length (seen.toArray.push i) l.length)):=by
   simp[execOp,s.eval hx,hr]
  simp only[Oper.wp,hrun,Oper.upon]
  have t1:St c M L w1:=by
   rcases hw1 with rfl|rfl
   ·exact t
   ·exact t.ext ((Below.refl _ _).drew)
  refine⟨some i,by simp[BC,h1],St.pureL ⟨aR h1,by simpa using hml.2⟩ ?_⟩
  refine t1.upd hi rfl rfl rfl (by simp[setBlock]) fun F hF _=>⟨fun k _ hk=> ?_,F,⟨hF.1,?_⟩,fun _ h=> .inl h⟩
  ·simp only[setBlock]
   rw[Array.getElem?_setIfInBounds_ne (fun e=>hk (by subst e;exact hF.1))]
  ·simp only[setBlock]
   rw[Array.getElem?_setIfInBounds_self_of_lt (Array.getElem?_eq_some_iff.1 hF.2).1]
   simp
theorem aK.entry (jm ji:Nat) {x:Operand} {b m i:Nat} {l:List (κ×ν)} {seen:List Nat} {kv:κ×ν} (hkv:l[i]? = some kv) (hx:Go.Sx.ev σ x=some (.pointer (some ⟨b,0,none⟩))) (hf:M[jm]? = some (Mp ek ev m l)) (hi:M[ji]? = some (It b m l.length (seen++[i]))):
  aK P c n σ M L ⟨d,.entry x,ty,pos,aft,g⟩ (fun _:Unit=> .tuple #[ek kv.1,ev kv.2]) (fun _=>M) (fun _=>L):=fun a w s t=>by
 obtain⟨F,hF⟩:=t.res hf
 obtain⟨G,hG⟩:=t.res hi
 have he:=G_ ek ev 0 l i kv hkv
 rw[Nat.zero_add]at he
 have hn:((yZ ek ev 0 l).toArray.toList.map (·.born)).Nodup:=by
  simp only[Iq];exact List.nodup_range'
 have hr:=run_entry_at (P:=P) w b m l.length seen.toArray (yZ ek ev 0 l).toArray l.length ⟨ek kv.1,ev kv.2,i⟩ (by rw[hG.2];simp) hF.2 (by simpa using he) hn
 have hrun:(execOp a.eval ⟨d,.entry x,ty,pos,aft,g⟩).run P w = .ok (.value (.tuple #[ek kv.1,ev kv.2])) w:=by
  simp[execOp,s.eval hx,hr]
 simp only[Oper.wp,hrun,Oper.upon]
 exact⟨(),by first|rfl|trivial,t⟩
theorem Qy {G:Act->World->Prop} (σ':Fr) (M' L':List aP) (hs:sL σ σ') (hM:bF M M') (hL:aF [] L L') (h:J c n σ' M' L' G):J c n σ M L G:=fun a w s t=>h a w (s.weak hs) (t.weakE hM hL)
theorem Jp {kt:TypeId} {d:TypeDesc} (hu:P.underlying kt=some d) (chk:∀b k w,(Instr.checkKey b 10000 kt (ek k)).run P w = .ok () w) (now:∀a b,Instr.sameNow d (ek a) (ek b)=none)
  (eq:∀a b w,(Op.equal kt (ek a) (ek b)).run P w = .ok (decide (a=b)) w) (same:∀k,Instr.sameBits 10000 (ek k) (ek k)=true):DG P kt ek:=by
 refine⟨chk,fun {ν'} ev' k l w=> ?_,same⟩
 have ask:∀(l:List (κ×ν')) (i:Nat),(Instr.findAsking kt (ek k) (yZ ek ev' i l) i).run P w = .ok (Mf ev' k i l) w:=by
  intro l
  induction l with
  |nil=>intro i;simp[yZ,Mf,Instr.findAsking]
  |cons x xs ih=>
   intro i
   simp only[yZ,Mf,Instr.findAsking]
   simp[eq]
   by_cases h:k=x.1
   ·simp[h]
   ·simp[h,ih]
 unfold Instr.findKey
 cases l with
 |nil=>simp[yZ,Mf,Instr.findNow,run_underlying hu w]
 |cons x xs=>
  have h1:Instr.findNow d (ek k) (yZ ek ev' 0 (x::xs)) 0=none:=by simp[yZ,Instr.findNow,now]
  simp[run_underlying hu w,h1,ask]
def Ni {R:Type} (c:rA) (n:Sz) (σ:Fr) (M L:List aP) (x:Option R) (r:R) (a:Act) (w:World):Prop:=x=some r∧BU n σ a∧St c M L w
theorem Jo {R:Type} {x:Option R} {r:R} (h:x=some r) (hs:sL σ' σ) (hM:bF M' M) (hL:aF [] L' L):J c n σ' M' L' (Ni c n σ M L x r):=fun _ _ s t=>⟨h,s.weak hs,t.weakE hM hL⟩
theorem LK (step:κ×ν->Option R->Option R) {K:Option R} {r:R} (jm ji:Nat) {b m:Nat} {l:List (κ×ν)} (hc:∀a b x,step a (step b x)=step b (step a x)) (h:E_ step K l=some r)
  (hf:M[jm]? = some (Mp ek ev m l)) (hi:M[ji]? = some (It b m l.length [])) (hne:Nat.beq ji jm=false) {t0 t1 t2:Tmp} (hx:lk σ t0=some (.pointer (some ⟨b,0,none⟩))) (hd1:Nat.blt t1 n.sz=true) (hd2:Nat.blt t2 n.sz=true)
  {id ex:Nat} {y1 y2:TypeId} {q1 q2:String} {f1 f2:Array Edge} {body:Code}
  (round:∀(kv:κ×ν) (i:Nat) (seen:List Nat) (x:Option R),l[i]? = some kv->step kv x=some r->
   J c n ((t2,.bool true)::(t1,.tuple #[.bool true,ek kv.1,ev kv.2])::σ) (M.set ji (It b m l.length (seen++[i]))) L (body.wpr rd P (Exit.then (Ni c n σ (M.set ji (It b m l.length (seen++[i]))) L x r) Q)))
  (fin:∀seen,K=some r->J c n ((t2,.bool false)::(t1,.tuple #[.bool false])::σ) (M.set ji (It b m l.length seen)) L (Q (.exit ex))):
  J c n σ M L ((Code.loop (Code.seq (Code.region id [⟨some t1,.next (.tmp t0) false,y1,q1,f1,none⟩,⟨some t2,.extract (.tmp t1) 0,y2,q2,f2,none⟩].toArray false) (Code.seq (Code.cond (.tmp t2) .skip (.exit ex)) body))).wpr rd P Q):=by
 have hjlt:=aR hi
 have hjm:jm≠ji:=fun e=>by subst e;simp at hne
 have hset:M.set ji (It b m l.length [])=M:=by
  apply List.ext_getElem?
  intro q
  by_cases eq:q=ji
  ·subst eq;rw[List.getElem?_set_self hjlt,hi]
  ·rw[List.getElem?_set_ne (Ne.symm eq)]
 refine M_ (X:=List Nat) (fun seen=>seen.Nodup∧(∀i∈seen,i<l.length)∧E_ step K (rem l seen)=some r) (fun _=>σ) (fun seen=>M.set ji (It b m l.length seen)) (fun _=>L) (fun seen=>l.length - seen.length) [] ⟨List.nodup_nil,by simp,by rw[Sf];exact h⟩ (sL.refl _) (by rw[hset];exact bF.refl _) (fun _ h=>h) ?_
 rintro seen ⟨hnd,hlt,hrun⟩
 have hf':(M.set ji (It b m l.length seen))[jm]? = some (Mp ek ev m l):=by rw[List.getElem?_set_ne (Ne.symm hjm)];exact hf
 have hi':(M.set ji (It b m l.length seen))[ji]? = some (It b m l.length seen):=List.getElem?_set_self hjlt
 refine aM (aQ (aI (aK.next jm ji (x:= .tmp t0) hx hf' hi') hd1 fun o=> ?_))
 refine Tt List.mem_cons_self fun ho=> ?_
 refine Tu (M':=Lc (M.set ji (It b m l.length seen)) ji b m l.length seen o) (L':=L) ?_ (sL.refl _) (bF.refl _) (fun f hf=>List.mem_cons_of_mem _ hf)
 cases o with
 | none =>
  refine aD (vY (vs:=[.bool false]) (by simp[BC,lk,Go.Sx.ev]) rfl) hd2 (fJ (zW (aM (Qv (by simp[lk,Go.Sx.ev]) (yB (lZ (lZ ?_)))))))
  refine fin seen ?_
  have:rem l seen=[]:=by
   unfold rem
   rw[List.filter_eq_nil_iff.2 (fun i hi=>by simpa using ho i (by simpa using hi))]
   rfl
  rw[this]at hrun
  exact hrun
 | some i =>
  obtain⟨h1,h2⟩:=ho
  obtain⟨kv,hkv⟩:∃kv,l[i]? = some kv:=⟨_,List.getElem?_eq_getElem h1⟩
  have hval:BC ek ev l (some i) = .tuple #[.bool true,ek kv.1,ev kv.2]:=by simp[BC,hkv]
  obtain⟨l1,l2,e1,e2⟩:=Pu hkv h2
  have hstep:step kv (E_ step K (rem l (seen++[i])))=some r:=by
   rw[e2,<-FY hc K kv l2 l1,<-e1];exact hrun
  have hMs:Lc (M.set ji (It b m l.length seen)) ji b m l.length seen (some i)=M.set ji (It b m l.length (seen++[i])):=by simp[Lc]
  rw[hval,hMs]
  refine aD (vY (vs:=[.bool true,ek kv.1,ev kv.2]) (by simp[lk,Go.Sx.ev]) rfl) hd2 (fJ (zW (aM (Qw (by simp[lk,Go.Sx.ev]) (e_ (zW ?_))))))
  refine Na (round kv i seen _ hkv hstep) fun a w hw=>ES (fun e a' w' q=> ?_) hw
  cases e with
  | normal =>
   obtain⟨hx',hs',ht'⟩:=q
   refine⟨seen++[i],⟨?_,?_,hx'⟩,?_,hs',ht'⟩
   ·rw[List.nodup_append];exact⟨hnd,by simp,fun a ha b hb=>by simp at hb;subst hb;rintro rfl;exact h2 ha⟩
   ·intro j hj
    rcases List.mem_append.1 hj with hj|hj
    ·exact hlt j hj
    ·simp at hj;subst hj;exact h1
   ·have:seen.length<l.length:=by
     have hsub:(seen++[i]).length<=(List.range l.length).length:=by
      apply List.Nodup.length_le_of_subset
      ·rw[List.nodup_append];exact⟨hnd,by simp,fun a ha b hb=>by simp at hb;subst hb;rintro rfl;exact h2 ha⟩
      ·intro j hj
       rcases List.mem_append.1 hj with hj|hj
       ·simpa using hlt j hj
       ·simp at hj;subst hj;simpa using h1
     simp at hsub;omega
    simp;omega
  |exit id=>exact q
  |goto l=>exact q
  |ret=>exact q
  |panic ch=>exact q
  |outgrown=>exact q
end
end Go.Sx
end
section
namespace Go.Sx
open Go.RowKit
section
section
variable {P:Program} {rd:Option Nat} {c:rA} {n:Sz} {σ σ':Fr} {M L M' L':List aP} {Q:Exit->Act->World->Prop} {ops:Array Oper} {rest:List Oper} {K:Act->World->Prop} {G:Act->World->Prop}
variable {d:Option Tmp} {D:Nat} {ty:TypeId} {pos:String} {aft:Array Edge} {g:Option (Nat×Bool)}
variable {α β:Type} {e:dZ α} {r:eB α}
def AR (P:Program) (f:FuncId) (args:Array Value) (Min L:List aP) {A:Type} (ret:A->Value) (MO:A->List aP->List aP):Prop:=
 ∀c:rA,St c Min L c.w0->Calls P f args c.w0 fun e w'=>∃x:A,e = .returned (ret x)∧St c (MO x []) [] w'
theorem AR.of {A:Type} {ret:A->Value} {MO:A->List aP->List aP} {f:FuncId} {fn:Func} {code:Code} {vs:List Value} {m:Nat} {Min:List aP}
  (hf:P.funcs[f]? = some fn) (hb:fn.body=some code) (hn:fn.ntmps=m) (hm:Nat.ble vs.length m=true)
  (h:∀c:rA,J c ⟨m,[]⟩ (vH 0 vs) Min L (code.wpr none P (kQ P fn (HD c ret MO (fun _ l=>l))))):AR P f vs.toArray Min L ret MO:=fun c t=>by
 have hle:vs.length<=m:=by simpa using hm
 refine qL hf hb (h c _ _ ⟨rfl,by simp[hn,hle],?_⟩ t)
 intro t v hv
 obtain⟨_,h2⟩:=yV vs 0 t v hv
 rw[Nat.sub_zero]at h2
 have hlt:t<vs.length:=by
  rcases Nat.lt_or_ge t vs.length with h'|h'
  ·exact h'
  ·rw[List.getElem?_eq_none h']at h2;cases h2
 rw[Array.getElem?_append_left (by simpa using hlt)]
 simpa using h2
theorem Np {w w':World} {Min Mr M1:List aP} {F:Nat->Nat->Prop} {U:Nat->Prop} (ho:vV c.O c.w0 w) (hF:SK c w (Min++Mr) F) (hL:∀f∈L,f.p w (Ay c F))
  (t:St ⟨w,U,fun k=>∃i,i<Min.length∧F i k⟩ M1 [] w'):St c (M1++Mr) L w':=by
 obtain⟨ho',F',hF',_⟩:=t
 have hsz:=ho'.size
 have hbl:∀k,k<w.heap.size->(∀i,i<Min.length->¬F i k)->w'.heap[k]? = w.heap[k]? := fun k hk hn=>ho'.block k hk (fun⟨i,hi,hF⟩=>hn i hi hF)
 have hmine:∀i k,F' i k->w.heap.size<=k∨∃j,j<Min.length∧F j k:=fun i k hk=>(hF'.rng i k hk).1
 refine⟨⟨ho'.os.trans ho.os,ho'.tape.trans ho.tape,ho'.output.trans ho.output,Nat.le_trans ho.size hsz,fun k hk hO=> ?_⟩,
  fun i k=>(i<M1.length∧F' i k)∨(M1.length<=i∧F (i - M1.length+Min.length) k),⟨?_,?_,?_⟩,fun f hf=> ?_⟩
 ·refine(hbl k (Nat.lt_of_lt_of_le hk ho.size) (fun i _ hFi=> ?_)).trans (ho.block k hk hO)
  rcases(hF.rng i k hFi).1 with h|h
  ·omega
  ·exact hO h
 ·intro i m hm
  by_cases hi:i<M1.length
  ·rw[List.getElem?_append_left hi]at hm
   exact aP.same (hF'.res i m hm) (fun k hk=> .inl ⟨hi,hk⟩) (fun _ _ _=>rfl)
  ·rw[List.getElem?_append_right (by omega)]at hm
   have hm':(Min++Mr)[i - M1.length+Min.length]? = some m:=by
    rw[List.getElem?_append_right (by omega),Nat.add_sub_cancel];exact hm
   exact aP.same (hF.res _ m hm') (fun k hk=> .inr ⟨by omega,hk⟩) (fun k hk hl=>hbl k hl (fun j hj hFj=>by have:=hF.dis _ _ k hFj hk;omega))
 ·rintro i k (⟨_,hk⟩|⟨_,hk⟩)
  ·refine⟨?_,(hF'.rng i k hk).2⟩
   rcases hmine i k hk with h|⟨j,_,h⟩
   ·exact .inl (Nat.le_trans ho.size h)
   ·exact(hF.rng j k h).1
  ·exact⟨(hF.rng _ k hk).1,Nat.lt_of_lt_of_le (hF.rng _ k hk).2 hsz⟩
 ·rintro i j k (⟨hi,h1⟩|⟨hi,h1⟩) (⟨hj,h2⟩|⟨hj,h2⟩)
  ·exact hF'.dis i j k h1 h2
  ·rcases hmine i k h1 with h|⟨q,hq,h⟩
   ·have:=(hF.rng _ k h2).2;omega
   ·have:=hF.dis _ _ k h h2;omega
  ·rcases hmine j k h2 with h|⟨q,hq,h⟩
   ·have:=(hF.rng _ k h1).2;omega
   ·have:=hF.dis _ _ k h h1;omega
  ·have:=hF.dis _ _ k h1 h2;omega
 ·refine f.mono (hL f hf) fun k hk hl=>⟨⟨hk.1,?_⟩,hbl k hl (fun i _=>hk.2 i)⟩
  rintro i (⟨_,h⟩|⟨_,h⟩)
  ·rcases hmine i k h with h'|⟨q,_,h'⟩
   ·omega
   ·exact hk.2 q h'
  ·exact hk.2 _ h
theorem LQ {w:World} {Min Mr L0:List aP} {F:Nat->Nat->Prop} (hF:SK c w (Min++Mr) F) (hL:∀f∈L,f.p w (Ay c F)) (hl:aF Mr L L0):
  St ⟨w,fun k=>∀i,i<Min.length->¬F i k,fun k=>∃i,i<Min.length∧F i k⟩ Min L0 w:=by
 refine⟨vV.refl _,fun i k=>i<Min.length∧F i k,⟨fun i m hm=> ?_,fun i k hk=>⟨.inr ⟨i,hk⟩,(hF.rng i k hk.2).2⟩,fun i j k h1 h2=>hF.dis i j k h1.2 h2.2⟩,fun f hf=> ?_⟩
 ·have hi:i<Min.length:=by
   rcases Nat.lt_or_ge i Min.length with h'|h'
   ·exact h'
   ·rw[List.getElem?_eq_none h']at hm;cases hm
  exact aP.same (hF.res i m (by rw[List.getElem?_append_left hi];exact hm)) (fun k hk=>⟨hi,hk⟩) (fun _ _ _=>rfl)
 ·refine hl f hf w (Ay c F) (fun j k=>F (j+Min.length) k) _ hL (fun j m hj=> ?_) (fun k hk=> ?_) (fun j k hk=> ?_)
  ·exact hF.res _ m (by rw[List.getElem?_append_right (by omega),Nat.add_sub_cancel];exact hj)
  ·exact⟨.inl fun i _=>hk.2 i,fun i hi=>hk.2 i hi.2⟩
  ·exact⟨.inl fun i hi h=>by have:=hF.dis _ _ k h hk;omega,fun i hi=>by have:=hF.dis _ _ k hi.2 hk;omega⟩
theorem wS {A:Type} {ret:A->Value} {MO:A->List aP->List aP} {f:FuncId} {xs:List Operand} {vs:List Value} {ats:Array TypeId} {L0 Min Mr:List aP} (hb:aZ P f)
  (hs:AR P f vs.toArray Min L0 ret MO) (hx:xs.map (ev σ)=vs.map some) (hM:bF M (Min++Mr)) (hL:aF Mr L L0) (hMO:∀x l,MO x l=MO x []++l):
  aK P c n σ M L ⟨d,.call ⟨.value (.func f),xs.toArray,ats⟩,ty,pos,aft,g⟩ ret (fun x=>MO x Mr) (fun _=>L):=fun a w s t=>by
 have hrun:(execOp a.eval ⟨d,.call ⟨.value (.func f),xs.toArray,ats⟩,ty,pos,aft,g⟩).run P w = .ok (.enter f vs.toArray) w:=by
  have e:=VC s hx
  simp[execOp,resolve,Act.eval,Deferred.ofValue,invoke,hb _ w,e]
 simp only[Oper.wp,hrun,Oper.upon]
 obtain⟨ho,F,hF,hLF⟩:=t.weak (L':=L) hM (fun _ h=>h)
 refine(hs _ (LQ hF hLF hL)).mono ?_
 rintro e w' ⟨x,rfl,ht⟩
 refine⟨x,rfl,?_⟩
 rw[hMO]
 exact Np ho hF hLF ht
def Qz {A B:Type} (c:rA) (C:A->Prop) (val:A->B->Value) (MI LI:A->B->List aP) (e:Ending) (w:World):Prop:=∃x y,C x∧e = .returned (val x y)∧St c (MI x y) (LI x y) w
theorem JN {fn:Func} {vs:List Value} {m:Nat} (hn:fn.ntmps=m) (hm:Nat.ble vs.length m=true):BU ⟨m,[]⟩ (vH 0 vs) {tmps:=vs.toArray++Array.replicate (fn.ntmps - vs.toArray.size) undef,defers:=[]}:=by
 have hle:vs.length<=m:=by simpa using hm
 refine⟨rfl,by simp[hn,hle],?_⟩
 intro t v hv
 obtain⟨_,h2⟩:=yV vs 0 t v hv
 rw[Nat.sub_zero]at h2
 have hlt:t<vs.length:=by
  rcases Nat.lt_or_ge t vs.length with h'|h'
  ·exact h'
  ·rw[List.getElem?_eq_none h']at h2;cases h2
 rw[Array.getElem?_append_left (by simpa using hlt)]
 simpa using h2
structure AF (P:Program) (c:rA) (n:Sz) (σ:Fr) (M L:List aP) (o:Oper) (f:FuncId) (vs:List Value):Prop where
 run:∀a w,BU n σ a->St c M L w->(execOp a.eval o).run P w = .ok (.enter f vs.toArray) w
theorem AF.fn {f:FuncId} {xs:List Operand} {vs:List Value} {ats:Array TypeId} (hb:aZ P f) (hx:xs.map (ev σ)=vs.map some):AF P c n σ M L ⟨d,.call ⟨.value (.func f),xs.toArray,ats⟩,ty,pos,aft,g⟩ f vs:=⟨fun a w s _=>by
 have e:=VC s hx
 simp[execOp,resolve,Act.eval,Deferred.ofValue,invoke,hb _ w,e]⟩
def Qk (P:Program) (c:rA) (n:Sz) (σ:Fr) (M L:List aP) (fn:Func) (v:Value):Prop:=∀a w,BU n σ a->St c M L w->(results fn a.tmps).run P w = .ok v w
variable {fn:Func}
theorem Qk.r1 {r1:ResultVar} {v1:Value} (hres:fn.results = #[r1]) (h1:RV P c n σ M L r1 v1):Qk P c n σ M L fn v1:=fun a w s t=>by
 have:=h1 a w s t
 simp only[uD,hres]
 simp[this]
theorem Qk.r2 {r1 r2:ResultVar} {v1 v2:Value} (hres:fn.results = #[r1,r2]) (h1:RV P c n σ M L r1 v1) (h2:RV P c n σ M L r2 v2):Qk P c n σ M L fn (.tuple #[v1,v2]):=fun a w s t=>by
 have h1:=h1 a w s t
 have h2:=h2 a w s t
 simp only[uD,hres]
 simp[h1,h2]
theorem DD {A B:Type} {m:Sz} {v:Value} {ex:Exit} {C:A->Prop} {val:A->B->Value} {MI LI:A->B->List aP} (x:A) (y:B) (hC:C x) (hex:ex = .ret∨ex = .normal) (hr:Qk P c m σ' M L fn v) (hv:v=val x y) (hM:bF M (MI x y)) (hL:aF [] L (LI x y)) (hds:m.ds=[]:=by rfl):
  J c m σ' M L (kQ P fn (Qz c C val MI LI) ex):=fun a w s t=>by
 exact body_end hex (s.defers.trans hds) (hr a w s t) ⟨x,y,hC,by rw[hv],t.weakE hM hL⟩
end
end
section
section
variable {P:Program} {rd:Option Nat} {c:rA} {n:Sz} {σ σ':Fr} {M L M' L':List aP} {Q:Exit->Act->World->Prop} {ops:Array Oper} {rest:List Oper} {K:Act->World->Prop} {G:Act->World->Prop}
variable {d:Option Tmp} {D:Nat} {ty:TypeId} {pos:String} {aft:Array Edge} {g:Option (Nat×Bool)}
variable {α β:Type} {e:dZ α} {r:eB α}
theorem HM (i:Nat) {k:Int} {vs:List Value} {xss:List (List α)} (hf:M[i]? = some (i_ e vs xss)) (h:0<=k∧k<xss.length):
  sY M L (Ar e (at' vs k) (at' xss k)::M.set i (i_ e (vs.set k.toNat (.slice none 0 0)) (xss.set k.toNat []))) L:=fun c w t=>by
 obtain⟨ho,F,hF,hL⟩:=t
 obtain⟨hlen,G,g1,g2,g3⟩:=hF.res i _ hf
 have hkl:k.toNat<vs.length:=by omega
 have hlt:i<M.length:=(List.getElem?_eq_some_iff.1 hf).1
 have hrow:=g1 k.toNat _ _ (iX h.1 (by omega)) (iX h.1 h.2)
 refine⟨ho,fun j q=>match j with|0=>G k.toNat q|j+1=>(j=i∧∃j',j'≠k.toNat∧G j' q)∨(j≠i∧F j q),⟨?_,?_,?_⟩,fun f hf=> ?_⟩
 ·intro j m hm
  cases j with
  |zero=>simp at hm;subst hm;exact hrow
  | succ j =>
   rw[List.getElem?_cons_succ]at hm
   by_cases ej:j=i
   ·subst ej
    rw[List.getElem?_set_self hlt]at hm
    cases hm
    refine⟨by simp[hlen],fun j' q=>j'≠k.toNat∧G j' q,fun j' v xs hv hx=> ?_,fun j' q hq=> .inl ⟨rfl,j',hq⟩,fun j1 j2 q h1 h2=>g3 _ _ q h1.2 h2.2⟩
    by_cases e2:j'=k.toNat
    ·subst e2
     rw[List.getElem?_set_self hkl]at hv
     rw[List.getElem?_set_self (by omega)]at hx
     cases hv;cases hx
     exact⟨by simp,rfl,.inl ⟨rfl,rfl⟩⟩
    ·rw[List.getElem?_set_ne (Ne.symm e2)]at hv hx
     exact aP.same (f:=Ar e v xs) (g1 j' v xs hv hx) (fun q hq=>⟨e2,hq⟩) (fun _ _ _=>rfl)
   ·rw[List.getElem?_set_ne (Ne.symm ej)]at hm
    exact aP.same (hF.res j m hm) (fun q hq=> .inr ⟨ej,hq⟩) (fun _ _ _=>rfl)
 ·intro j q hq
  cases j with
  |zero=>exact hF.rng i q (g2 _ q hq)
  |succ j=>
   rcases hq with⟨_,j',_,hq⟩|⟨_,hq⟩
   ·exact hF.rng i q (g2 _ q hq)
   ·exact hF.rng j q hq
 ·intro j1 j2 q h1 h2
  cases j1 with
  | zero =>
   cases j2 with
   |zero=>rfl
   |succ j2=>
    rcases h2 with⟨_,j',hne,h2⟩|⟨hne,h2⟩
    ·exact absurd (g3 _ _ q h2 h1) hne
    ·exact absurd (hF.dis _ _ q h2 (g2 _ q h1)) hne
  | succ j1 =>
   cases j2 with
   |zero=>
    rcases h1 with⟨_,j',hne,h1⟩|⟨hne,h1⟩
    ·exact absurd (g3 _ _ q h1 h2) hne
    ·exact absurd (hF.dis _ _ q h1 (g2 _ q h2)) hne
   |succ j2=>
    congr 1
    rcases h1 with⟨e1,j',_,h1⟩|⟨e1,h1⟩<;>rcases h2 with⟨e2,j'',_,h2⟩|⟨e2,h2⟩
    ·rw[e1,e2]
    ·exact absurd (hF.dis _ _ q h2 (g2 _ q h1)) e2
    ·exact absurd (hF.dis _ _ q h1 (g2 _ q h2)) e1
    ·exact hF.dis _ _ q h1 h2
 ·refine aP.same (hL f hf) (fun q hq=>⟨hq.1,fun j hj=> ?_⟩) (fun _ _ _=>rfl)
  cases j with
  |zero=>exact hq.2 i (g2 _ q hj)
  |succ j=>
   rcases hj with⟨_,j',_,hj⟩|⟨_,hj⟩
   ·exact hq.2 i (g2 _ q hj)
   ·exact hq.2 j hj
theorem HK (i j:Nat) {u:Value} {k:Int} {vs:List Value} {xss:List (List α)} {ys:List α} (hij:Nat.beq i j=false) (hf:M[i]? = some (i_ e (vs.set k.toNat (.slice none 0 0)) (xss.set k.toNat []))) (hg:M[j]? = some (Ar e u ys)) (h:0<=k∧k<(xss.set k.toNat []).length):
  sY M L ((M.set i (i_ e (vs.set k.toNat u) (xss.set k.toNat ys))).eraseIdx j) L:=by
 have:=rO (L:=L) i j hij hf hg h
 rwa[List.set_set,List.set_set]at this
theorem FA {α:Type} [Inhabited α] (l:List α) {j k:Int} (y:α) (h:j.toNat≠k.toNat):at' (l.set j.toNat y) k=at' l k:=by
 rw[at',at',List.getD_eq_getElem?_getD,List.getD_eq_getElem?_getD,List.getElem?_set_ne h]
theorem sK [cL P] (i:Nat) {r:eB α} (hfit:e.Fits r) {x y:Operand} {u u0:Value} {k j:Int} {vs:List Value} {xss:List (List α)} {ys ys0:List α} {T E:TypeId} {s1 s2 s3 s4:Nat} {z z':Value} {dE:TypeDesc} (hx:ev σ x=some (at' vs k)) (hy:ev σ y=some u) (hf:M[i]? = some (i_ e (vs.set j.toNat u0) (xss.set j.toNat ys0))) (hg:aG M L (Sl r u ys))
  (hT:cL.tab P T=some ⟨.slice E,s1,s2,z⟩) (hE:cL.tab P E=some ⟨dE,s3,s4,z'⟩) (h3:e.sz=s3) (h4:Nat.ble s4 1024=true) (h0:0<=k∧k<xss.length) (hl:((at' xss k).length:Int)+ys.length<=1099511627) (hz:z'.cells.size=s3) (hne:j.toNat≠k.toNat):
  aK P c n σ M L ⟨d,.call ⟨.builtin .append,#[x,y],#[T,T]⟩,ty,pos,aft,g⟩ (fun v':Value=>v') (fun v'=>M.set i (i_ e ((vs.set j.toNat u0).set k.toNat v') ((xss.set j.toNat ys0).set k.toNat (at' xss k++ys)))) (fun _=>L):=by
 have ex:at' (xss.set j.toNat ys0) k=at' xss k:=FA _ _ hne
 have:=iR (P:=P) (c:=c) (n:=n) (σ:=σ) (M:=M) (L:=L) (d:=d) (ty:=ty) (pos:=pos) (aft:=aft) (g:=g) (x:=x) (y:=y) (u:=u) (k:=k) (vs:=vs.set j.toNat u0) (xss:=xss.set j.toNat ys0) (ys:=ys) i hfit (by rw[FA _ _ hne];exact hx) hy hf hg hT hE h3 h4 (by simpa using h0) (by rw[ex];exact hl) hz
 rwa[ex]at this
theorem wR (q:Nat) {vs:List Value} {xss:List (List α)} {k j:Int} {u u2:Value} (hr:M[q]? = some (i_ e ((vs.set k.toNat u).set j.toNat u2) xss)) (hne:k.toNat≠j.toNat) (h:0<=k∧k<xss.length):∀c w,St c M L w->Go.Sx.one u=true:=fun c w t=>by
 obtain⟨S,hl,G',g1,_⟩:=t.res hr
 have hlt:k.toNat<vs.length:=by simp at hl;omega
 obtain⟨_,_,hh⟩:=g1 k.toNat u _ (by rw[List.getElem?_set_ne (Ne.symm hne),List.getElem?_set_self hlt]) (List.getElem?_eq_getElem (by omega))
 rcases hh with⟨hu,_⟩|⟨b,off,cap,T,cur,hu,_⟩<;>(rw[hu];rfl)
theorem Qx {A:Type} {val:A->Value} {M' L':A->List aP} {op:Op} (ho:aK P c n σ M L ⟨none,op,ty,pos,aft,none⟩ val M' L') (h:∀x,J c n σ (M' x) (L' x) (wpList P ops Q rest)):
  J c n σ M L (wpList P ops Q (⟨none,op,ty,pos,aft,none⟩::rest)):=fun a w s t=>
 jA rfl (Eu (kV (fun a' w' ⟨x,he,ht⟩=>by subst he;exact h x _ w' s ht) (ho a w s t)))
end
end
section
section
variable {P:Program} {rd:Option Nat} {c:rA} {n:Sz} {σ σ':Fr} {M L M' L':List aP} {Q:Exit->Act->World->Prop} {ops:Array Oper} {rest:List Oper} {K:Act->World->Prop} {G:Act->World->Prop}
variable {d:Option Tmp} {D:Nat} {ty:TypeId} {pos:String} {aft:Array Edge} {g:Option (Nat×Bool)}
variable {α β:Type} {e:dZ α} {r:eB α}
theorem Hz [cL P] (j:Nat) {T:TypeId} {s2:Nat} {z:Value} {dT:TypeDesc} {x y:Operand} {v u:Value} {i:Int} {xs:List α} (yv:α) (hx:ev σ x=some (Aa v (i.toNat*1))) (hy:ev σ y=some u) (hu:e.enc yv=[u]) (h1u:one u=true)
  (hf:M[j]? = some (Ar e v xs)) (hT:cL.tab P T=some ⟨dT,1,s2,z⟩) (hq:e.sz=1) (h0:0<=i) (h1:i<xs.length):
  aK P c n σ M L ⟨none,.store T x y,ty,pos,aft,none⟩ (fun _:Unit=>undef) (fun _=>M.set j (Ar e v (xs.set i.toNat yv))) (fun _=>L):=fun a w s t=>by
 obtain⟨F,hF⟩:=t.res hf
 have hi:i.toNat<xs.length:=by omega
 have hget:xs[i.toNat]? = some xs[i.toNat]:=List.getElem?_eq_getElem hi
 have hne:xs≠[]:=by intro e;subst e;simp at hi
 obtain⟨p,hp⟩:∃p,e.enc xs[i.toNat]=[p]:=List.length_eq_one_iff.1 ((e.len _).trans hq)
 have hcell:=Bh.cell hF hget (j:=0) (u:=p) (by rw[hp];rfl)
 rw[hq,Nat.add_zero,Nat.mul_one]at hcell
 rw[Nat.mul_one]at hx
 have hfree:=Hv hF hne i.toNat
 have hrun:(execOp a.eval ⟨none,.store T x y,ty,pos,aft,none⟩).run P w = .ok .skip (w.setCell (EU v i.toNat) u):=by
  simp only[execOp,s.eval hx,s.eval hy,Aa]
  simp[A_ (cL.ok hT) rfl h1u hcell hfree]
 simp only[Oper.wp,hrun,Oper.upon]
 refine⟨(),trivial,t.upd hf rfl rfl rfl (by simp[World.setCell]) fun F hF _=> ?_⟩
 obtain⟨hl,h1,hh⟩:=hF
 rcases hh with⟨_,hh⟩|⟨b,off,cap,T',cur,hv,hFb,hb,hk,hc,ht⟩
 ·exact absurd hh hne
 ·subst hv
  have ha:EU (.slice (some ⟨b,off,none⟩) xs.length cap) i.toNat=⟨b,off+i.toNat,none⟩:=by simp[EU,dJ]
  rw[ha]
  refine⟨fun k _ hk'=>Below.heap_setCell _ _ _ _ (fun e=>hk' (by simp only at e;subst e;exact hFb)),F,⟨by simpa using hl,?_,.inr ⟨b,off,cap,T',cur.setIfInBounds (off+i.toNat) u,by simp,hFb,?_,by simpa using hk,by simpa using hc,?_⟩⟩,fun _ h=> .inl h⟩
  ·rw[qM hq hu,List.all_eq_true]
   intro q hq'
   rcases List.mem_or_eq_of_mem_set hq' with h'|h'
   ·exact List.all_eq_true.1 h1 q h'
   ·rw[h'];exact h1u
  ·simp[World.setCell,Array.getElem?_modify,hb]
  ·rw[qM hq hu,<-ht,Array.toList_setIfInBounds,List.length_set,<-take_set]
   congr 1
   rw[List.drop_set,if_neg (by omega),Nat.add_sub_cancel_left]
theorem vE [cL P] (j q:Nat) {T:TypeId} {s2:Nat} {z:Value} {dT:TypeDesc} {x y:Operand} {v u:Value} {i:Int} {vs vs':List Value} {xss:List (List α)} (h:0<=i∧i<xss.length) (hx:ev σ x=some (Aa v (i.toNat*1))) (hy:ev σ y=some u)
  (hf:M[j]? = some (Ar dZ.raw v vs)) (hr:M[q]? = some (i_ e vs' xss)) (hl:vs'.length=vs.length) (h1u:one u=true) (hT:cL.tab P T=some ⟨dT,1,s2,z⟩):
  aK P c n σ M L ⟨none,.store T x y,ty,pos,aft,none⟩ (fun _:Unit=>undef) (fun _=>M.set j (Ar dZ.raw v (vs.set i.toNat u))) (fun _=>L):=fun a w s t=>by
 have hlen:vs'.length=xss.length:=by obtain⟨_,h⟩:=t.res hr;exact h.1
 exact Hz j u hx hy rfl h1u hf hT rfl h.1 (by omega) a w s t
section
variable {l:List Oper} {m:List Nat} {k0:Nat} {H Bs:List (Nat×List aP×List aP)} {rs:List Nat}
theorem Bl {A:Type} {val:A->Value} {M' L':A->List aP} {i:Nat} {op:Op}
  (hi:l[i]? = some ⟨none,op,ty,pos,aft,none⟩) (hk:Nat.blt i k0=true) (hl:cZ op=true) (ho:aK P c n σ M L ⟨none,op,ty,pos,aft,none⟩ val M' L')
  (hB:∀x,vT (before m i) (M' x) (L' x) Bs) (h:∀x,JR c n σ (M' x) (L' x) ((i,M,L)::H) Bs (RW P l.toArray Q (before m) (cW l) k0 rs)):
  JR c n σ M L H Bs (RW P l.toArray Q (before m) (cW l) k0 (i::rs)):=fun a w X Y s t hX hY=>by
 have hi':l.toArray[i]? = some ⟨none,op,ty,pos,aft,none⟩:=by simpa using hi
 simp only[RW,hi']
 rw[if_pos (by simp[Region.wanted])]
 refine .inr (.inr ⟨by simpa [Nat.blt_eq]using hk,by simp[cW,hi,hl],kV ?_ (ho a w s t)⟩)
 rintro a' w' ⟨x,rfl,ht⟩
 exact⟨(hB x).use ht hY,h x _ w' _ Y s ht ⟨rfl,t,hX⟩ hY⟩
end
theorem Ft {A B:Type} {f:FuncId} {fn:Func} {code:Code} {vs:List Value} {m:Nat} {op:Op} (C:A->Prop) (val:A->B->Value) (MI LI:A->B->List aP) (he:AF P c n σ M L ⟨d,op,ty,pos,aft,g⟩ f vs) (hf:P.funcs[f]? = some fn) (hb:fn.body=some code) (hn:fn.ntmps=m) (hm:Nat.ble vs.length m=true)
  (h1:J c ⟨m,[]⟩ (vH 0 vs) M L (code.wpr none P (kQ P fn (Qz c C val MI LI)))):
  aK P c n σ M L ⟨d,op,ty,pos,aft,g⟩ (fun x:{p:A×B // C p.1}=>val x.1.1 x.1.2) (fun x=>MI x.1.1 x.1.2) (fun x=>LI x.1.1 x.1.2):=fun a w s t=>by
 have hrun:=he.run a w s t
 simp only[Oper.wp,hrun,Oper.upon]
 refine(qL hf hb (h1 _ w (JN hn hm) t)).mono ?_
 rintro e w' ⟨x,y,hC,rfl,ht⟩
 exact⟨⟨(x,y),hC⟩,rfl,ht⟩
theorem Jn {A B:Type} {f:FuncId} {fn:Func} {code:Code} {vs:List Value} {m:Nat} {op:Op} (C:A->Prop) (val:A->B->Value) (MI LI:A->B->List aP) (he:AF P c n σ M L ⟨some D,op,ty,pos,aft,none⟩ f vs) (hf:P.funcs[f]? = some fn) (hb:fn.body=some code) (hn:fn.ntmps=m) (hm:Nat.ble vs.length m=true) (hD:Nat.blt D n.sz=true)
  (h1:J c ⟨m,[]⟩ (vH 0 vs) M L (code.wpr none P (kQ P fn (Qz c C val MI LI)))) (h2:∀a b,C a->J c n ((D,val a b)::σ) (MI a b) (LI a b) (wpList P ops Q rest)):J c n σ M L (wpList P ops Q (⟨some D,op,ty,pos,aft,none⟩::rest)):=
 aI (Ft C val MI LI he hf hb hn hm h1) hD fun⟨⟨a,b⟩,hC⟩=>h2 a b hC
section
variable {l:List Oper} {mm:List Nat} {k0:Nat} {H Bs:List (Nat×List aP×List aP)} {rs:List Nat}
theorem Kw {A B:Type} {i:Nat} {f:FuncId} {fn:Func} {code:Code} {vs:List Value} {m:Nat} {op:Op} (C:A->Prop) (val:A->B->Value) (MI LI:A->B->List aP) (hi:l[i]? = some ⟨some D,op,ty,pos,aft,none⟩) (hk:Nat.blt i k0=true) (hl:cZ op=true) (he:AF P c n σ M L ⟨some D,op,ty,pos,aft,none⟩ f vs) (hf:P.funcs[f]? = some fn) (hb:fn.body=some code) (hn:fn.ntmps=m) (hm:Nat.ble vs.length m=true) (hD:Nat.blt D n.sz=true)
  (hB:∀a b,vT (before mm i) (MI a b) (LI a b) Bs) (h1:J c ⟨m,[]⟩ (vH 0 vs) M L (code.wpr none P (kQ P fn (Qz c C val MI LI)))) (h2:∀a b,C a->JR c n ((D,val a b)::σ) (MI a b) (LI a b) ((i,M,L)::H) Bs (RW P l.toArray Q (before mm) (cW l) k0 rs)):
  JR c n σ M L H Bs (RW P l.toArray Q (before mm) (cW l) k0 (i::rs)):=
 JR.loud hi hk hl (Ft C val MI LI he hf hb hn hm h1) hD (fun _=>hB _ _) fun⟨⟨a,b⟩,hC⟩=>h2 a b hC
end
theorem zZ [cL P] {T E:TypeId} {k s1 s2 s3 s4:Nat} {z z':Value} {dE:TypeDesc} {x y:Operand} {v:Value} {o:Nat} {i:Int} (hx:ev σ x=some (Aa v o)) (hy:ev σ y=some (.int .i64 i))
  (hT:cL.tab P T=some ⟨.array k E,s1,s2,z⟩) (hE:cL.tab P E=some ⟨dE,s3,s4,z'⟩) (_h3:(s3==0)=false) (h:0<=i∧i<(k:Int)):
  Y P c n σ M L ⟨d,.indexAddr T x y,ty,pos,aft,g⟩ (Aa v (o+i.toNat*s3)):=fun a w s t=>by
 simp[execOp,s.eval hx,s.eval hy,Instr.indexAt,asIntOf,(cL.ok hT).run_und w,h,Instr.sureAddr,Aa,(cL.ok hE).run_size w,Di]
theorem bK {x:Operand} {b o:Nat} (hx:ev σ x=some (.pointer (some ⟨b,o,none⟩))):Y P c n σ M L ⟨d,.nilCheck x,ty,pos,aft,g⟩ (.pointer (some ⟨b,o,none⟩)):=fun a w s t=>by
 simp[execOp,s.eval hx]
theorem HA [cL P] [Inhabited α] (j:Nat) {T:TypeId} {s2 k o q:Nat} {z:Value} {dT:TypeDesc} {x y:Operand} {v u:Value} {us:List Value} {i:Int} {xs:List α} (yv:α) (h:0<=i∧i<xs.length) (hx:ev σ x=some (Aa v (i.toNat*q+o))) (hy:ev σ y=some u)
  (hf:M[j]? = some (Ar e v xs)) (hq:e.sz=q) (hu:u.cells=us.toArray) (hk:us.length=k) (ho:Nat.ble (o+k) q=true) (hyv:e.enc yv=(e.enc (at' xs i)).take o++us++(e.enc (at' xs i)).drop (o+k)) (h1u:us.all one=true) (hT:cL.tab P T=some ⟨dT,k,s2,z⟩):
  aK P c n σ M L ⟨none,.store T x y,ty,pos,aft,none⟩ (fun _:Unit=>undef) (fun _=>M.set j (Ar e v (xs.set i.toNat yv))) (fun _=>L):=fun a w s t=>by
 subst hq hk
 have hok:o+us.length<=e.sz:=by simpa using ho
 have hi:i.toNat<xs.length:=by omega
 have t0:=t
 obtain⟨hoo,FF,hO,hLL⟩:=t0
 obtain⟨h0,hone,hh⟩:=hO.res j _ hf
 rcases hh with⟨_,rfl⟩|⟨b,off,cap,T',cur,rfl,hFb,hbk,hcp,hc,ht⟩
 ·simp at hi
 -- the parts of the row
 obtain⟨l,x0,tl,hxs,hl⟩:∃l x0 tl,xs=l++x0::tl∧l.length=i.toNat:=⟨xs.take i.toNat,xs[i.toNat],xs.drop (i.toNat+1),by rw[List.getElem_cons_drop,List.take_append_drop],by simp;omega⟩
 have hat:at' xs i=x0:=by
  rw[at',List.getD_eq_getElem?_getD,<-hl,hxs,List.getElem?_append_right (Nat.le_refl _)];simp
 rw[hat]at hyv
 have eE:=e.len x0
 have eA:(cellsOf e l).length=i.toNat*e.sz:=by rw[dN,hl]
 have hcells:cellsOf e xs=cellsOf e l++(e.enc x0++cellsOf e tl):=by rw[hxs];simp[cellsOf]
 have hset:cellsOf e (xs.set i.toNat yv)=cellsOf e l++(e.enc yv++cellsOf e tl):=by
  have:xs.set i.toNat yv=l++yv::tl:=by rw[hxs,<-hl,List.set_append_right _ _ (Nat.le_refl _)];simp
  rw[this];simp[cellsOf]
 have hmul:xs.length*e.sz<=cap*e.sz:=Nat.mul_le_mul_right _ hcp
 obtain⟨Hd,R,hcur,hH⟩:∃Hd R,cur.toList=Hd++(cellsOf e l++(e.enc x0++(cellsOf e tl++R)))∧Hd.length=off:=by
  refine⟨cur.toList.take off,(cur.toList.drop off).drop (xs.length*e.sz),?_,by simp;omega⟩
  have e1:cellsOf e l++(e.enc x0++(cellsOf e tl++(cur.toList.drop off).drop (xs.length*e.sz)))=cur.toList.drop off:=by
   have:cellsOf e l++(e.enc x0++(cellsOf e tl++(cur.toList.drop off).drop (xs.length*e.sz)))=cellsOf e xs++(cur.toList.drop off).drop (xs.length*e.sz):=by rw[hcells];simp
   rw[this,<-ht,List.take_append_drop]
  rw[e1,List.take_append_drop]
 have hsize:cur.size=cur.toList.length:=by simp
 have hp1:cur.toList.take (off+(i.toNat*e.sz+o))=Hd++(cellsOf e l++(e.enc x0).take o):=by
  have:cur.toList=(Hd++(cellsOf e l++(e.enc x0).take o))++((e.enc x0).drop o++(cellsOf e tl++R)):=by
   rw[hcur,List.append_assoc,List.append_assoc,<-List.append_assoc ((e.enc x0).take o),List.take_append_drop]
  rw[this]
  exact List.take_left' (by simp[hH,eA,eE];omega)
 have hp2:cur.toList.drop (off+(i.toNat*e.sz+o)+us.length)=(e.enc x0).drop (o+us.length)++(cellsOf e tl++R):=by
  have:cur.toList=(Hd++(cellsOf e l++(e.enc x0).take (o+us.length)))++((e.enc x0).drop (o+us.length)++(cellsOf e tl++R)):=by
   rw[hcur,List.append_assoc,List.append_assoc,<-List.append_assoc ((e.enc x0).take (o+us.length)),List.take_append_drop]
  rw[this]
  exact List.drop_left' (by simp[hH,eA,eE];omega)
 have hbound:(i.toNat+1)*e.sz<=xs.length*e.sz:=Nat.mul_le_mul_right _ (by omega)
 have hb2:(i.toNat+1)*e.sz=i.toNat*e.sz+e.sz:=by rw[Nat.add_mul,Nat.one_mul]
 have hfit:off+(i.toNat*e.sz+o)+0+us.length<=cur.size:=by omega
 have hst:=run_storeCells_at P b (off+(i.toNat*e.sz+o)) T' us 0 cur w hbk hfit (fun u hu=>nQ (List.all_eq_true.1 h1u u hu))
 simp only[Nat.add_zero]at hst
 have hsz:(cL.ok hT).run_size w=(cL.ok hT).run_size w:=rfl
 have hrun:(execOp a.eval ⟨none,.store T x y,ty,pos,aft,none⟩).run P w = .ok .skip (w.setRow b (cur.toList.take (off+(i.toNat*e.sz+o))++us++cur.toList.drop (off+(i.toNat*e.sz+o)+us.length)).toArray):=by
  simp[execOp,s.eval hx,s.eval hy,Aa,EU,Instr.storeAt,Instr.sureAddr,storeVar,hu,(cL.ok hT).run_size w,dJ,hst]
 simp only[Oper.wp,hrun,Oper.upon]
 refine⟨(),trivial,?_⟩
 refine Dh hoo hO hLL hf rfl rfl rfl (by simp) (fun k _ hk'=>setRow_other w b k _ (fun e=>hk' (by subst e;exact hFb))) (F':=FF j) ?_ (fun k hk=> .inl hk)
 have hlen2:(e.enc yv).length=e.sz:=e.len yv
 refine⟨by simpa using h0,?_,.inr ⟨b,off,cap,T',_,by simp,hFb,setRow_heap w b _ _ T' _ hbk,by simpa using hcp,?_,?_⟩⟩
 ·rw[hset]
  rw[hcells]at hone
  simp only[List.all_append,Bool.and_eq_true]at hone ⊢
  refine⟨hone.1,?_,hone.2.2⟩
  rw[hyv]
  simp only[List.all_append,Bool.and_eq_true]
  refine⟨⟨List.all_eq_true.2 fun u hu=>List.all_eq_true.1 hone.2.1 u (List.mem_of_mem_take hu),h1u⟩,List.all_eq_true.2 fun u hu=>List.all_eq_true.1 hone.2.1 u (List.mem_of_mem_drop hu)⟩
 ·simp only[List.size_toArray,List.length_append,List.length_take,List.length_drop]
  omega
 ·show((cur.toList.take _++us++cur.toList.drop _).drop off).take ((xs.set i.toNat yv).length*e.sz)=_
  rw[hp1,hp2,hset,hyv,List.length_set]
  have e3:(Hd++(cellsOf e l++(e.enc x0).take o)++us++((e.enc x0).drop (o+us.length)++(cellsOf e tl++R)))=Hd++((cellsOf e l++(((e.enc x0).take o++us++(e.enc x0).drop (o+us.length))++cellsOf e tl))++R):=by simp
  rw[e3,<-hH,List.drop_left]
  refine List.take_left' ?_
  have hT2:(cellsOf e tl).length=tl.length*e.sz:=dN e tl
  have hxl:xs.length=i.toNat+1+tl.length:=by rw[hxs,<-hl];simp;omega
  rw[hyv]at hlen2
  rw[List.length_append,List.length_append,hlen2,eA,hT2,hxl,Nat.add_mul,Nat.add_mul,Nat.one_mul]
  omega
end
end
end Go.Sx
end
section
namespace Go.Sx
section
variable {P:Program} {M L:List aP} {α β γ:Type} {r:eB α} {s:eB γ} {q:eB β}
def eB.Deep (r:eB α) (q:eB β) (f:α->Value×List β):Prop:=∀{w S es x},r.R w S es x->yF q w S (f x).1 (f x).2
theorem yE (q:eB β):(eB.sl q).Deep q (fun x=>x):=fun h=>h.2
theorem LN {f:α->Value×List β} (h:r.Deep q f):(r.pair s).Deep q (fun x=>f x.1):=by
 rintro w S es x ⟨c1,c2,rfl,h1,_⟩
 exact h h1
theorem zX {f:α->Value×List β} (h:r.Deep q f):(s.pair r).Deep q (fun x=>f x.2):=by
 rintro w S es x ⟨c1,c2,rfl,_,h1⟩
 exact h h1
theorem qF [Inhabited α] {v:Value} {xs:List α} {i:Int} {f:α->Value×List β} (h:aG M L (Sl r v xs)) (hd:r.Deep q f) (h0:0<=i) (h1:i<xs.length):aG M L (Sl q (f (at' xs i)).1 (f (at' xs i)).2):=h.mono fun {w U} hs=>by
 obtain⟨es,hr,_⟩:=sl_cell hs (iX h0 h1)
 exact hd hr
theorem JD [cL P] {c:rA} {n:Sz} {σ:Fr} {d:Option Tmp} {ty:TypeId} {pos:String} {aft:Array Edge} {g:Option (Nat×Bool)} {T E:TypeId} {s1 s2 s3 s4 m b:Nat} {z z':Value} {dE:TypeDesc} {x hi:Operand} {k:Int} (hx:ev σ x=some (.pointer (some ⟨b,0,none⟩))) (hhi:ev σ hi=some (.int .i64 k))
  (hT:cL.tab P T=some ⟨.array m E,s1,s2,z⟩) (hE:cL.tab P E=some ⟨dE,s3,s4,z'⟩) {q:Int} (h:0<=k∧k<=((m:Nat):Int)∧k<=q):Y P c n σ M L ⟨d,.slice T x none (some hi) none,ty,pos,aft,g⟩ (.slice (some ⟨b,0,none⟩) k.toNat m):=fun a w s t=>by
 have h1:0<=k∧k<=(m:Int):=⟨h.1,h.2.1⟩
 simp[execOp,s.eval hx,s.eval hhi,Instr.sliceAt,Instr.slice,(cL.ok hT).run_und w,Instr.sliceBounds,Instr.sliceBound,asIntOf,(cL.ok hE).run_size w,h1,asAddr,Addr.add,Instr.sureAddr]
theorem Ng {e:dZ α} {i b T m:Nat} {k:Int} {xs:List α} (hM:M[i]? = some (dD b (cellsOf e xs) T)) (hfit:e.Fits r) (h:0<=k∧k<=((m:Nat):Int)∧k<=(xs.length:Int)) (hmax:m<=9223372036854775807):aG M L (Sl r (.slice (some ⟨b,0,none⟩) k.toNat m) (xs.take k.toNat)):=fun w S T U hL hM' hS hT=>by
 have hB:=hM' i _ hM
 have hl:(xs.take k.toNat).length=k.toNat:=by simp;omega
 refine⟨some ⟨b,0,none⟩,m,by rw[hl],by rw[hl];omega,.inr ⟨b,0,rfl,hT _ _ hB.1,fun j x hx=> ?_⟩⟩
 have hx':xs[j]? = some x:=by
  rw[List.getElem?_take]at hx
  split at hx
  ·exact hx
  ·cases hx
 obtain⟨hsz,he,hr,_⟩:=hfit
 refine⟨e.enc x,fun q u hu=> ?_,hr⟩
 have hc:=uW e xs _ _ hx' _ _ hu
 rw[hsz,Nat.zero_add]
 exact dD.cell hB hc
def eB.All (r:eB α) (n:Nat) (g:α->List Value):Prop:=r.sz=n∧∀{w S es x},r.R w S es x->es=g x
theorem Jx {e:dZ α} (h:e.Fits r):r.All e.sz e.enc:=⟨h.1,h.2.1⟩
theorem Jy (q:eB β):(eB.sl q).All 1 (fun x=>[x.1]):=⟨rfl,fun h=>h.1⟩
theorem Gt {n m:Nat} {f:α->List Value} {g:γ->List Value} (h:r.All n f) (k:s.All m g):(r.pair s).All (n+m) (fun x=>f x.1++g x.2):=⟨by show r.sz+s.sz=_;rw[h.1,k.1],by
 rintro w S es x ⟨c1,c2,rfl,h1,h2⟩
 rw[h.2 h1,k.2 h2]⟩
theorem JB [cL P] [Inhabited α] {c:rA} {n:Sz} {σ:Fr} {d:Option Tmp} {ty:TypeId} {pos:String} {aft:Array Edge} {g:Option (Nat×Bool)} {T:TypeId} {s2 q m:Nat} {z:Value} {dT:TypeDesc} {x:Operand} {v:Value} {i:Int} {xs:List α} {cs:List Value} {f:α->List Value} (hx:ev σ x=some (Aa v (i.toNat*q))) (hf:aG M L (Sl r v xs)) (hD:r.All m f) (hcs:f (at' xs i)=cs)
  (hT:cL.tab P T=some ⟨dT,cs.length,s2,z⟩) (hd:sN dT=true) (hq:m=q) (h:0<=i∧i<xs.length):Y P c n σ M L ⟨d,.load T x,ty,pos,aft,g⟩ (.agg cs.toArray):=fun a w s t=>by
 obtain⟨h0,h1⟩:=h
 obtain⟨S,h⟩:=hf.st t
 obtain⟨es,hr,hes⟩:=sl_cell h (iX h0 h1)
 have:=hD.2 hr
 subst this hcs
 rw[hD.1,hq]at hes
 have:=vA (w:=w) (A:=EU v (i.toNat*q)) (cs:=f (at' xs i)) (cL.ok hT) hd rfl (fun j u hu=>by rw[Di];exact hes j u hu)
 simp[execOp,s.eval hx,Aa,this]
end
end Go.Sx
end
section
namespace Go.Sx
open Go.RowKit
section
section
variable {P:Program} {c:rA} {n:Sz} {σ:Fr} {M L:List aP} {d:Option Tmp} {ty:TypeId} {pos:String} {aft:Array Edge} {g:Option (Nat×Bool)}
def Vn (v:Value) (m:Nat):Prop:=∃a cap,v = .slice a m cap∧(m=0∨∃b off,a=some ⟨b,off,none⟩)
theorem Know.len {α:Type} {r:eB α} {v:Value} {xs:List α} (hf:aG M L (Sl r v xs)):∀c w,St c M L w->Vn v xs.length:=fun c w t=>by
 obtain⟨S,a',cap,hv,_,h⟩:=hf.st t
 exact⟨a',cap,hv,h.imp (fun h=>by simp[h]) fun⟨b,off,e,_⟩=>⟨b,off,e⟩⟩
theorem HP [cL P] {T E:TypeId} {s1 s2 s3 s4 m:Nat} {z z':Value} {dE:TypeDesc} {x y:Operand} {v:Value} {i:Int} (hx:ev σ x=some v) (hy:ev σ y=some (.int .i64 i)) (hv:Vn v m)
  (hT:cL.tab P T=some ⟨.slice E,s1,s2,z⟩) (hE:cL.tab P E=some ⟨dE,s3,s4,z'⟩) (h:0<=i∧i<(m:Int)):Y P c n σ M L ⟨d,.indexAddr T x y,ty,pos,aft,g⟩ (Aa v (i.toNat*s3)):=fun a w st t=>by
 obtain⟨a',cap,rfl,hv⟩:=hv
 obtain⟨h0,h1⟩:=h
 rcases hv with rfl|⟨b,off,rfl⟩
 ·omega
 ·simp[execOp,st.eval hx,st.eval hy,Cw w (cL.ok hT) rfl (cL.ok hE) b off _ cap i h0 h1]
theorem xL {α:Type} [Inhabited α] (l:List α) (k:Int) (h:k.toNat<l.length) (h0:0<=k):l.set k.toNat (at' l k)=l:=by
 have:=iX (xs:=l) h0 (by omega)
 refine List.ext_getElem? fun i=> ?_
 by_cases e:k.toNat=i
 ·subst e
  rw[List.getElem?_set_self h,this]
 ·rw[List.getElem?_set_ne e]
theorem yD [cL P] {α:Type} [Inhabited α] {e:dZ α} (j:Nat) {T:TypeId} {s2 m o q:Nat} {z:Value} {dT:TypeDesc} {x y:Operand} {u:Value} {us:List Value} {i k:Int} {vs:List Value} {xss:List (List α)} (yv:α) (hk:0<=k∧k<xss.length) (h:0<=i∧i<(at' xss k).length) (hx:ev σ x=some (Aa (at' vs k) (i.toNat*q+o))) (hy:ev σ y=some u)
  (hf:M[j]? = some (i_ e vs xss)) (hq:e.sz=q) (hu:u.cells=us.toArray) (hm:us.length=m) (ho:Nat.ble (o+m) q=true) (hyv:e.enc yv=(e.enc (at' (at' xss k) i)).take o++us++(e.enc (at' (at' xss k) i)).drop (o+m)) (h1u:us.all one=true) (hT:cL.tab P T=some ⟨dT,m,s2,z⟩):
  aK P c n σ M L ⟨none,.store T x y,ty,pos,aft,none⟩ (fun _:Unit=>undef) (fun _=>M.set j (i_ e vs (xss.set k.toNat ((at' xss k).set i.toNat yv)))) (fun _=>L):=fun a w s t=>by
 have hl:=cD j hf c w t
 have hj:j<M.length:=(List.getElem?_eq_some_iff.1 hf).1
 refine kV (fun a' w' ⟨x,he,ht⟩=>⟨x,he,?_⟩) (HA 0 yv h hx hy rfl hq hu hm ho hyv h1u hT a w s (HM j hf hk c w t))
 have hb:=HK (j+1) 0 (u:=at' vs k) (k:=k) (vs:=vs) (xss:=xss) (ys:=(at' xss k).set i.toNat yv) (e:=e) rfl (by simp[hj]) rfl (by simpa using hk) c w' ht
 simp only[List.set_cons_zero,List.set_cons_succ,List.eraseIdx_cons_zero,List.set_set]at hb
 rw[xL vs k (by omega) hk.1]at hb
 exact hb
end
theorem bF.ix {M M':List aP} (l:List Nat) (hn:decide l.Nodup=true) (h:l.map (fun i=>M[i]?)=M'.map some):bF M M':=by
 have hn:l.Nodup:=of_decide_eq_true hn
 have hl:l.length=M'.length:=by simpa using congrArg List.length h
 refine⟨fun i=>l.getD i 0,fun i j hi hj e=> ?_,fun i m hm=> ?_⟩
 ·have h1:i<l.length:=by omega
  have h2:j<l.length:=by omega
  simp only[List.getD_eq_getElem?_getD,List.getElem?_eq_getElem h1,List.getElem?_eq_getElem h2,Option.getD_some]at e
  exact(List.getElem_inj hn).1 e
 ·have hi:i<l.length:=by rw[hl];exact(List.getElem?_eq_some_iff.1 hm).1
  have:=congrArg (fun q=>q[i]?) h
  simp only[List.getElem?_map,List.getElem?_eq_getElem hi,hm,Option.map_some,Option.some.injEq]at this
  simpa [List.getD_eq_getElem?_getD,List.getElem?_eq_getElem hi]using this
def dZ.fn:dZ Nat:=⟨1,Nat.one_pos,fun f=>[.func (.func f) #[] #[]],fun _=>rfl⟩
def eB.fn:eB Nat:=⟨1,Nat.one_pos,fun _ _ cs x=>cs=[.func (.func x) #[] #[]],fun h=>by simp[h],fun h _=>h⟩
theorem Hw:dZ.fn.Fits eB.fn:=⟨rfl,fun h=>h,rfl,fun _=>rfl⟩
end
section
variable {P:Program} {rd:Option Nat} {c:rA} {n:Sz} {σ:Fr} {M L:List aP} {Q:Exit->Act->World->Prop} {ops:Array Oper} {rest:List Oper} {d:Nat} {ty:TypeId} {pos:String} {aft:Array Edge} {x y:Operand} {v:Value} {K:Act->World->Prop}
abbrev vS (x:ByteArray):Value:= .string x
abbrev vB (x:Bool):Value:= .bool x
theorem fL {β:Type} {p G:Prop} {_:Decidable p} {u:Option β} {r:β} (h:ck p u=some r) (k:p->u=some r->G):G:=k (KL h).1 (KL h).2
theorem fE {β γ:Type} {G:Prop} {u:Option β} {f:β->Option γ} {r:γ} (h:u.bind f=some r) (k:∀y,u=some y->f y=some r->G):G:=by
  obtain⟨y,h1,h2⟩:=bnd h
  exact k y h1 h2
theorem qC (l:List Nat) {L0:List aP} (h:l.map (L[·]?)=L0.map some):aF M L L0:=fun f hf=>by
  have hm:some f∈l.map (L[·]?):=h▸List.mem_map_of_mem hf
  obtain⟨j,_,hj⟩:=List.mem_map.1 hm
  exact aG.fact j hj
theorem tR.ix (l:List Nat) {L0:List aP} (h:l.map (L[·]?)=L0.map some):tR L L0:=fun f hf=>by
  have hm:some f∈l.map (L[·]?):=h▸List.mem_map_of_mem hf
  obtain⟨j,_,hj⟩:=List.mem_map.1 hm
  exact List.mem_of_getElem? hj
theorem oF {f:aP} (i:Nat) (h:L[i]? = some f):tR L [f]:=tR.cons (List.mem_of_getElem? h) tR.nil
/-- which of the early loads must still hold,with the numbers of what they have read -/
def T_ (A:Nat->Bool):List (List Nat×List Nat)->List (Nat×List aP×List aP)->List (List Nat×List Nat×List aP×List aP)
  |_,[]=>[]
  |q,(j,Mx,Lx)::B=>bif A j||(Mx.isEmpty&&Lx.isEmpty)then T_ A q B else((q.headD ([],[])).1,(q.headD ([],[])).2,Mx,Lx)::T_ A q.tail B
theorem uQ {A:Nat->Bool} (q:List (List Nat×List Nat)) {B:List (Nat×List aP×List aP)} (h:(T_ A q B).map (fun z=>(decide z.1.Nodup,z.1.map (M[·]?),z.2.1.map (L[·]?)))=(T_ A q B).map (fun z=>(true,z.2.2.1.map some,z.2.2.2.map some))):vT A M L B:=by
  induction B generalizing q with
  |nil=>exact vT.z
  | cons b B ih =>
    obtain⟨j,Mx,Lx⟩:=b
    cases ha:A j with
    |true=>exact vT.b ha (ih q (by simpa [T_,ha]using h))
    | false =>
      cases he:(Mx.isEmpty&&Lx.isEmpty)with
      | true =>
        obtain⟨e1,e2⟩:=Bool.and_eq_true_iff.1 he
        rw[List.isEmpty_iff]at e1 e2
        subst e1;subst e2
        exact vT.h bF.nil tR.nil (ih q (by simpa [T_,ha]using h))
      | false =>
        simp only[T_,ha,he,Bool.or_self,cond_false,List.map_cons,List.cons.injEq,Prod.mk.injEq]at h
        exact vT.h (bF.ix _ h.1.1 h.1.2.1) (tR.ix _ h.1.2.2) (ih q.tail h.2)
def Wv (A:Nat->Bool):List (Nat×List aP×List aP)->Bool
  | []=>true
  |(j,_,_)::H=>bif A j then Wv A H else false
theorem XT {A:Nat->Bool} {Mx Lx:List aP} {H:List (Nat×List aP×List aP)} (h:Wv A H=true):aO A Mx Lx H:=by
  induction H with
  |nil=>exact aO.z
  | cons b B ih =>
    obtain⟨j,_,_⟩:=b
    cases ha:A j with
    |false=>simp[Wv,ha]at h
    |true=>exact aO.b ha (ih (by simpa [Wv,ha]using h))
theorem hkN {A:Nat->Bool} {H:List (Nat×List aP×List aP)}:aO A [] [] H:=by
  induction H with
  |nil=>exact aO.z
  |cons b B ih=>exact aO.h bF.nil tR.nil ih
theorem lD {T:Operand} (h:(ev σ T,ev σ x,Nat.blt d n.sz)=(some (.bool true),some v,true)) (k:J c n ((d,v)::σ) M L (wpList P ops Q rest)):J c n σ M L (wpList P ops Q (⟨some d,.pick T x y,ty,pos,aft,none⟩::rest)):=by
  simp only[Prod.mk.injEq]at h
  exact aD (QE h.1 h.2.1) h.2.2 k
theorem jU {T:Operand} (h:(ev σ T,ev σ y,Nat.blt d n.sz)=(some (.bool false),some v,true)) (k:J c n ((d,v)::σ) M L (wpList P ops Q rest)):J c n σ M L (wpList P ops Q (⟨some d,.pick T x y,ty,pos,aft,none⟩::rest)):=by
  simp only[Prod.mk.injEq]at h
  exact aD (QD h.1 h.2.1) h.2.2 k
theorem eT {vs:List Value} {i:Nat} (h:(ev σ x,vs[i]?,Nat.blt d n.sz)=(some (.tuple vs.toArray),some v,true)) (k:J c n ((d,v)::σ) M L (wpList P ops Q rest)):J c n σ M L (wpList P ops Q (⟨some d,.extract x i,ty,pos,aft,none⟩::rest)):=by
  simp only[Prod.mk.injEq]at h
  exact aD (vY h.1 h.2.1) h.2.2 k
theorem pC {t t':TypeId} {i:IntKind} {p q:Int} (h:(ev σ x,ev σ y,Nat.blt d n.sz)=(some (.int i p),some (.int i q),true)) (k:J c n ((d,.bool (decide (p≠q)))::σ) M L (wpList P ops Q rest)):J c n σ M L (wpList P ops Q (⟨some d,.binOp .neq t x y t',ty,pos,aft,none⟩::rest)):=by
  simp only[Prod.mk.injEq]at h
  exact aD (HR h.1 h.2.1) h.2.2 k
theorem F_ {t t':TypeId} {i:IntKind} {p q:Int} (h:(ev σ x,ev σ y,Nat.blt d n.sz)=(some (.int i p),some (.int i q),true)) (k:J c n ((d,.int i (uP i p q))::σ) M L (wpList P ops Q rest)):J c n σ M L (wpList P ops Q (⟨some d,.binOp .and t x y t',ty,pos,aft,none⟩::rest)):=by
  simp only[Prod.mk.injEq]at h
  exact aD (Vp h.1 h.2.1) h.2.2 k
theorem jT [cL P] {α:Type} {r:eB α} {T E:TypeId} {s1 s2:Nat} {z:Value} {xs:List α} (hf:aG M L (Sl r v xs)) (h:(ev σ x,cL.tab P T,Nat.blt d n.sz)=(some v,some ⟨.slice E,s1,s2,z⟩,true)) (k:J c n ((d,.int .i64 xs.length)::σ) M L (wpList P ops Q rest)):J c n σ M L (wpList P ops Q (⟨some d,.call ⟨.builtin .len,#[x],#[T]⟩,ty,pos,aft,none⟩::rest)):=by
  simp only[Prod.mk.injEq]at h
  exact aD (mV h.1 hf h.2.1) h.2.2 k
variable {l:List Oper} {m:List Nat} {k0:Nat} {H Bs:List (Nat×List aP×List aP)} {rs:List Nat}
theorem oJ {i dd:Nat} {op:Op} (hi:l[i]? = some ⟨some dd,op,ty,pos,aft,none⟩) (hy:Y P c n σ [] [] ⟨some dd,op,ty,pos,aft,none⟩ v)
    (h:JR c n ((dd,v)::σ) M L H ((i,[],[])::Bs) (RW P l.toArray Q (before m) (cW l) k0 rs))
    (hk:Nat.blt i k0=true:=by exact rfl) (hl:cZ op=false:=by exact rfl) (hd:Nat.blt dd n.sz=true:=by exact rfl):JR c n σ M L H Bs (RW P l.toArray Q (before m) (cW l) k0 (i::rs)):=bO hi bF.nil tR.nil hy hkN h hk hl hd
end
end Go.Sx
end
section
namespace Go.Sx
section
abbrev bM:=List Int
abbrev eC:=List (Int×Int)
abbrev bJ:=List bM
abbrev d_:=List eC
abbrev CB:=(ByteArray×(List (ByteArray×Int×Int×Int×Int×Int))×(List (ByteArray×(Value×eC)×(Value×List (Int×(Value×eC))))))×((ByteArray×(List (ByteArray×Int×Int×Int×Int×Int))×(List (ByteArray×(Value×eC)×(Value×List (Int×(Value×eC))))))×(bM×d_)×Int×bJ)×d_
abbrev tJ:=ByteArray×(List (ByteArray×Int×Int×Int×Int×Int))×(List (ByteArray×(Value×eC)×(Value×List (Int×(Value×eC)))))
abbrev Ht:=((ByteArray×(List (ByteArray×Int×Int×Int×Int×Int))×(List (ByteArray×(Value×eC)×(Value×List (Int×(Value×eC))))))×(bM×d_)×Int×bJ)×bJ×Int×eC
abbrev MJ:=(ByteArray×(List (ByteArray×Int×Int×Int×Int×Int))×(List (ByteArray×(Value×eC)×(Value×List (Int×(Value×eC))))))×(bM×d_)×Int×bJ
abbrev wM:=Int×bM×bM×bM×Bool×Bool
abbrev Sy:=(((ByteArray×(List (ByteArray×Int×Int×Int×Int×Int))×(List (ByteArray×(Value×eC)×(Value×List (Int×(Value×eC))))))×(bM×d_)×Int×bJ)×bJ×Int×eC)
abbrev oY:=List (Value×eC)
abbrev pH:=List (Value×bM)
abbrev gA:=bM×d_
abbrev iN:=List Value
abbrev zS:=ByteArray×Int×Int×Int×Int×Int
abbrev eY:=(Nat×Nat)
abbrev CX:=List (ByteArray×Int×Int×Int×Int×Int)
abbrev gL:=(Int×Int)
abbrev nS:=((bM×d_))
abbrev fO:=Int×Int
abbrev Ge:=List ((Nat×Nat)×eC×List (Int×eC))
abbrev CY:=Int×(List ((Int×Int)×Int))
abbrev Gf:=(Int×(List ((Int×Int)×Int)))
abbrev AO:=Value×List Value
abbrev uM:=(bJ×Int)
abbrev rI:=Int×bJ
abbrev IS:=Value×Value×List Value
abbrev Tl:=ByteArray×List (ByteArray×Int×Int×Int×Int×Int)×List (eC×List (Int×eC))
end
section
abbrev mG:Value:=Value.slice none 0 0
abbrev Qq:List Value:=[vI (0:Int),vI (0:Int)]
abbrev WF:List Value:=[vS (ByteArray.mk #[]),mG,mG]
abbrev vD2:List Value:=[vS (ByteArray.mk #[]),vI (0:Int),vI (0:Int),vI (0:Int),vI (0:Int),vI (0:Int)]
end
end Go.Sx
end
section
namespace Go.Proofs.YtlciiihigmgaiaaGreat
open Go.Sx
section
abbrev ESt:dZ ByteArray:=⟨1,Nat.one_pos,fun x=>[.string x],fun _=>rfl⟩
abbrev XJ:eB ByteArray:=⟨1,Nat.one_pos,fun _ _ cs x=>cs=[.string x],fun h=>by simp[h],fun h _=>h⟩
theorem FSt:ESt.Fits XJ:=⟨rfl,fun h=>h,rfl,fun _=>rfl⟩
abbrev cU:dZ Int:=dZ.int .i64
abbrev bP:eB Int:=eB.int .i64
theorem eL:cU.Fits bP:=Gq .i64
theorem fC:bP.Cell 0 (fun x=> .int .i64 x):=Gu .i64
abbrev Ax:dZ (ByteArray×Int×Int×Int×Int×Int):=dZ.pair ESt (dZ.pair cU (dZ.pair cU (dZ.pair cU (dZ.pair cU (cU)))))
abbrev aH:eB (ByteArray×Int×Int×Int×Int×Int):=eB.pair XJ (eB.pair bP (eB.pair bP (eB.pair bP (eB.pair bP (bP)))))
theorem sX:Ax.Fits aH:=kY FSt (kY eL (kY eL (kY eL (kY eL (eL)))))
theorem rC:aH.Cell 1 (fun x=> .int .i64 x.2.1):=cA (lJ (fC))
theorem xW:aH.Cell 2 (fun x=> .int .i64 x.2.2.1):=cA (cA (lJ (fC)))
theorem xX:aH.Cell 3 (fun x=> .int .i64 x.2.2.2.1):=cA (cA (cA (lJ (fC))))
theorem xY:aH.Cell 4 (fun x=> .int .i64 x.2.2.2.2.1):=cA (cA (cA (cA (lJ (fC)))))
theorem xZ:aH.Cell 5 (fun x=> .int .i64 x.2.2.2.2.2):=cA (cA (cA (cA (cA (fC)))))
abbrev bX:dZ gL:=dZ.pair cU (cU)
abbrev bH:eB gL:=eB.pair bP (bP)
theorem bG:bX.Fits bH:=kY eL (eL)
theorem wT:bH.Cell 0 (fun x=> .int .i64 x.1):=lJ (fC)
theorem Jv:bH.Cell 1 (fun x=> .int .i64 x.2):=cA (fC)
abbrev mP:eB (Int×(Value×eC)):=eB.pair bP ((eB.sl bH))
theorem EX:mP.All 2 (fun x=>[Value.int .i64 (x.1),x.2.1]):=(Gt (Jx eL) (Jy bH))
theorem xS:mP.Deep bH (fun x=>x.2):=zX (yE bH)
abbrev aC:eB (ByteArray×(Value×eC)×(Value×List (Int×(Value×eC)))):=eB.pair XJ (eB.pair (eB.sl bH) ((eB.sl mP)))
theorem s_:aC.Cell 1 (fun x=>x.2.1.1):=cA (lJ (eB.sl_cell bH))
theorem tB:aC.Deep bH (fun x=>x.2.1):=zX (LN (yE bH))
theorem tA:aC.Cell 2 (fun x=>x.2.2.1):=cA (cA (eB.sl_cell mP))
theorem eI:aC.Deep mP (fun x=>x.2.2):=zX (zX (yE mP))
abbrev EFn:dZ Nat:=dZ.fn
abbrev RFn:eB Nat:=eB.fn
theorem FFn:EFn.Fits RFn:=Hw
abbrev Dc:dZ (Int×Nat):=dZ.pair cU (EFn)
abbrev QA:eB (Int×Nat):=eB.pair bP (RFn)
theorem uT:Dc.Fits QA:=kY eL (FFn)
abbrev Vj:dZ Bool:=dZ.bool
def IW (x:Int):Value:=Value.int .i64 (x)
def jV (x:fO):Value:=Value.agg #[Value.int .i64 (x.1),Value.int .i64 (x.2)]
theorem Ou (x y:fO) (m:Nat) (w:World):(Op.equalIn (m+2) 138 (.agg #[.int .i64 x.1,.int .i64 x.2]) (.agg #[.int .i64 y.1,.int .i64 y.2])).run Tryz.prog w = .ok (decide (x=y)) w:=by
 have h3:∀a b:Int,(Op.equalIn (m+1) 3 (.int .i64 a) (.int .i64 b)).run Tryz.prog w = .ok (a==b) w:=by
  intro a b
  simp[Op.equalIn]
 unfold Op.equalIn
 simp[show List.range' 0 2=[0,1]from rfl,part,isAgg,h3]
 obtain⟨a0,a1⟩:=x
 obtain⟨c0,c1⟩:=y
 by_cases e0:a0=c0<;>by_cases e1:a1=c1<;>simp[e0,e1,h3]
theorem NO (b:Bool) (k:fO) (w:World):(Instr.checkKey b 10000 138 (jV k)).run Tryz.prog w = .ok () w:=by
 have key:∀m:Nat,(Instr.checkKey b (m+2) 138 (jV k)).run Tryz.prog w = .ok () w:=by
  intro m
  simp[Instr.checkKey,jV,part,isAgg,show List.range' 0 2=[0,1]from rfl]
 exact key 9998
theorem GY:DG Tryz.prog 138 jV:=Jp Tryz.underlying138 NO (fun _ _=>rfl) (fun a b w=>Ou a b 9998 w) (fun k=>by
 have key:∀m:Nat,Instr.sameBits (m+2) (jV k) (jV k)=true:=fun m=>by simp[Instr.sameBits,jV]
 exact key 9998)
theorem wA (u0:Value) (h0:one u0=true) (init:Array Value) (h:init.size=1*1):Instr.fill (fun i=>some (i*1,1)) init [(0,u0)]=some [u0].toArray:=by
 obtain⟨l⟩:=init
 match l,h with
 | [z0],_=>simp[Instr.fill,mT h0]
theorem sG (u0 u1:Value) (init:Array Value) (h:init.size=1*2):Instr.fill (fun i=>some (i*2,2)) init [(0,.agg #[u0,u1])]=some [u0,u1].toArray:=by
 obtain⟨l⟩:=init
 match l,h with
 | [z0,z1],_=>simp[Instr.fill,Value.cells]
theorem Od (u0 u1 u2 u3 u4 u5:Value) (init:Array Value) (h:init.size=3*2):Instr.fill (fun i=>some (i*2,2)) init [(0,.agg #[u0,u1]),(1,.agg #[u2,u3]),(2,.agg #[u4,u5])]=some [u0,u1,u2,u3,u4,u5].toArray:=by
 obtain⟨l⟩:=init
 match l,h with
 | [z0,z1,z2,z3,z4,z5],_=>simp[Instr.fill,Value.cells]
end
section
def sD (p0:Int) (a2:Bool):Option (Int):=
 if a2=true then(some (-1:Int))else(if p0<=(17:Int)then(some (0:Int))else(if p0<=(29:Int)then(some (1:Int))else(if p0<=(42:Int)then(some (2:Int))else(some (3:Int)))))
def qU (U:Nat) (p0:Int):Option (Int):=
 if p0<(1:Int)then(sD p0 (true))else(sD p0 (decide ((43:Int)<p0)))
theorem QO:aZ Tryz.prog 106:=Tryz.call106
theorem Hr (U:Nat) {p0:Int} (r:Int) (h:qU U p0=some r):
  bA Tryz.prog 106 #[vI (p0)] [] (fun x:Unit=>vI (r)) (fun x l=>l) (fun _ l=>l):=by
 refine bA.of Tryz.func106 rfl Tryz.ntmps106 rfl fun c=>?_
 refine aS<|aE rfl<|aN<|aM<|aX<|aM<|jS (fun a2=>sD p0 a2=some r) (fun a2 b3=>[(0,vI (p0)),(3,vB (a2))]) (fun a2 b3=>[]) ?_ ?_
 ·refine aQ<|aA rfl<|dR rfl<|aA rfl ?_
  refine EV h rfl (fun _ h=>?_) fun _ h=>?_
  ·refine aT rfl<|aT rfl<|lD rfl<|aE rfl<|aN ?_
   exact lW (true) () h SF rfl
  refine eQ rfl<|bT rfl (Bp rfl rfl) rfl<|jU rfl<|aE rfl<|aN ?_
  exact lW (decide ((43:Int)<p0)) () h SF rfl
 intro a2 b3 h
 refine Cb h rfl (fun _ h=>?_) fun _ h=>?_
 ·refine aS<|aE rfl<|aN<|aU<|bR<|aJ ?_
  cases h
  exact kW rfl
 refine aS<|aA rfl<|aD (Bq rfl rfl) rfl<|aE rfl<|aN ?_
 refine fM h rfl (fun h=>?_) fun h=>?_
 ·refine aS<|aE rfl<|aN<|aU<|bR<|aJ ?_
  cases h
  exact kW rfl
 refine aS<|aA rfl<|aD (Bq rfl rfl) rfl<|aE rfl<|aN ?_
 refine fM h rfl (fun h=>?_) fun h=>?_
 ·refine aS<|aE rfl<|aN<|aU<|bR<|aJ ?_
  cases h
  exact kW rfl
 refine aS<|aA rfl<|aD (Bq rfl rfl) rfl<|aE rfl<|aN ?_
 refine fM h rfl (fun h=>?_) fun h=>?_
 ·refine aS<|aE rfl<|aN<|aU<|bR<|aJ ?_
  cases h
  exact kW rfl
 refine e_<|qB<|aS<|aE rfl<|aN<|aU ?_
 cases h
 exact kW rfl
end
section
def zR  (a5:Unit):Option (Int):=
 some (-1:Int)
def iM (U:Nat) (p0:eC) (a10:fO) (ag9:gL->Option (Int)):Option (Int):=
 if a10.1<(List.length p0:Int)then(ck (0<=a10.1∧a10.1<(List.length p0:Int)) (Option.bind (qU U ((at' p0 a10.1).1)) fun r15=>(if r15<(0:Int)then(some (-1:Int))else(if(wI .i64 (a10.2+(wI .i64 (r15 - (1:Int)))))=(0:Int)then(some (wI .i64 (a10.1+(1:Int))))else(ag9 ((wI .i64 (a10.1+(1:Int))),(wI .i64 (a10.2+(wI .i64 (r15 - (1:Int)))))))))))else(zR  (()))
def vD (U:Nat) (p0:eC) (p1:Int) (a2:Bool):Option (Int):=
 if a2=true then(some (-1:Int))else(bU (iM U p0) U (p1,(1:Int)))
def xF (U:Nat) (p0:eC) (p1:Int):Option (Int):=
 if p1<(0:Int)then(vD U p0 p1 (true))else(vD U p0 p1 (decide ((List.length p0:Int)<=p1)))
theorem TW:aZ Tryz.prog 75:=Tryz.call75
theorem Kl (U:Nat) {p0:eC} {p1:Int} (v0:Value) (r:Int) (h:xF U p0 p1=some r):
  bA Tryz.prog 75 #[v0,vI (p1)] [Sl bH v0 p0] (fun x:Unit=>vI (r)) (fun x l=>l) (fun _ l=>l):=by
 refine bA.of Tryz.func75 rfl Tryz.ntmps75 rfl fun c=>?_
 refine aS<|aE rfl<|aN<|aM<|aM<|jS (fun a2=>vD U p0 p1 a2=some r) (fun a2 b3=>[(0,v0),(1,vI (p1)),(14,vB (a2))]) (fun a2 b3=>[]) ?_ ?_
 ·refine aQ<|aA rfl<|dR rfl<|aA rfl ?_
  refine EV h rfl (fun _ h=>?_) fun _ h=>?_
  ·refine aT rfl<|aT rfl<|aT rfl<|aT rfl<|lD rfl<|aN ?_
   exact lW (true) () h SF rfl
  refine eQ rfl<|eQ rfl<|bT rfl (mV rfl (aG.fact 0 rfl) rfl) rfl<|bT rfl (Fy rfl rfl) rfl<|jU rfl<|aN ?_
  exact lW (decide ((List.length p0:Int)<=p1)) () h SF rfl
 intro a2 b3 h
 refine Cb h rfl (fun _ h=>?_) fun _ h=>?_
 ·refine aS<|aE rfl<|aN<|aU<|aJ ?_
  cases h
  exact kW rfl
 refine dV<|aM<|jS (fun a5=>zR  a5=some r) (fun a5 b6=>[]) (fun a5 b6=>[]) ?_ ?_
 ·refine aS<|aE rfl<|aN<|aX<|gG (iM U p0) (fun a10 b11=>[(0,v0),(1,vI (a10.1)),(5,vI (a10.2))]) (fun a10 b11=>[]) (p1,(1:Int)) () h SF (bF.refl _) ?_
  intro k12 a10 b11 h
  refine aM<|aS<|aA rfl<|aA rfl<|jT (aG.fact 0 rfl) rfl<|dR rfl<|aN ?_
  refine fM h rfl (fun h=>?_) fun h=>?_
  ·refine dV<|aM<|aX<|aS<|aA rfl<|aA rfl<|fL h fun j14 h=>aD (bN rfl rfl (aG.fact 0 rfl) rfl rfl j14) rfl<|aD (lK rfl rfl rfl rfl rfl) rfl<|aD (mY rfl (aG.fact 0 rfl) rfl rfl rfl wT j14) rfl<|fE h fun r15 w16 h=>aI (aK.callQ QO (Hr U  r15 w16) rfl .nil) rfl fun x17=>aE rfl<|aN<|aM<|aS<|aA rfl<|dR rfl<|aN ?_
   refine fM h rfl (fun h=>?_) fun h=>?_
   ·refine aS<|aE rfl<|aN<|aU<|aJ<|bR<|aJ<|aJ<|bR<|aJ ?_
    cases h
    exact kW rfl
   refine dV<|aS<|aA rfl<|aA rfl<|aD (rP rfl rfl) rfl<|dG rfl<|aE rfl<|aN<|aS<|aA rfl<|cN rfl<|aN ?_
   refine fM h rfl (fun h=>?_) fun h=>?_
   ·refine aS<|aA rfl<|dG rfl<|aE rfl<|aN<|aU<|bR<|aJ<|aJ<|bR<|aJ ?_
    cases h
    exact kW rfl
   refine e_<|qB<|aQ<|aA rfl<|dG rfl<|aE rfl<|aN ?_
   exact Bf ((wI .i64 (a10.1+(1:Int))),(wI .i64 (a10.2+(wI .i64 (r15 - (1:Int)))))) () h SF rfl
  refine h_ ?_
  exact lW () (()) h SF rfl
 intro a5 b6 h
 unfold zR at h
 refine aS<|aE rfl<|aN<|aU ?_
 cases h
 exact kW rfl
end
section
def fN (U:Nat) (p0:Bool):Option (Int):=
 if p0=true then(some (1:Int))else(some (0:Int))
theorem rV:aZ Tryz.prog 149:=Tryz.call149
theorem iC (U:Nat) {p0:Bool} (r:Int) (h:fN U p0=some r):
  bA Tryz.prog 149 #[vB (p0)] [] (fun x:Unit=>vI (r)) (fun x l=>l) (fun _ l=>l):=by
 refine bA.of Tryz.func149 rfl Tryz.ntmps149 rfl fun c=>?_
 refine aS<|aE rfl<|aN<|aM<|aS<|aA rfl<|aN ?_
 refine Cb h rfl (fun _ h=>?_) fun _ h=>?_
 ·refine aS<|aE rfl<|aN<|aU<|aJ ?_
  cases h
  exact kW rfl
 refine dV<|aS<|aE rfl<|aN<|aU ?_
 cases h
 exact kW rfl
end
section
def nL (U:Nat) (p0:MJ) (p1:Int) (p2:Int) (p3:Int):Option (Int):=
 if p1=(6:Int)then(some (List.length p0.2.1.1:Int))else(if p1=(7:Int)then(some (p0.2.2.1))else(if p1=(8:Int)then(ck (0<=p2∧p2<(List.length p0.2.1.1:Int)) (some (at' p0.2.1.1 p2)))else(if p1=(9:Int)then(ck (0<=p2∧p2<(List.length p0.2.1.2:Int)) (some (List.length (at' p0.2.1.2 p2):Int)))else(if p1=(10:Int)then(Option.bind (fN U (decide (p2=(0:Int)))) fun r8=>(some (r8)))else(if p1=(11:Int)then(some (p3))else(ck (0<=p2∧p2<(List.length p0.2.1.2:Int)) (ck (0<=p3∧p3<(List.length (at' p0.2.1.2 p2):Int)) (if p1=(13:Int)then(ck (0<=((at' (at' p0.2.1.2 p2) p3).1)∧((at' (at' p0.2.1.2 p2) p3).1)<(List.length p0.2.1.1:Int)) (some (at' p0.2.1.1 ((at' (at' p0.2.1.2 p2) p3).1))))else(if p1=(14:Int)then(ck (0<=((at' (at' p0.2.1.2 p2) p3).1)∧((at' (at' p0.2.1.2 p2) p3).1)<(List.length p0.2.1.2:Int)) (some (List.length (at' p0.2.1.2 ((at' (at' p0.2.1.2 p2) p3).1)):Int)))else(if p1=(15:Int)then(Option.bind (fN U (decide (((at' (at' p0.2.1.2 p2) p3).1)=(0:Int)))) fun r20=>(some (r20)))else(if p1=(16:Int)then(some ((at' (at' p0.2.1.2 p2) p3).2))else(ck (0<=p2∧p2<(List.length p0.2.2.2:Int)) (ck (0<=p3∧p3<(List.length (at' p0.2.2.2 p2):Int)) (some (at' (at' p0.2.2.2 p2) p3)))))))))))))))
theorem QY:aZ Tryz.prog 148:=Tryz.call148
theorem zH (U:Nat) {p0:MJ} {p1:Int} {p2:Int} {p3:Int} (bx0:Nat)  (v1:Value)  (v2:Value)  (v3:Value)  (v4:Value)  (z5:oY)  (v6:Value)  (z7:pH) (r:Int) (h:nL U p0 p1 p2 p3=some r):
  bA Tryz.prog 148 #[vP bx0,vI (p1),vI (p2),vI (p3)] [dD bx0 [vS (p0.1.1),v1,v2,v3,v4,vI (p0.2.2.1),v6] 161,Sl aH v1 p0.1.2.1,Sl aC v2 p0.1.2.2,Sl bP v3 p0.2.1.1,S2 bH v4 z5 p0.2.1.2,S2 bP v6 z7 p0.2.2.2] (fun x:Unit=>vI (r)) (fun x l=>l) (fun _ l=>l):=by
 refine bA.of Tryz.func148 rfl Tryz.ntmps148 rfl fun c=>?_
 refine aS<|aE rfl<|aN<|aM<|aS<|aA rfl<|aN<|aX<|aS<|cN rfl<|aE rfl<|aN ?_
 refine fM h rfl (fun h=>?_) fun h=>?_
 ·refine aS<|aA rfl<|aD (bK rfl) rfl<|cH rfl<|cH rfl<|aD (cT rfl (aG.fact 0 rfl) rfl rfl rfl) rfl<|jT (aG.fact 3 rfl) rfl<|aE rfl<|aN<|aU<|bR<|aJ ?_
  cases h
  exact kW rfl
 refine aS<|cN rfl<|aE rfl<|aN ?_
 refine fM h rfl (fun h=>?_) fun h=>?_
 ·refine aS<|aA rfl<|aD (bK rfl) rfl<|cH rfl<|aD (cT rfl (aG.fact 0 rfl) rfl rfl rfl) rfl<|aE rfl<|aN<|aU<|bR<|aJ ?_
  cases h
  exact kW rfl
 refine aS<|cN rfl<|aE rfl<|aN ?_
 refine fM h rfl (fun h=>?_) fun h=>?_
 ·refine aS<|aA rfl<|aD (bK rfl) rfl<|cH rfl<|cH rfl<|aD (cT rfl (aG.fact 0 rfl) rfl rfl rfl) rfl<|aA rfl<|fL h fun j4 h=>aD (bN rfl rfl (aG.fact 3 rfl) rfl rfl j4) rfl<|aD (dM rfl (aG.fact 3 rfl) rfl rfl rfl fC j4) rfl<|aE rfl<|aN<|aU<|bR<|aJ ?_
  cases h
  exact kW rfl
 refine aS<|cN rfl<|aE rfl<|aN ?_
 refine fM h rfl (fun h=>?_) fun h=>?_
 ·refine aS<|aA rfl<|aD (bK rfl) rfl<|cH rfl<|cH rfl<|aD (cT rfl (aG.fact 0 rfl) rfl rfl rfl) rfl<|aA rfl<|fL h fun j6 h=>aD (cX rfl rfl (aG.fact 4 rfl) rfl rfl j6) rfl<|aD (dH rfl (aG.fact 4 rfl) rfl rfl j6) rfl<|aD (mV rfl (aG.el (aG.fact 4 rfl) j6.1 j6.2) rfl) rfl<|aE rfl<|aN<|aU<|bR<|aJ ?_
  cases h
  exact kW rfl
 refine aS<|cN rfl<|aE rfl<|aN ?_
 refine fM h rfl (fun h=>?_) fun h=>?_
 ·refine aS<|aA rfl<|cN rfl<|fE h fun r8 w9 h=>aI (aK.callQ rV (iC U  r8 w9) rfl .nil) rfl fun x10=>aE rfl<|aN<|aU<|bR<|aJ ?_
  cases h
  exact kW rfl
 refine aS<|cN rfl<|aE rfl<|aN ?_
 refine fM h rfl (fun h=>?_) fun h=>?_
 ·refine aS<|aA rfl<|aE rfl<|aN<|aU<|bR<|aJ ?_
  cases h
  exact kW rfl
 refine e_<|qB<|aS<|aA rfl<|aD (bK rfl) rfl<|cH rfl<|cH rfl<|aD (cT rfl (aG.fact 0 rfl) rfl rfl rfl) rfl<|aA rfl<|fL h fun j12 h=>aD (cX rfl rfl (aG.fact 4 rfl) rfl rfl j12) rfl<|aD (dH rfl (aG.fact 4 rfl) rfl rfl j12) rfl<|aA rfl<|fL h fun j13 h=>aD (bN rfl rfl (aG.el (aG.fact 4 rfl) j12.1 j12.2) rfl rfl j13) rfl<|aD (iS (cs:=[vI ((at' (at' p0.2.1.2 p2) p3).1),vI ((at' (at' p0.2.1.2 p2) p3).2)]) rfl (aG.el (aG.fact 4 rfl) j12.1 j12.2) bG rfl rfl rfl rfl j13) rfl<|aI (aK.alloc (cs:=Qq) rfl rfl) rfl fun b14=>bZ 0 (vs:=[vI ((at' (at' p0.2.1.2 p2) p3).1),vI ((at' (at' p0.2.1.2 p2) p3).2)]) rfl rfl rfl rfl rfl rfl<|aN<|aM<|aS<|aA rfl<|aN<|aX<|aS<|cN rfl<|aE rfl<|aN ?_
 refine fM h rfl (fun h=>?_) fun h=>?_
 ·refine aM ?_
  refine JR.start [0,1,3,7,15,0,32,127,255,511] 7 mixedOrders (by decide +kernel) ?_
  refine JR.open (by exact rfl) ?_
  refine bL rfl<|oJ rfl (bK rfl)<|cQ rfl<|cQ rfl<|bO rfl .nil (oF 0 rfl) (cT rfl (aG.fact 0 rfl) rfl rfl rfl) aO.z<|cQ rfl<|kF 0 rfl<|cR 7 rfl rfl<|fL h fun j16 h=>aD (bN rfl rfl (aG.fact 3 rfl) rfl rfl j16) rfl<|aD (dM rfl (aG.fact 3 rfl) rfl rfl rfl fC j16) rfl<|aE rfl<|aN<|aU<|bR<|aJ ?_
  cases h
  exact wO rfl
 refine aS<|cN rfl<|aE rfl<|aN ?_
 refine fM h rfl (fun h=>?_) fun h=>?_
 ·refine aM ?_
  refine JR.start [0,1,3,7,15,0,32,127,255,511,1023] 7 mixedOrders (by decide +kernel) ?_
  refine JR.open (by exact rfl) ?_
  refine bL rfl<|oJ rfl (bK rfl)<|cQ rfl<|cQ rfl<|bO rfl .nil (oF 0 rfl) (cT rfl (aG.fact 0 rfl) rfl rfl rfl) aO.z<|cQ rfl<|kF 0 rfl<|cR 7 rfl rfl<|fL h fun j18 h=>aD (cX rfl rfl (aG.fact 4 rfl) rfl rfl j18) rfl<|aD (dH rfl (aG.fact 4 rfl) rfl rfl j18) rfl<|aD (mV rfl (aG.el (aG.fact 4 rfl) j18.1 j18.2) rfl) rfl<|aE rfl<|aN<|aU<|bR<|aJ ?_
  cases h
  exact wO rfl
 refine aS<|cN rfl<|aE rfl<|aN ?_
 refine fM h rfl (fun h=>?_) fun h=>?_
 ·refine aS<|cH rfl<|gE 0 rfl<|cN rfl<|fE h fun r20 w21 h=>aI (aK.callQ rV (iC U  r20 w21) rfl .nil) rfl fun x22=>aE rfl<|aN<|aU<|bR<|aJ ?_
  cases h
  exact wO rfl
 refine aS<|cN rfl<|aE rfl<|aN ?_
 refine fM h rfl (fun h=>?_) fun h=>?_
 ·refine aS<|cH rfl<|gE 0 rfl<|aE rfl<|aN<|aU<|bR<|aJ ?_
  cases h
  exact wO rfl
 refine e_<|qB<|aS<|aA rfl<|aD (bK rfl) rfl<|cH rfl<|aD (cT rfl (aG.fact 0 rfl) rfl rfl rfl) rfl<|aA rfl<|fL h fun j24 h=>aD (cX rfl rfl (aG.fact 5 rfl) rfl rfl j24) rfl<|aD (dH rfl (aG.fact 5 rfl) rfl rfl j24) rfl<|aA rfl<|fL h fun j25 h=>aD (bN rfl rfl (aG.el (aG.fact 5 rfl) j24.1 j24.2) rfl rfl j25) rfl<|aD (dM rfl (aG.el (aG.fact 5 rfl) j24.1 j24.2) rfl rfl rfl fC j25) rfl<|aE rfl<|aN<|aU ?_
 cases h
 exact wO rfl
end
section
def iY (U:Nat) (p0:Ht) (p1:fO) (p2:Int):Option (Int):=
 if p1.1=(1:Int)then(some (p1.2))else(if p1.1=(2:Int)then(some (1:Int))else(if p1.1=(3:Int)then(some (0:Int))else(if p1.1=(4:Int)then(some (-1:Int))else(if p1.1=(5:Int)then(ck (0<=p0.2.2.1∧p0.2.2.1<(List.length p0.2.1:Int)) (ck (0<=p1.2∧p1.2<(List.length (at' p0.2.1 p0.2.2.1):Int)) (some (at' (at' p0.2.1 p0.2.2.1) p1.2))))else(if p1.1=(12:Int)then(ck (0<=p0.2.2.1∧p0.2.2.1<(List.length p0.1.2.1.2:Int)) (ck (0<=p2∧p2<(List.length (at' p0.1.2.1.2 p0.2.2.1):Int)) (ck (0<=((at' (at' p0.1.2.1.2 p0.2.2.1) p2).1)∧((at' (at' p0.1.2.1.2 p0.2.2.1) p2).1)<(List.length p0.2.1:Int)) (ck (0<=p1.2∧p1.2<(List.length (at' p0.2.1 ((at' (at' p0.1.2.1.2 p0.2.2.1) p2).1)):Int)) (some (at' (at' p0.2.1 ((at' (at' p0.1.2.1.2 p0.2.2.1) p2).1)) p1.2))))))else(Option.bind (nL U ((((p0.1.1.1,p0.1.1.2.1,p0.1.1.2.2)),((p0.1.2.1.1,p0.1.2.1.2)),p0.1.2.2.1,p0.1.2.2.2)) p1.1 p0.2.2.1 p2) fun r14=>(some (r14))))))))
theorem QV:aZ Tryz.prog 136:=Tryz.call136
theorem AE (U:Nat) {p0:Ht} {p1:fO} {p2:Int} (bx0:Nat)  (bx1:Nat)  (v2:Value)  (v3:Value)  (v4:Value)  (v5:Value)  (z6:oY)  (v7:Value)  (z8:pH)  (v9:Value)  (z10:pH)  (v11:Value) (r:Int) (h:iY U p0 p1 p2=some r):
  bA Tryz.prog 136 #[vP bx0,Value.agg #[vI (p1.1),vI (p1.2)],vI (p2)] [dD bx0 [vP bx1,v9,vI (p0.2.2.1),v11] 175,dD bx1 [vS (p0.1.1.1),v2,v3,v4,v5,vI (p0.1.2.2.1),v7] 161,Sl aH v2 p0.1.1.2.1,Sl aC v3 p0.1.1.2.2,Sl bP v4 p0.1.2.1.1,S2 bH v5 z6 p0.1.2.1.2,S2 bP v7 z8 p0.1.2.2.2,S2 bP v9 z10 p0.2.1,Sl bH v11 p0.2.2.2] (fun x:Unit=>vI (r)) (fun x l=>l) (fun _ l=>l):=by
 refine bA.of Tryz.func136 rfl Tryz.ntmps136 rfl fun c=>?_
 refine aS<|aI (aK.box (cs:=[vI (p1.1),vI (p1.2)]) rfl rfl) rfl fun b1=>aE rfl<|aN<|aM<|aS<|cH rfl<|gE 0 rfl<|aN<|aX<|aS<|cN rfl<|aE rfl<|aN ?_
 refine fM h rfl (fun h=>?_) fun h=>?_
 ·refine aS<|cH rfl<|gE 0 rfl<|aE rfl<|aN<|aU<|bR<|aJ ?_
  cases h
  exact wO rfl
 refine aS<|cN rfl<|aE rfl<|aN ?_
 refine fM h rfl (fun h=>?_) fun h=>?_
 ·refine aS<|aE rfl<|aN<|aU<|bR<|aJ ?_
  cases h
  exact wO rfl
 refine aS<|cN rfl<|aE rfl<|aN ?_
 refine fM h rfl (fun h=>?_) fun h=>?_
 ·refine aS<|aE rfl<|aN<|aU<|bR<|aJ ?_
  cases h
  exact wO rfl
 refine aS<|cN rfl<|aE rfl<|aN ?_
 refine fM h rfl (fun h=>?_) fun h=>?_
 ·refine aS<|aE rfl<|aN<|aU<|bR<|aJ ?_
  cases h
  exact wO rfl
 refine aS<|cN rfl<|aE rfl<|aN ?_
 refine fM h rfl (fun h=>?_) fun h=>?_
 ·refine aM ?_
  refine JR.start [0,1,3,7,0,16,48,112,255,511,0,1024,4095,8191,16383] 12 mixedOrders (by decide +kernel) ?_
  refine JR.open (by exact rfl) ?_
  refine bL rfl<|oJ rfl (bK rfl)<|cQ rfl<|bO rfl .nil (oF 0 rfl) (cT rfl (aG.fact 0 rfl) rfl rfl rfl) aO.z<|bL rfl<|oJ rfl (bK rfl)<|cQ rfl<|bO rfl .nil (oF 0 rfl) (cT rfl (aG.fact 0 rfl) rfl rfl rfl) aO.z<|fL h fun j7 h=>bO rfl .nil (oF 7 rfl) (cX rfl rfl (aG.fact 0 rfl) rfl rfl j7) aO.z<|bO rfl .nil (oF 7 rfl) (dH rfl (aG.fact 0 rfl) rfl rfl j7) aO.z<|cQ rfl<|kF 0 rfl<|cR 12 rfl rfl<|fL h fun j8 h=>aD (bN rfl rfl (aG.el (aG.fact 7 rfl) j7.1 j7.2) rfl rfl j8) rfl<|aD (dM rfl (aG.el (aG.fact 7 rfl) j7.1 j7.2) rfl rfl rfl fC j8) rfl<|aE rfl<|aN<|aU<|bR<|aJ ?_
  cases h
  exact wO rfl
 refine aS<|cN rfl<|aE rfl<|aN ?_
 refine fM h rfl (fun h=>?_) fun h=>?_
 ·refine aM ?_
  refine JR.start [0,1,3,7,0,16,48,112,240,496,1008,2032,0,4096,12288,28672,65520,131056,0,524272,1048560,2097136,4194303,8388607,0,16777216,67108863,134217727,268435455] 26 mixedOrders (by decide +kernel) ?_
  refine JR.open (by exact rfl) ?_
  refine bL rfl<|oJ rfl (bK rfl)<|cQ rfl<|bO rfl .nil (oF 0 rfl) (cT rfl (aG.fact 0 rfl) rfl rfl rfl) aO.z<|bL rfl<|oJ rfl (bK rfl)<|cQ rfl<|bO rfl .nil (oF 0 rfl) (cT rfl (aG.fact 0 rfl) rfl rfl rfl) aO.z<|oJ rfl (bK rfl)<|cQ rfl<|cQ rfl<|bO rfl .nil (oF 1 rfl) (cT rfl (aG.fact 0 rfl) rfl rfl rfl) aO.z<|bL rfl<|oJ rfl (bK rfl)<|cQ rfl<|bO rfl .nil (oF 0 rfl) (cT rfl (aG.fact 0 rfl) rfl rfl rfl) aO.z<|fL h fun j10 h=>bO rfl .nil (oF 5 rfl) (cX rfl rfl (aG.fact 0 rfl) rfl rfl j10) aO.z<|bO rfl .nil (oF 5 rfl) (dH rfl (aG.fact 0 rfl) rfl rfl j10) aO.z<|bL rfl<|fL h fun j11 h=>bO rfl .nil (oF 5 rfl) (bN rfl rfl (aG.el (aG.fact 0 rfl) j10.1 j10.2) rfl rfl j11) aO.z<|oJ rfl (lK rfl rfl rfl rfl rfl)<|bO rfl .nil (oF 5 rfl) (mY rfl (aG.el (aG.fact 0 rfl) j10.1 j10.2) rfl rfl rfl wT j11) aO.z<|fL h fun j12 h=>bO rfl .nil (oF 7 rfl) (cX rfl rfl (aG.fact 0 rfl) rfl rfl j12) aO.z<|bO rfl .nil (oF 7 rfl) (dH rfl (aG.fact 0 rfl) rfl rfl j12) aO.z<|cQ rfl<|kF 0 rfl<|cR 26 rfl rfl<|fL h fun j13 h=>aD (bN rfl rfl (aG.el (aG.fact 7 rfl) j12.1 j12.2) rfl rfl j13) rfl<|aD (dM rfl (aG.el (aG.fact 7 rfl) j12.1 j12.2) rfl rfl rfl fC j13) rfl<|aE rfl<|aN<|aU<|bR<|aJ ?_
  cases h
  exact wO rfl
 refine e_<|qB<|aM ?_
 refine JR.start [0,1,3,7,0,16,0,64,192,448,0,2047,4095] 11 mixedOrders (by decide +kernel) ?_
 refine JR.open (by exact rfl) ?_
 refine bL rfl<|oJ rfl (bK rfl)<|cQ rfl<|bO rfl .nil (oF 0 rfl) (cT rfl (aG.fact 0 rfl) rfl rfl rfl) aO.z<|cQ rfl<|kF 0 rfl<|bL rfl<|oJ rfl (bK rfl)<|cQ rfl<|bO rfl .nil (oF 0 rfl) (cT rfl (aG.fact 0 rfl) rfl rfl rfl) aO.z<|bL rfl<|cR 11 rfl rfl<|fE h fun r14 w15 h=>aI (aK.callQ QY (zH U bx1 v2 v3 v4 v5 z6 v7 z8 r14 w15) rfl (qC [1,2,3,4,5,6] rfl)) rfl fun x16=>aE rfl<|aN<|aU ?_
 cases h
 exact wO rfl
end
section
def tD (U:Nat) (p0:Int) (p1:Int):Option (Int):=
 if p0=(18:Int)then(some (wI .i64 (0 - p1)))else(Option.bind (fN U (decide (p1=(0:Int)))) fun r2=>(some (r2)))
theorem QW:aZ Tryz.prog 137:=Tryz.call137
theorem Hn (U:Nat) {p0:Int} {p1:Int} (r:Int) (h:tD U p0 p1=some r):
  bA Tryz.prog 137 #[vI (p0),vI (p1)] [] (fun x:Unit=>vI (r)) (fun x l=>l) (fun _ l=>l):=by
 refine bA.of Tryz.func137 rfl Tryz.ntmps137 rfl fun c=>?_
 refine aS<|aE rfl<|aN<|aM<|aS<|aA rfl<|cN rfl<|aN ?_
 refine fM h rfl (fun h=>?_) fun h=>?_
 ·refine aS<|aA rfl<|aD (Vq rfl) rfl<|aE rfl<|aN<|aU<|aJ ?_
  cases h
  exact kW rfl
 refine dV<|aS<|aA rfl<|cN rfl<|fE h fun r2 w3 h=>aI (aK.callQ rV (iC U  r2 w3) rfl .nil) rfl fun x4=>aE rfl<|aN<|aU ?_
 cases h
 exact kW rfl
end
section
def fW (U:Nat) (p0:Int):Option (Int):=
 some (max (-1073741824:Int) (min p0 (1073741824:Int)))
theorem z_:aZ Tryz.prog 151:=Tryz.call151
theorem jF (U:Nat) {p0:Int} (r:Int) (h:fW U p0=some r):
  bA Tryz.prog 151 #[vI (p0)] [] (fun x:Unit=>vI (r)) (fun x l=>l) (fun _ l=>l):=by
 refine bA.of Tryz.func151 rfl Tryz.ntmps151 rfl fun c=>?_
 unfold fW at h
 refine aS<|aE rfl<|aN<|aS<|aA rfl<|aD (Nt rfl rfl) rfl<|aD (Fz rfl rfl) rfl<|aE rfl<|aN<|aU ?_
 cases h
 exact kW rfl
end
section
def lP  (a4:Int):Option (Int):=
 some (a4)
def n_ (p0:Int) (p1:Int) (a7:Bool):Option (Int):=
 if a7=true then(lP  (wI .i64 ((wI .i64 (Int.tdiv p0 p1)) - (1:Int))))else(lP  (wI .i64 (Int.tdiv p0 p1)))
def mL (U:Nat) (p0:Int) (p1:Int):Option (Int):=
 if p1=(0:Int)then(some (0:Int))else(ck (p1≠0) (ck (p1≠0) (if(Int.tmod p0 p1)≠(0:Int)then(n_ p0 p1 (((decide (p0<(0:Int))) != (decide (p1<(0:Int))))))else(n_ p0 p1 (false)))))
theorem KF:aZ Tryz.prog 152:=Tryz.call152
theorem xV (U:Nat) {p0:Int} {p1:Int} (r:Int) (h:mL U p0 p1=some r):
  bA Tryz.prog 152 #[vI (p0),vI (p1)] [] (fun x:Unit=>vI (r)) (fun x l=>l) (fun _ l=>l):=by
 refine bA.of Tryz.func152 rfl Tryz.ntmps152 rfl fun c=>?_
 refine aS<|aE rfl<|aN<|aM<|aS<|aA rfl<|cN rfl<|aN ?_
 refine fM h rfl (fun h=>?_) fun h=>?_
 ·refine aS<|aE rfl<|aN<|aU<|aJ ?_
  cases h
  exact kW rfl
 refine dV<|aS<|aA rfl<|aA rfl<|fL h fun j2 h=>aD (TD rfl rfl j2) rfl<|aE rfl<|aN<|aM<|jS (fun a4=>lP  a4=some r) (fun a4 b5=>[(5,vI (a4))]) (fun a4 b5=>[]) ?_ ?_
 ·refine aM<|jS (fun a7=>n_ p0 p1 a7=some r) (fun a7 b8=>[(5,vI (wI .i64 (Int.tdiv p0 p1))),(21,vB (a7))]) (fun a7 b8=>[]) ?_ ?_
  ·refine aQ<|aA rfl<|aA rfl<|fL h fun j10 h=>aD (Nu rfl rfl j10) rfl<|pC rfl<|aA rfl ?_
   refine EV h rfl (fun _ h=>?_) fun _ h=>?_
   ·refine eQ rfl<|bT rfl (Kx rfl rfl) rfl<|eQ rfl<|bT rfl (Kx rfl rfl) rfl<|bT rfl (TC rfl rfl rfl) rfl<|lD rfl<|aN ?_
    exact lW (((decide (p0<(0:Int))) != (decide (p1<(0:Int))))) () h SF rfl
   refine aT rfl<|aT rfl<|aT rfl<|aT rfl<|aT rfl<|jU rfl<|aN ?_
   exact lW (false) () h SF rfl
  intro a7 b8 h
  refine Cb h rfl (fun _ h=>?_) fun _ h=>?_
  ·refine aQ<|aA rfl<|aD (rP rfl rfl) rfl<|aE rfl<|aN ?_
   exact lW (wI .i64 ((wI .i64 (Int.tdiv p0 p1)) - (1:Int))) () h SF rfl
  refine dV ?_
  exact lW (wI .i64 (Int.tdiv p0 p1)) () h SF rfl
 intro a4 b5 h
 unfold lP at h
 refine aS<|aA rfl<|aE rfl<|aN<|aU ?_
 cases h
 exact kW rfl
end
section
def pO (U:Nat) (p0:Int) (p1:Int) (p2:Int):Option (Bool):=
 if p0=(35:Int)then(some (decide (p1=p2)))else(if p0=(36:Int)then(some (decide (p1≠p2)))else(if p0=(37:Int)then(some (decide (p1<p2)))else(if p0=(38:Int)then(some (decide (p1<=p2)))else(if p0=(39:Int)then(some (decide (p2<p1)))else(some (decide (p2<=p1)))))))
theorem Q_:aZ Tryz.prog 153:=Tryz.call153
theorem CZ (U:Nat) {p0:Int} {p1:Int} {p2:Int} (r:Bool) (h:pO U p0 p1 p2=some r):
  bA Tryz.prog 153 #[vI (p0),vI (p1),vI (p2)] [] (fun x:Unit=>vB (r)) (fun x l=>l) (fun _ l=>l):=by
 refine bA.of Tryz.func153 rfl Tryz.ntmps153 rfl fun c=>?_
 refine aS<|aE rfl<|aN<|aM<|aS<|aA rfl<|aN<|aX<|aS<|cN rfl<|aE rfl<|aN ?_
 refine fM h rfl (fun h=>?_) fun h=>?_
 ·refine aS<|aA rfl<|aA rfl<|cN rfl<|aE rfl<|aN<|aU<|bR<|aJ ?_
  cases h
  exact kW rfl
 refine aS<|cN rfl<|aE rfl<|aN ?_
 refine fM h rfl (fun h=>?_) fun h=>?_
 ·refine aS<|aA rfl<|aA rfl<|pC rfl<|aE rfl<|aN<|aU<|bR<|aJ ?_
  cases h
  exact kW rfl
 refine aS<|cN rfl<|aE rfl<|aN ?_
 refine fM h rfl (fun h=>?_) fun h=>?_
 ·refine aS<|aA rfl<|aA rfl<|dR rfl<|aE rfl<|aN<|aU<|bR<|aJ ?_
  cases h
  exact kW rfl
 refine aS<|cN rfl<|aE rfl<|aN ?_
 refine fM h rfl (fun h=>?_) fun h=>?_
 ·refine aS<|aA rfl<|aA rfl<|aD (Bq rfl rfl) rfl<|aE rfl<|aN<|aU<|bR<|aJ ?_
  cases h
  exact kW rfl
 refine aS<|cN rfl<|aE rfl<|aN ?_
 refine fM h rfl (fun h=>?_) fun h=>?_
 ·refine aS<|aA rfl<|aA rfl<|aD (Bp rfl rfl) rfl<|aE rfl<|aN<|aU<|bR<|aJ ?_
  cases h
  exact kW rfl
 refine e_<|qB<|aS<|aA rfl<|aA rfl<|aD (Fy rfl rfl) rfl<|aE rfl<|aN<|aU ?_
 cases h
 exact kW rfl
end
section
def lN  (a30:Int):Option (Int):=
 some (a30)
def lO  (a41:Int):Option (Int):=
 some (a41)
def rY (U:Nat) (p0:Int) (p1:Int) (p2:Int):Option (Int):=
 if p0=(30:Int)then(Option.bind (fW U (wI .i64 (p1*p2))) fun r2=>(some (r2)))else(if p0=(31:Int)then(Option.bind (mL U p1 p2) fun r6=>(Option.bind (fW U r6) fun r9=>(some (r9))))else(if p0=(32:Int)then(if p2=(0:Int)then(some (0:Int))else(Option.bind (mL U p1 p2) fun r14=>(Option.bind (fW U (wI .i64 (p1 - (wI .i64 (p2*r14))))) fun r17=>(some (r17)))))else(if p0=(33:Int)then(Option.bind (fW U (wI .i64 (p1+p2))) fun r21=>(some (r21)))else(if p0=(34:Int)then(Option.bind (fW U (wI .i64 (p1 - p2))) fun r25=>(some (r25)))else(if p0=(41:Int)then(if p1≠(0:Int)then(Option.bind (fN U (decide (p2≠(0:Int)))) fun r33=>(lN  (r33)))else(Option.bind (fN U false) fun r36=>(lN  (r36))))else(if p0=(42:Int)then(if p1≠(0:Int)then(Option.bind (fN U true) fun r44=>(lO  (r44)))else(Option.bind (fN U (decide (p2≠(0:Int)))) fun r47=>(lO  (r47))))else(Option.bind (pO U p0 p1 p2) fun r50=>(Option.bind (fN U r50) fun r53=>(some (r53))))))))))
theorem QX:aZ Tryz.prog 139:=Tryz.call139
theorem Fc (U:Nat) {p0:Int} {p1:Int} {p2:Int} (r:Int) (h:rY U p0 p1 p2=some r):
  bA Tryz.prog 139 #[vI (p0),vI (p1),vI (p2)] [] (fun x:Unit=>vI (r)) (fun x l=>l) (fun _ l=>l):=by
 refine bA.of Tryz.func139 rfl Tryz.ntmps139 rfl fun c=>?_
 refine aS<|aE rfl<|aN<|aM<|aS<|aA rfl<|aN<|aX<|aS<|cN rfl<|aE rfl<|aN ?_
 refine fM h rfl (fun h=>?_) fun h=>?_
 ·refine aS<|aA rfl<|aA rfl<|aD (yI rfl rfl) rfl<|fE h fun r2 w3 h=>aI (aK.callQ z_ (jF U  r2 w3) rfl .nil) rfl fun x4=>aE rfl<|aN<|aU<|bR<|aJ ?_
  cases h
  exact kW rfl
 refine aS<|cN rfl<|aE rfl<|aN ?_
 refine fM h rfl (fun h=>?_) fun h=>?_
 ·refine aS<|aA rfl<|aA rfl<|fE h fun r6 w7 h=>aI (aK.callQ KF (xV U  r6 w7) rfl .nil) rfl fun x8=>fE h fun r9 w10 h=>aI (aK.callQ z_ (jF U  r9 w10) rfl .nil) rfl fun x11=>aE rfl<|aN<|aU<|bR<|aJ ?_
  cases h
  exact kW rfl
 refine aS<|cN rfl<|aE rfl<|aN ?_
 refine fM h rfl (fun h=>?_) fun h=>?_
 ·refine aM<|aS<|aA rfl<|cN rfl<|aN ?_
  refine fM h rfl (fun h=>?_) fun h=>?_
  ·refine aS<|aE rfl<|aN<|aU<|aJ<|bR<|aJ ?_
   cases h
   exact kW rfl
  refine dV<|aS<|aA rfl<|aA rfl<|aA rfl<|aA rfl<|fE h fun r14 w15 h=>aI (aK.callQ KF (xV U  r14 w15) rfl .nil) rfl fun x16=>aD (yI rfl rfl) rfl<|aD (rP rfl rfl) rfl<|fE h fun r17 w18 h=>aI (aK.callQ z_ (jF U  r17 w18) rfl .nil) rfl fun x19=>aE rfl<|aN<|aU<|bR<|aJ ?_
  cases h
  exact kW rfl
 refine aS<|cN rfl<|aE rfl<|aN ?_
 refine fM h rfl (fun h=>?_) fun h=>?_
 ·refine aS<|aA rfl<|aA rfl<|dG rfl<|fE h fun r21 w22 h=>aI (aK.callQ z_ (jF U  r21 w22) rfl .nil) rfl fun x23=>aE rfl<|aN<|aU<|bR<|aJ ?_
  cases h
  exact kW rfl
 refine aS<|cN rfl<|aE rfl<|aN ?_
 refine fM h rfl (fun h=>?_) fun h=>?_
 ·refine aS<|aA rfl<|aA rfl<|aD (rP rfl rfl) rfl<|fE h fun r25 w26 h=>aI (aK.callQ z_ (jF U  r25 w26) rfl .nil) rfl fun x27=>aE rfl<|aN<|aU<|bR<|aJ ?_
  cases h
  exact kW rfl
 refine aS<|cN rfl<|aE rfl<|aN ?_
 refine fM h rfl (fun h=>?_) fun h=>?_
 ·refine aM<|jS (fun a30=>lN  a30=some r) (fun a30 b31=>[(6,vI (a30))]) (fun a30 b31=>[]) ?_ ?_
  ·refine aQ<|aA rfl<|pC rfl<|aA rfl ?_
   refine EV h rfl (fun _ h=>?_) fun _ h=>?_
   ·refine eQ rfl<|bT rfl (HR rfl rfl) rfl<|lD rfl<|fE h fun r33 w34 h=>aI (aK.callQ rV (iC U  r33 w34) rfl .nil) rfl fun x35=>aE rfl<|aN ?_
    exact lW (r33) () h SF rfl
   refine aT rfl<|aT rfl<|jU rfl<|fE h fun r36 w37 h=>aI (aK.callQ rV (iC U  r36 w37) rfl .nil) rfl fun x38=>aE rfl<|aN ?_
   exact lW (r36) () h SF rfl
  intro a30 b31 h
  unfold lN at h
  refine aU<|bR<|aJ ?_
  cases h
  exact kW rfl
 refine aS<|cN rfl<|aE rfl<|aN ?_
 refine fM h rfl (fun h=>?_) fun h=>?_
 ·refine aM<|jS (fun a41=>lO  a41=some r) (fun a41 b42=>[(6,vI (a41))]) (fun a41 b42=>[]) ?_ ?_
  ·refine aQ<|aA rfl<|pC rfl<|aA rfl ?_
   refine EV h rfl (fun _ h=>?_) fun _ h=>?_
   ·refine aT rfl<|aT rfl<|lD rfl<|fE h fun r44 w45 h=>aI (aK.callQ rV (iC U  r44 w45) rfl .nil) rfl fun x46=>aE rfl<|aN ?_
    exact lW (r44) () h SF rfl
   refine eQ rfl<|bT rfl (HR rfl rfl) rfl<|jU rfl<|fE h fun r47 w48 h=>aI (aK.callQ rV (iC U  r47 w48) rfl .nil) rfl fun x49=>aE rfl<|aN ?_
   exact lW (r47) () h SF rfl
  intro a41 b42 h
  unfold lO at h
  refine aU<|bR<|aJ ?_
  cases h
  exact kW rfl
 refine e_<|qB<|aS<|aA rfl<|aA rfl<|aA rfl<|fE h fun r50 w51 h=>aI (aK.callQ Q_ (CZ U  r50 w51) rfl .nil) rfl fun x52=>fE h fun r53 w54 h=>aI (aK.callQ rV (iC U  r53 w54) rfl .nil) rfl fun x55=>aE rfl<|aN<|aU ?_
 cases h
 exact kW rfl
end
section
def rW  (a2:Int):Option (Int):=
 some (a2)
def o_ (a7:fO) (ag6:gL->Option (Int)) (a12:Int):Option (Int):=
 ag6 (a12,(wI .i64 (a7.2+(1:Int))))
def mR (p0:bM) (a7:fO) (ag6:gL->Option (Int)):Option (Int):=
 if a7.2<(List.length p0:Int)then(ck (0<=a7.2∧a7.2<(List.length p0:Int)) (if(at' p0 a7.2)≠(0:Int)then(o_ a7 ag6 (wI .i64 (a7.1+(1:Int))))else(o_ a7 ag6 (a7.1))))else(rW  (a7.1))
def mD (U:Nat) (p0:bM):Option (Int):=
 bU (mR p0) U ((0:Int),(0:Int))
theorem GD:aZ Tryz.prog 164:=Tryz.call164
theorem xP (U:Nat) {p0:bM} (v0:Value) (r:Int) (h:mD U p0=some r):
  bA Tryz.prog 164 #[v0] [Sl bP v0 p0] (fun x:Unit=>vI (r)) (fun x l=>l) (fun _ l=>l):=by
 refine bA.of Tryz.func164 rfl Tryz.ntmps164 rfl fun c=>?_
 unfold mD at h
 refine aS<|aE rfl<|aN<|aS<|aE rfl<|aN<|aM<|jS (fun a2=>rW  a2=some r) (fun a2 b3=>[(3,vI (a2))]) (fun a2 b3=>[]) ?_ ?_
 ·refine aS<|aA rfl<|jT (aG.fact 0 rfl) rfl<|aA rfl<|aN<|aX<|gG (mR p0) (fun a7 b8=>[(3,vI (a7.1)),(6,v0),(7,vI (List.length p0:Int)),(8,vI (a7.2))]) (fun a7 b8=>[]) ((0:Int),(0:Int)) () h SF (bF.refl _) ?_
  intro k9 a7 b8 h
  refine aS<|dR rfl<|aN<|aM ?_
  refine fM h rfl (fun h=>?_) fun h=>?_
  ·refine dV<|aM<|jS (fun a12=>o_ a7 (bU (mR p0) k9) a12=some r) (fun a12 b13=>[(3,vI (a12)),(6,v0),(7,vI (List.length p0:Int)),(8,vI (a7.2))]) (fun a12 b13=>[]) ?_ ?_
   ·refine aX<|aS<|fL h fun j14 h=>aD (bN rfl rfl (aG.fact 0 rfl) rfl rfl j14) rfl<|aD (dM rfl (aG.fact 0 rfl) rfl rfl rfl fC j14) rfl<|aE rfl<|aN<|aS<|aA rfl<|pC rfl<|aN ?_
    refine fM h rfl (fun h=>?_) fun h=>?_
    ·refine aQ<|aA rfl<|dG rfl<|aE rfl<|fJ<|qB ?_
     exact lW (wI .i64 (a7.1+(1:Int))) () h SF rfl
    refine e_<|qB ?_
    exact lW (a7.1) () h SF rfl
   intro a12 b13 h
   unfold o_ at h
   refine aQ<|dG rfl<|aA rfl<|aN ?_
   exact Bf (a12,(wI .i64 (a7.2+(1:Int)))) () h SF rfl
  refine h_ ?_
  exact lW (a7.1) () h SF rfl
 intro a2 b3 h
 unfold rW at h
 refine aS<|aA rfl<|aE rfl<|aN<|aU ?_
 cases h
 exact kW rfl
end
section
def lI  (a1:Unit):Option (Int):=
 some (-1:Int)
def eF (p0:bM) (g1:Int->Option Bool) (a5:Int) (ag4:(Int)->Option (Int)):Option (Int):=
 if a5<(List.length p0:Int)then(ck (0<=a5∧a5<(List.length p0:Int)) (Option.bind (g1 (at' p0 a5)) fun r10=>(if r10=true then(some (a5))else(ag4 (wI .i64 (a5+(1:Int)))))))else(lI  (()))
def jQ (U:Nat) (p0:bM) (g1:Int->Option Bool):Option (Int):=
 bU (eF p0 g1) U (0:Int)
theorem Ra:aZ Tryz.prog 165:=Tryz.call165
theorem Bb (U:Nat) {p0:bM} {g1:Int->Option Bool} (f1:FuncId) (cs1:iN) (Lf:List aP) (hb_g1:aZ Tryz.prog f1) (hm_g1:∀(y0:Int) (r:Bool),g1 y0=some r->bA Tryz.prog f1 ([vI (y0)]++cs1).toArray Lf (fun _:Unit=>vB (r)) (fun _ l=>l) (fun _ l=>l)) (v0:Value) (r:Int) (h:jQ U p0 g1=some r):
  bA Tryz.prog 165 #[v0,Value.func (.func f1) #[] (cs1).toArray] ([Sl bP v0 p0]++Lf) (fun x:Unit=>vI (r)) (fun x l=>l) (fun _ l=>l):=by
 refine bA.of Tryz.func165 rfl Tryz.ntmps165 rfl fun c=>?_
 unfold jQ at h
 refine aS<|aE rfl<|aN<|aM<|tO (B:=Unit) (fun a1=>lI  a1=some r) (fun a1 b2=>[]) (fun a1 b2=>[]) (fun a1 b2=>([Sl bP v0 p0]++Lf)) ?_ ?_
 ·refine aS<|aA rfl<|jT (aG.fact 0 rfl) rfl<|aA rfl<|aN<|aX<|De (B:=Unit) (eF p0 g1) (fun a5 b6=>[(0,v0),(1,Value.func (.func f1) #[] (cs1).toArray),(7,vI (List.length p0:Int)),(8,vI (a5))]) (fun a5 b6=>[]) (fun a5 b6=>([Sl bP v0 p0]++Lf)) (0:Int) () h SF (bF.refl _) (aF.refl _ _) ?_
  intro k7 a5 b6 h
  refine aS<|dR rfl<|aN<|aM ?_
  refine fM h rfl (fun h=>?_) fun h=>?_
  ·refine dV<|aM<|aX<|aS<|aA rfl<|aE rfl<|aN<|aS<|aA rfl<|aA rfl<|aA rfl<|fL h fun j9 h=>aD (bN rfl rfl (aG.fact 0 rfl) rfl rfl j9) rfl<|aD (dM rfl (aG.fact 0 rfl) rfl rfl rfl fC j9) rfl<|fE h fun r10 w11 h=>aI (sE (vs:=[vI (at' p0 a5)]) (cs:=cs1) hb_g1 rfl (hm_g1 (at' p0 a5) r10 w11) rfl (aF.tail _) (fun _ _=>rfl)) rfl fun x12=>aN ?_
   refine Cb h rfl (fun _ h=>?_) fun _ h=>?_
   ·refine aS<|aA rfl<|aE rfl<|aN<|aU<|bR<|aJ<|aJ<|bR<|aJ ?_
    cases h
    exact kW rfl
   refine e_<|qB<|aQ<|dG rfl<|aA rfl<|aN ?_
   exact Bf (wI .i64 (a5+(1:Int))) () h SF rfl
  refine h_ ?_
  exact lW () (()) h SF rfl
 intro a1 b2 h
 unfold lI at h
 refine aS<|aE rfl<|aN<|aU ?_
 cases h
 exact kW rfl
end
section
def lA (U:Nat) (p0:Int):Option (Bool):=
 some (decide (p0≠(0:Int)))
theorem Rb:aZ Tryz.prog 166:=Tryz.call166
theorem Fe (U:Nat) {p0:Int} (r:Bool) (h:lA U p0=some r):
  bA Tryz.prog 166 #[vI (p0)] [] (fun x:Unit=>vB (r)) (fun x l=>l) (fun _ l=>l):=by
 refine bA.of Tryz.func166 rfl Tryz.ntmps166 rfl fun c=>?_
 unfold lA at h
 refine aS<|aE rfl<|aN<|aS<|aA rfl<|pC rfl<|aE rfl<|aN<|aU ?_
 cases h
 exact kW rfl
end
section
def oO  (a3:fO):Option gL:=
 some (a3.1,a3.2)
def lH (a9:Int×Int×Int) (ag8:(Int×Int×Int)->Option gL) (a15:fO):Option gL:=
 ag8 (a15.1,a15.2,(wI .i64 (a9.2.2+(1:Int))))
def oP (p0:bM) (a9:Int×Int×Int) (ag8:(Int×Int×Int)->Option gL):Option gL:=
 if a9.2.2<(List.length p0:Int)then(ck (0<=a9.2.2∧a9.2.2<(List.length p0:Int)) (if a9.1<(at' p0 a9.2.2)then(lH a9 ag8 ((at' p0 a9.2.2),a9.1))else(lH a9 ag8 (a9.1,(max a9.2.1 (at' p0 a9.2.2))))))else(oO  (a9.1,a9.2.1))
def mE (U:Nat) (p0:bM):Option gL:=
 bU (oP p0) U ((-1073741824:Int),(-1073741824:Int),(0:Int))
theorem KG:aZ Tryz.prog 167:=Tryz.call167
theorem uJ (U:Nat) {p0:bM} (v0:Value) (r:fO) (h:mE U p0=some r):
  bA Tryz.prog 167 #[v0] [Sl bP v0 p0] (fun x:Unit=>Value.tuple #[vI (r.1),vI (r.2)]) (fun x l=>l) (fun _ l=>l):=by
 refine bA.of Tryz.func167 rfl Tryz.ntmps167 rfl fun c=>?_
 unfold mE at h
 refine aS<|aE rfl<|aE rfl<|aN<|aS<|aE rfl<|aE rfl<|aN<|aM<|jS (fun a3=>oO  a3=some r) (fun a3 b4=>[(2,vI (a3.1)),(3,vI (a3.2))]) (fun a3 b4=>[]) ?_ ?_
 ·refine aS<|aA rfl<|jT (aG.fact 0 rfl) rfl<|aA rfl<|aN<|aX<|gG (oP p0) (fun a9 b10=>[(2,vI (a9.1)),(3,vI (a9.2.1)),(6,v0),(7,vI (List.length p0:Int)),(8,vI (a9.2.2))]) (fun a9 b10=>[]) ((-1073741824:Int),(-1073741824:Int),(0:Int)) () h SF (bF.refl _) ?_
  intro k11 a9 b10 h
  refine aS<|dR rfl<|aN<|aM ?_
  refine fM h rfl (fun h=>?_) fun h=>?_
  ·refine dV<|aM<|jS (fun a15=>lH a9 (bU (oP p0) k11) a15=some r) (fun a15 b16=>[(2,vI (a15.1)),(3,vI (a15.2)),(6,v0),(7,vI (List.length p0:Int)),(8,vI (a9.2.2))]) (fun a15 b16=>[]) ?_ ?_
   ·refine aX<|aS<|fL h fun j17 h=>aD (bN rfl rfl (aG.fact 0 rfl) rfl rfl j17) rfl<|aD (dM rfl (aG.fact 0 rfl) rfl rfl rfl fC j17) rfl<|aE rfl<|aN<|aS<|aA rfl<|aA rfl<|aD (Bp rfl rfl) rfl<|aN ?_
    refine fM h rfl (fun h=>?_) fun h=>?_
    ·refine aQ<|aA rfl<|aA rfl<|aE rfl<|aE rfl<|fJ<|qB ?_
     exact lW ((at' p0 a9.2.2),a9.1) () h SF rfl
    refine aQ<|aA rfl<|aA rfl<|aD (Fz rfl rfl) rfl<|aE rfl<|fJ<|qB ?_
    exact lW (a9.1,(max a9.2.1 (at' p0 a9.2.2))) () h SF rfl
   intro a15 b16 h
   unfold lH at h
   refine aQ<|dG rfl<|aA rfl<|aN ?_
   exact Bf (a15.1,a15.2,(wI .i64 (a9.2.2+(1:Int)))) () h SF rfl
  refine h_ ?_
  exact lW (a9.1,a9.2.1) () h SF rfl
 intro a3 b4 h
 unfold oO at h
 refine aS<|aA rfl<|aA rfl<|aE rfl<|aE rfl<|aN<|aU ?_
 cases h
 exact kN () rfl rfl (RV.tmp rfl) (RV.tmp rfl) (bF.refl _) aF.nil
end
section
def pS  (a1:Unit):Option (Int):=
 some (-1:Int)
def gJ (p0:bM) (p1:Int) (a5:Int) (ag4:(Int)->Option (Int)):Option (Int):=
 if a5<(List.length p0:Int)then(ck (0<=a5∧a5<(List.length p0:Int)) (if p1=(at' p0 a5)then(some (a5))else(ag4 (wI .i64 (a5+(1:Int))))))else(pS  (()))
def lS (U:Nat) (p0:bM) (p1:Int):Option (Int):=
 bU (gJ p0 p1) U (0:Int)
theorem Rf:aZ Tryz.prog 178:=Tryz.call178
theorem EI (U:Nat) {p0:bM} {p1:Int} (v0:Value) (r:Int) (h:lS U p0 p1=some r):
  bA Tryz.prog 178 #[v0,vI (p1)] [Sl bP v0 p0] (fun x:Unit=>vI (r)) (fun x l=>l) (fun _ l=>l):=by
 refine bA.of Tryz.func178 rfl Tryz.ntmps178 rfl fun c=>?_
 unfold lS at h
 refine aS<|aE rfl<|aN<|aM<|jS (fun a1=>pS  a1=some r) (fun a1 b2=>[]) (fun a1 b2=>[]) ?_ ?_
 ·refine aS<|aA rfl<|jT (aG.fact 0 rfl) rfl<|aA rfl<|aN<|aX<|gG (gJ p0 p1) (fun a5 b6=>[(0,v0),(1,vI (p1)),(7,vI (List.length p0:Int)),(8,vI (a5))]) (fun a5 b6=>[]) (0:Int) () h SF (bF.refl _) ?_
  intro k7 a5 b6 h
  refine aS<|dR rfl<|aN<|aM ?_
  refine fM h rfl (fun h=>?_) fun h=>?_
  ·refine dV<|aM<|aX<|aS<|aA rfl<|aE rfl<|aN<|aS<|aA rfl<|aA rfl<|aA rfl<|fL h fun j9 h=>aD (bN rfl rfl (aG.fact 0 rfl) rfl rfl j9) rfl<|aD (dM rfl (aG.fact 0 rfl) rfl rfl rfl fC j9) rfl<|cN rfl<|aN ?_
   refine fM h rfl (fun h=>?_) fun h=>?_
   ·refine aS<|aA rfl<|aE rfl<|aN<|aU<|bR<|aJ<|aJ<|bR<|aJ ?_
    cases h
    exact kW rfl
   refine e_<|qB<|aQ<|dG rfl<|aA rfl<|aN ?_
   exact Bf (wI .i64 (a5+(1:Int))) () h SF rfl
  refine h_ ?_
  exact lW () (()) h SF rfl
 intro a1 b2 h
 unfold pS at h
 refine aS<|aE rfl<|aN<|aU ?_
 cases h
 exact kW rfl
end
section
def m_ (U:Nat) (p0:bM) (p1:Int):Option (Bool):=
 Option.bind (lS U p0 p1) fun r1=>(some (decide ((0:Int)<=r1)))
theorem Re:aZ Tryz.prog 174:=Tryz.call174
theorem BR (U:Nat) {p0:bM} {p1:Int} (v0:Value) (r:Bool) (h:m_ U p0 p1=some r):
  bA Tryz.prog 174 #[v0,vI (p1)] [Sl bP v0 p0] (fun x:Unit=>vB (r)) (fun x l=>l) (fun _ l=>l):=by
 refine bA.of Tryz.func174 rfl Tryz.ntmps174 rfl fun c=>?_
 refine aS<|aE rfl<|aN<|aS<|aA rfl<|aA rfl<|fE h fun r1 w2 h=>aI (aK.callQ Rf (EI U v0 r1 w2) rfl (qC [0] rfl)) rfl fun x3=>aD (Fy rfl rfl) rfl<|aE rfl<|aN<|aU ?_
 cases h
 exact kW rfl
end
section
def uX  (a2:Int):Option (Int):=
 some (a2)
def sF (U:Nat) (p0:bM) (a6:Int) (ag5:(Int)->Option (Int)):Option (Int):=
 Option.bind (m_ U p0 a6) fun r9=>(if r9=true then(ag5 (wI .i64 (a6+(1:Int))))else(uX  (a6)))
def uA (U:Nat) (p0:bM):Option (Int):=
 bU (sF U p0) U (0:Int)
theorem Rc:aZ Tryz.prog 168:=Tryz.call168
theorem Kk (U:Nat) {p0:bM} (v0:Value) (r:Int) (h:uA U p0=some r):
  bA Tryz.prog 168 #[v0] [Sl bP v0 p0] (fun x:Unit=>vI (r)) (fun x l=>l) (fun _ l=>l):=by
 refine bA.of Tryz.func168 rfl Tryz.ntmps168 rfl fun c=>?_
 unfold uA at h
 refine aS<|aE rfl<|aN<|aS<|aE rfl<|aN<|aM<|jS (fun a2=>uX  a2=some r) (fun a2 b3=>[(3,vI (a2))]) (fun a2 b3=>[]) ?_ ?_
 ·refine aX<|gG (sF U p0) (fun a6 b7=>[(0,v0),(3,vI (a6))]) (fun a6 b7=>[]) (0:Int) () h SF (bF.refl _) ?_
  intro k8 a6 b7 h
  refine aM<|aS<|aA rfl<|aA rfl<|fE h fun r9 w10 h=>aI (aK.callQ Re (BR U v0 r9 w10) rfl (qC [0] rfl)) rfl fun x11=>aN ?_
  refine Cb h rfl (fun _ h=>?_) fun _ h=>?_
  ·refine dV<|aX<|aQ<|aA rfl<|dG rfl<|aE rfl<|fJ<|qB ?_
   exact Bf (wI .i64 (a6+(1:Int))) () h SF rfl
  refine h_ ?_
  exact lW (a6) () h SF rfl
 intro a2 b3 h
 unfold uX at h
 refine aS<|aA rfl<|aE rfl<|aN<|aU ?_
 cases h
 exact kW rfl
end
section
def tC  (a25:Int):Option (Int):=
 some (a25)
def nY (p1:bM) (a30:fO) (ag29:gL->Option (Int)):Option (Int):=
 if a30.2<(List.length p1:Int)then(ck (0<=a30.2∧a30.2<(List.length p1:Int)) (ag29 ((min a30.1 (at' p1 a30.2)),(wI .i64 (a30.2+(1:Int))))))else(tC  (a30.1))
def xA (U:Nat) (a41:Int):Option (Int):=
 Option.bind (fW U a41) fun r43=>(some (r43))
def nZ (U:Nat) (p1:bM) (a49:fO) (ag48:gL->Option (Int)):Option (Int):=
 if a49.2<(List.length p1:Int)then(ck (0<=a49.2∧a49.2<(List.length p1:Int)) (ag48 ((wI .i64 (a49.1+(at' p1 a49.2))),(wI .i64 (a49.2+(1:Int))))))else(xA U (a49.1))
def uY (U:Nat) (p0:Int) (p1:bM):Option (Int):=
 if p0=(20:Int)then(Option.bind (mD U p1) fun r2=>(Option.bind (fN U (decide (r2=(List.length p1:Int)))) fun r5=>(some (r5))))else(if p0=(21:Int)then(Option.bind (mD U p1) fun r9=>(Option.bind (fN U (decide ((0:Int)<r9))) fun r12=>(some (r12))))else(if p0=(22:Int)then(Option.bind (mD U p1) fun r16=>(some (r16)))else(if p0=(23:Int)then(Option.bind (jQ U p1 (fun y0=>lA U y0)) fun r20=>(some (r20)))else(if p0=(24:Int)then(bU (nY p1) U ((1073741824:Int),(0:Int)))else(if p0=(25:Int)then(Option.bind (mE U p1) fun r36=>(some (r36.1)))else(if p0=(26:Int)then(bU (nZ U p1) U ((0:Int),(0:Int)))else(if p0=(27:Int)then(Option.bind (uA U p1) fun r55=>(some (r55)))else(if p0=(28:Int)then(Option.bind (mE U p1) fun r59=>(some (r59.2)))else(if(List.length p1:Int)=(0:Int)then(some (0:Int))else(ck (0<=(0:Int)∧(0:Int)<(List.length p1:Int)) (some (at' p1 (0:Int)))))))))))))
theorem QZ:aZ Tryz.prog 150:=Tryz.call150
theorem IQ (U:Nat) {p0:Int} {p1:bM} (v0:Value) (r:Int) (h:uY U p0 p1=some r):
  bA Tryz.prog 150 #[vI (p0),v0] [Sl bP v0 p1] (fun x:Unit=>vI (r)) (fun x l=>l) (fun _ l=>l):=by
 refine bA.of Tryz.func150 rfl Tryz.ntmps150 rfl fun c=>?_
 refine aS<|aE rfl<|aN<|aM<|aS<|aA rfl<|aN<|aX<|aS<|cN rfl<|aE rfl<|aN ?_
 refine fM h rfl (fun h=>?_) fun h=>?_
 ·refine aS<|aA rfl<|fE h fun r2 w3 h=>aI (aK.callQ GD (xP U v0 r2 w3) rfl (qC [0] rfl)) rfl fun x4=>aA rfl<|jT (aG.fact 0 rfl) rfl<|cN rfl<|fE h fun r5 w6 h=>aI (aK.callQ rV (iC U  r5 w6) rfl .nil) rfl fun x7=>aE rfl<|aN<|aU<|bR<|aJ ?_
  cases h
  exact kW rfl
 refine aS<|cN rfl<|aE rfl<|aN ?_
 refine fM h rfl (fun h=>?_) fun h=>?_
 ·refine aS<|aA rfl<|fE h fun r9 w10 h=>aI (aK.callQ GD (xP U v0 r9 w10) rfl (qC [0] rfl)) rfl fun x11=>aD (Bp rfl rfl) rfl<|fE h fun r12 w13 h=>aI (aK.callQ rV (iC U  r12 w13) rfl .nil) rfl fun x14=>aE rfl<|aN<|aU<|bR<|aJ ?_
  cases h
  exact kW rfl
 refine aS<|cN rfl<|aE rfl<|aN ?_
 refine fM h rfl (fun h=>?_) fun h=>?_
 ·refine aS<|aA rfl<|fE h fun r16 w17 h=>aI (aK.callQ GD (xP U v0 r16 w17) rfl (qC [0] rfl)) rfl fun x18=>aE rfl<|aN<|aU<|bR<|aJ ?_
  cases h
  exact kW rfl
 refine aS<|cN rfl<|aE rfl<|aN ?_
 refine fM h rfl (fun h=>?_) fun h=>?_
 ·refine aS<|aA rfl<|fE h fun r20 w21 h=>aI (aK.callQ Ra (Bb U 166 [] [] Rb (fun y0 r h=>Fe U  r h) v0 r20 w21) rfl (qC [0] rfl)) rfl fun x22=>aE rfl<|aN<|aU<|bR<|aJ ?_
  cases h
  exact kW rfl
 refine aS<|cN rfl<|aE rfl<|aN ?_
 refine fM h rfl (fun h=>?_) fun h=>?_
 ·refine aS<|aE rfl<|aN<|aM<|jS (fun a25=>tC  a25=some r) (fun a25 b26=>[(5,vI (a25))]) (fun a25 b26=>[]) ?_ ?_
  ·refine aS<|aA rfl<|jT (aG.fact 0 rfl) rfl<|aA rfl<|aN<|aX<|gG (nY p1) (fun a30 b31=>[(5,vI (a30.1)),(40,v0),(41,vI (List.length p1:Int)),(42,vI (a30.2))]) (fun a30 b31=>[]) ((1073741824:Int),(0:Int)) () h SF (bF.refl _) ?_
   intro k32 a30 b31 h
   refine aS<|dR rfl<|aN<|aM ?_
   refine fM h rfl (fun h=>?_) fun h=>?_
   ·refine dV<|aM<|aX<|aS<|fL h fun j34 h=>aD (bN rfl rfl (aG.fact 0 rfl) rfl rfl j34) rfl<|aD (dM rfl (aG.fact 0 rfl) rfl rfl rfl fC j34) rfl<|aE rfl<|aN<|aQ<|aA rfl<|aA rfl<|aD (Nt rfl rfl) rfl<|aE rfl<|fJ<|qB<|aQ<|dG rfl<|aA rfl<|aN ?_
    exact Bf ((min a30.1 (at' p1 a30.2)),(wI .i64 (a30.2+(1:Int)))) () h SF rfl
   refine h_ ?_
   exact lW (a30.1) () h SF rfl
  intro a25 b26 h
  unfold tC at h
  refine aS<|aA rfl<|aE rfl<|aN<|aU<|bR<|aJ ?_
  cases h
  exact kW rfl
 refine aS<|cN rfl<|aE rfl<|aN ?_
 refine fM h rfl (fun h=>?_) fun h=>?_
 ·refine aS<|aA rfl<|fE h fun r36 w37 h=>aI (aK.callQ KG (uJ U v0 r36 w37) rfl (qC [0] rfl)) rfl fun x38=>aA rfl<|eT rfl<|eT rfl<|aE rfl<|aE rfl<|aN<|aS<|aA rfl<|aE rfl<|aN<|aU<|bR<|aJ ?_
  cases h
  exact kW rfl
 refine aS<|cN rfl<|aE rfl<|aN ?_
 refine fM h rfl (fun h=>?_) fun h=>?_
 ·refine aS<|aE rfl<|aN<|aM<|jS (fun a41=>xA U a41=some r) (fun a41 b42=>[(10,vI (a41))]) (fun a41 b42=>[]) ?_ ?_
  ·refine aS<|aA rfl<|jT (aG.fact 0 rfl) rfl<|aA rfl<|aN<|aX<|gG (nZ U p1) (fun a49 b50=>[(10,vI (a49.1)),(61,v0),(62,vI (List.length p1:Int)),(63,vI (a49.2))]) (fun a49 b50=>[]) ((0:Int),(0:Int)) () h SF (bF.refl _) ?_
   intro k51 a49 b50 h
   refine aS<|dR rfl<|aN<|aM ?_
   refine fM h rfl (fun h=>?_) fun h=>?_
   ·refine dV<|aM<|aX<|aS<|fL h fun j53 h=>aD (bN rfl rfl (aG.fact 0 rfl) rfl rfl j53) rfl<|aD (dM rfl (aG.fact 0 rfl) rfl rfl rfl fC j53) rfl<|aE rfl<|aN<|aQ<|aA rfl<|aA rfl<|dG rfl<|aE rfl<|fJ<|qB<|aQ<|dG rfl<|aA rfl<|aN ?_
    exact Bf ((wI .i64 (a49.1+(at' p1 a49.2))),(wI .i64 (a49.2+(1:Int)))) () h SF rfl
   refine h_ ?_
   exact lW (a49.1) () h SF rfl
  intro a41 b42 h
  refine aS<|aA rfl<|fE h fun r43 w44 h=>aI (aK.callQ z_ (jF U  r43 w44) rfl .nil) rfl fun x45=>aE rfl<|aN<|aU<|bR<|aJ ?_
  cases h
  exact kW rfl
 refine aS<|cN rfl<|aE rfl<|aN ?_
 refine fM h rfl (fun h=>?_) fun h=>?_
 ·refine aS<|aA rfl<|fE h fun r55 w56 h=>aI (aK.callQ Rc (Kk U v0 r55 w56) rfl (qC [0] rfl)) rfl fun x57=>aE rfl<|aN<|aU<|bR<|aJ ?_
  cases h
  exact kW rfl
 refine aS<|cN rfl<|aE rfl<|aN ?_
 refine fM h rfl (fun h=>?_) fun h=>?_
 ·refine aS<|aA rfl<|fE h fun r59 w60 h=>aI (aK.callQ KG (uJ U v0 r59 w60) rfl (qC [0] rfl)) rfl fun x61=>aA rfl<|eT rfl<|eT rfl<|aE rfl<|aE rfl<|aN<|aS<|aA rfl<|aE rfl<|aN<|aU<|bR<|aJ ?_
  cases h
  exact kW rfl
 refine e_<|qB<|aM<|aS<|aA rfl<|jT (aG.fact 0 rfl) rfl<|cN rfl<|aN ?_
 refine fM h rfl (fun h=>?_) fun h=>?_
 ·refine aS<|aE rfl<|aN<|aU<|aJ ?_
  cases h
  exact kW rfl
 refine dV<|aS<|aA rfl<|fL h fun j63 h=>aD (bN rfl rfl (aG.fact 0 rfl) rfl rfl j63) rfl<|aD (dM rfl (aG.fact 0 rfl) rfl rfl rfl fC j63) rfl<|aE rfl<|aN<|aU ?_
 cases h
 exact kW rfl
end
section
def jW  (a17:fO):Option gL:=
 some (a17.1,a17.2)
def gP (U:Nat) (p0:Ht) (p1:Int) (a23:Int×bM) (a26:Int):Option gL:=
 ck (0<=(List.length (at' p0.1.2.1.2 p0.2.2.1):Int)∧(List.length (at' p0.1.2.1.2 p0.2.2.1):Int)<=((24:Nat):Int)∧(List.length (at' p0.1.2.1.2 p0.2.2.1):Int)<=(List.length a23.2:Int)) (Option.bind (uY U ((at' p0.2.2.2 p1).1) (List.take (Int.toNat (List.length (at' p0.1.2.1.2 p0.2.2.1):Int)) a23.2)) fun r29=>(jW  (r29,a26)))
def mW (U:Nat) (p0:Ht) (p1:Int) (a23:Int×bM):Option gL:=
 if(List.length (at' p0.1.2.1.2 p0.2.2.1):Int)=(0:Int)then(Option.bind (xF U p0.2.2.2 p1) fun r33=>(gP U p0 p1 a23 (r33)))else(gP U p0 p1 a23 (a23.1))
def gQ (U:Nat) (p0:Ht) (p1:Int) (rc:Sy->Int->Int->Option gL) (a40:Int×Int×bM) (ag39:(Int×Int×bM)->Option gL):Option gL:=
 if a40.2.1<(List.length (at' p0.1.2.1.2 p0.2.2.1):Int)then(Option.bind (rc ((((((p0.1.1.1,p0.1.1.2.1,p0.1.1.2.2)),((p0.1.2.1.1,p0.1.2.1.2)),p0.1.2.2.1,p0.1.2.2.2)),p0.2.1,p0.2.2.1,p0.2.2.2)) (wI .i64 (p1+(1:Int))) a40.2.1) fun r44=>(ck ((0<=a40.2.1∧a40.2.1<((24:Nat):Int))∧List.length a40.2.2=24) (ag39 (r44.2,(wI .i64 (a40.2.1+(1:Int))),(List.set a40.2.2 (Int.toNat a40.2.1) r44.1)))))else(mW U p0 p1 (a40.1,a40.2.2))
def cE (rc:Sy->Int->Int->Option gL) (U:Nat) (p0:Ht) (p1:Int) (p2:Int):Option gL:=
 ck (0<=p1∧p1<(List.length p0.2.2.2:Int)) (if((at' p0.2.2.2 p1).1)<=(17:Int)then(Option.bind (iY U ((((((p0.1.1.1,p0.1.1.2.1,p0.1.1.2.2)),((p0.1.2.1.1,p0.1.2.1.2)),p0.1.2.2.1,p0.1.2.2.2)),p0.2.1,p0.2.2.1,p0.2.2.2)) ((((at' p0.2.2.2 p1).1),((at' p0.2.2.2 p1).2))) p2) fun r4=>(some (r4,(wI .i64 (p1+(1:Int))))))else(if((at' p0.2.2.2 p1).1)<=(19:Int)then(Option.bind (rc ((((((p0.1.1.1,p0.1.1.2.1,p0.1.1.2.2)),((p0.1.2.1.1,p0.1.2.1.2)),p0.1.2.2.1,p0.1.2.2.2)),p0.2.1,p0.2.2.1,p0.2.2.2)) (wI .i64 (p1+(1:Int))) p2) fun r8=>(Option.bind (tD U ((at' p0.2.2.2 p1).1) r8.1) fun r11=>(some (r11,r8.2))))else(if((at' p0.2.2.2 p1).1)<=(29:Int)then(ck (0<=p0.2.2.1∧p0.2.2.1<(List.length p0.1.2.1.2:Int)) (bU (gQ U p0 p1 rc) U ((0:Int),(0:Int),(List.replicate 24 (0:Int)))))else(if((at' p0.2.2.2 p1).1)<=(42:Int)then(Option.bind (rc ((((((p0.1.1.1,p0.1.1.2.1,p0.1.1.2.2)),((p0.1.2.1.1,p0.1.2.1.2)),p0.1.2.2.1,p0.1.2.2.2)),p0.2.1,p0.2.2.1,p0.2.2.2)) (wI .i64 (p1+(1:Int))) p2) fun r49=>(Option.bind (rc ((((((p0.1.1.1,p0.1.1.2.1,p0.1.1.2.2)),((p0.1.2.1.1,p0.1.2.1.2)),p0.1.2.2.1,p0.1.2.2.2)),p0.2.1,p0.2.2.1,p0.2.2.2)) r49.2 p2) fun r52=>(Option.bind (rY U ((at' p0.2.2.2 p1).1) r49.1 r52.1) fun r55=>(some (r55,r52.2)))))else(Option.bind (rc ((((((p0.1.1.1,p0.1.1.2.1,p0.1.1.2.2)),((p0.1.2.1.1,p0.1.2.1.2)),p0.1.2.2.1,p0.1.2.2.2)),p0.2.1,p0.2.2.1,p0.2.2.2)) (wI .i64 (p1+(1:Int))) p2) fun r58=>(Option.bind (rc ((((((p0.1.1.1,p0.1.1.2.1,p0.1.1.2.2)),((p0.1.2.1.1,p0.1.2.1.2)),p0.1.2.2.1,p0.1.2.2.2)),p0.2.1,p0.2.2.1,p0.2.2.2)) r58.2 p2) fun r61=>(Option.bind (rc ((((((p0.1.1.1,p0.1.1.2.1,p0.1.1.2.2)),((p0.1.2.1.1,p0.1.2.1.2)),p0.1.2.2.1,p0.1.2.2.2)),p0.2.1,p0.2.2.1,p0.2.2.2)) r61.2 p2) fun r64=>(if r58.1≠(0:Int)then(some (r61.1,r64.2))else(some (r64.1,r64.2))))))))))
def bI:Nat->Sy->Int->Int->Option gL
 |0,_,_,_=>none
 |U+1,p0,p1,p2=>cE (bI U) U p0 p1 p2
theorem uV:aZ Tryz.prog 111:=Tryz.call111
theorem xO (rc:Sy->Int->Int->Option gL) (U:Nat) (hrc:∀{p0:Ht} {p1:Int} {p2:Int} (bx0:Nat)  (bx1:Nat)  (v2:Value)  (v3:Value)  (v4:Value)  (v5:Value)  (z6:oY)  (v7:Value)  (z8:pH)  (v9:Value)  (z10:pH)  (v11:Value) (r:fO),rc p0 p1 p2=some r->bA Tryz.prog 111 #[vP bx0,vI (p1),vI (p2)] [dD bx0 [vP bx1,v9,vI (p0.2.2.1),v11] 175,dD bx1 [vS (p0.1.1.1),v2,v3,v4,v5,vI (p0.1.2.2.1),v7] 161,Sl aH v2 p0.1.1.2.1,Sl aC v3 p0.1.1.2.2,Sl bP v4 p0.1.2.1.1,S2 bH v5 z6 p0.1.2.1.2,S2 bP v7 z8 p0.1.2.2.2,S2 bP v9 z10 p0.2.1,Sl bH v11 p0.2.2.2] (fun x:Unit=>Value.tuple #[vI (r.1),vI (r.2)]) (fun x l=>l) (fun _ l=>l)) {p0:Ht} {p1:Int} {p2:Int} (bx0:Nat)  (bx1:Nat)  (v2:Value)  (v3:Value)  (v4:Value)  (v5:Value)  (z6:oY)  (v7:Value)  (z8:pH)  (v9:Value)  (z10:pH)  (v11:Value) (r:fO) (h:cE rc U p0 p1 p2=some r):
  bA Tryz.prog 111 #[vP bx0,vI (p1),vI (p2)] [dD bx0 [vP bx1,v9,vI (p0.2.2.1),v11] 175,dD bx1 [vS (p0.1.1.1),v2,v3,v4,v5,vI (p0.1.2.2.1),v7] 161,Sl aH v2 p0.1.1.2.1,Sl aC v3 p0.1.1.2.2,Sl bP v4 p0.1.2.1.1,S2 bH v5 z6 p0.1.2.1.2,S2 bP v7 z8 p0.1.2.2.2,S2 bP v9 z10 p0.2.1,Sl bH v11 p0.2.2.2] (fun x:Unit=>Value.tuple #[vI (r.1),vI (r.2)]) (fun x l=>l) (fun _ l=>l):=by
 refine bA.of Tryz.func111 rfl Tryz.ntmps111 rfl fun c=>?_
 refine aS<|aE rfl<|aE rfl<|aN<|aS<|aA rfl<|aD (bK rfl) rfl<|cH rfl<|aD (cT rfl (aG.fact 0 rfl) rfl rfl rfl) rfl<|aA rfl<|fL h fun j1 h=>aD (bN rfl rfl (aG.fact 8 rfl) rfl rfl j1) rfl<|aD (iS (cs:=[vI ((at' p0.2.2.2 p1).1),vI ((at' p0.2.2.2 p1).2)]) rfl (aG.fact 8 rfl) bG rfl rfl rfl rfl j1) rfl<|aI (aK.alloc (cs:=Qq) rfl rfl) rfl fun b2=>bZ 0 (vs:=[vI ((at' p0.2.2.2 p1).1),vI ((at' p0.2.2.2 p1).2)]) rfl rfl rfl rfl rfl rfl<|aN<|aM<|aX<|aS<|cH rfl<|gE 0 rfl<|aD (Bq rfl rfl) rfl<|aE rfl<|aN ?_
 refine fM h rfl (fun h=>?_) fun h=>?_
 ·refine aS<|aA rfl<|dQ 0 rfl<|aA rfl<|fE h fun r4 w5 h=>aI (aK.callQ QV (AE U bx0 bx1 v2 v3 v4 v5 z6 v7 z8 v9 z10 v11 r4 w5) rfl (qC [0,1,2,3,4,5,6,7,8] rfl)) rfl fun x6=>aA rfl<|dG rfl<|aE rfl<|aE rfl<|aN<|aU<|bR<|aJ ?_
  cases h
  exact kN () rfl rfl (RV.tmp rfl) (RV.tmp rfl) .nil aF.nil
 refine aS<|cH rfl<|gE 0 rfl<|aD (Bq rfl rfl) rfl<|aE rfl<|aN ?_
 refine fM h rfl (fun h=>?_) fun h=>?_
 ·refine aS<|aA rfl<|aA rfl<|dG rfl<|aA rfl<|fE h fun r8 w9 h=>aI (aK.callQ uV (hrc bx0 bx1 v2 v3 v4 v5 z6 v7 z8 v9 z10 v11 r8 w9) rfl (qC [0,1,2,3,4,5,6,7,8] rfl)) rfl fun x10=>aA rfl<|eT rfl<|eT rfl<|aE rfl<|aE rfl<|aN<|aS<|cH rfl<|gE 0 rfl<|aA rfl<|fE h fun r11 w12 h=>aI (aK.callQ QW (Hn U  r11 w12) rfl .nil) rfl fun x13=>aA rfl<|aE rfl<|aE rfl<|aN<|aU<|bR<|aJ ?_
  cases h
  exact kN () rfl rfl (RV.tmp rfl) (RV.tmp rfl) .nil aF.nil
 refine aS<|cH rfl<|gE 0 rfl<|aD (Bq rfl rfl) rfl<|aE rfl<|aN ?_
 refine fM h rfl (fun h=>?_) fun h=>?_
 ·refine aS<|aA rfl<|cH rfl<|gE 0 rfl<|aA rfl<|Jn (A:=fO) (B:=Unit) (vs:=[vP bx0,vI ((at' p0.2.2.2 p1).1),vI (p1)]) (fun a17=>jW  a17=some r) (fun a17 b18=>Value.tuple #[vI (a17.1),vI (a17.2)]) (fun a17 b18=>[]) (fun a17 b18=>[dD bx0 [vP bx1,v9,vI (p0.2.2.1),v11] 175,dD bx1 [vS (p0.1.1.1),v2,v3,v4,v5,vI (p0.1.2.2.1),v7] 161,Sl aH v2 p0.1.1.2.1,Sl aC v3 p0.1.1.2.2,Sl bP v4 p0.1.2.1.1,S2 bH v5 z6 p0.1.2.1.2,S2 bP v7 z8 p0.1.2.2.2,S2 bP v9 z10 p0.2.1,Sl bH v11 p0.2.2.2]) (AF.fn (show aZ Tryz.prog 138 from Tryz.call138) rfl) Tryz.func138 rfl Tryz.ntmps138 rfl rfl ?_ ?_
  ·refine aS<|aE rfl<|aE rfl<|aN<|aS ?_
   refine aI (aK.alloc (cs:=cellsOf cU (List.replicate 24 (0:Int))) rfl (by kernel_rfl)) rfl fun b19=>?_
   refine aN<|aM ?_
   refine JR.start [0,1,3,7,15,31,63,127,0,256,768,1792,4095,8191,16383,32767] 12 mixedOrders (by decide +kernel) ?_
   refine JR.open (by exact rfl) ?_
   refine bL rfl<|oJ rfl (bK rfl)<|cQ rfl<|bO rfl .nil (oF 0 rfl) (cT rfl (aG.fact 0 rfl) rfl rfl rfl) aO.z<|oJ rfl (bK rfl)<|cQ rfl<|cQ rfl<|bO rfl .nil (oF 1 rfl) (cT rfl (aG.fact 0 rfl) rfl rfl rfl) aO.z<|bL rfl<|oJ rfl (bK rfl)<|cQ rfl<|bO rfl .nil (oF 0 rfl) (cT rfl (aG.fact 0 rfl) rfl rfl rfl) aO.z<|cR 12 rfl rfl<|fL h fun j20 h=>aD (cX rfl rfl (aG.fact 5 rfl) rfl rfl j20) rfl<|aD (dH rfl (aG.fact 5 rfl) rfl rfl j20) rfl<|aD (mV rfl (aG.el (aG.fact 5 rfl) j20.1 j20.2) rfl) rfl<|aE rfl<|aN<|aM<|jS (fun a23=>mW U p0 p1 a23=some r) (fun a23 b24=>[(0,vP bx0),(1,vI ((at' p0.2.2.2 p1).1)),(2,vI (p1)),(7,vI (a23.1)),(8,vP b19),(9,vI (List.length (at' p0.1.2.1.2 p0.2.2.1):Int))]) (fun a23 b24=>[dD b19 (cellsOf cU a23.2) 213]) ?_ ?_
   ·refine aS<|aA rfl<|aA rfl<|aN<|aX<|gG (gQ U p0 p1 rc) (fun a40 b41=>[(0,vP bx0),(1,vI ((at' p0.2.2.2 p1).1)),(2,vI (p1)),(7,vI (a40.1)),(8,vP b19),(9,vI (List.length (at' p0.1.2.1.2 p0.2.2.1):Int)),(26,vI (List.length (at' p0.1.2.1.2 p0.2.2.1):Int)),(27,vI (a40.2.1))]) (fun a40 b41=>[dD b19 (cellsOf cU a40.2.2) 213]) ((0:Int),(0:Int),(List.replicate 24 (0:Int))) () h SF (bF.ix [0] rfl rfl) ?_
    intro k42 a40 b41 h
    refine aS<|dR rfl<|aN<|aM ?_
    refine fM h rfl (fun h=>?_) fun h=>?_
    ·refine dV<|aM<|aX<|aS<|aA rfl<|aE rfl<|aN<|aQ<|aA rfl<|aA rfl<|aA rfl<|dG rfl<|aA rfl<|fE h fun r44 w45 h=>aI (aK.callQ uV (hrc bx0 bx1 v2 v3 v4 v5 z6 v7 z8 v9 z10 v11 r44 w45) rfl (qC [0,1,2,3,4,5,6,7,8] rfl)) rfl fun x46=>aA rfl<|eT rfl<|eT rfl<|fL h fun j47 h=>aD (kZ rfl rfl rfl rfl rfl j47.1) rfl<|DF 0 (e:=cU) r44.1 j47 rfl rfl rfl rfl rfl rfl rfl<|aE rfl<|fJ<|qB<|aQ<|dG rfl<|aA rfl<|aN ?_
     exact Bf (r44.2,(wI .i64 (a40.2.1+(1:Int))),(List.set a40.2.2 (Int.toNat a40.2.1) r44.1)) () h SF rfl
    refine h_ ?_
    exact lW (a40.1,a40.2.2) () h SF rfl
   intro a23 b24 h
   refine aM<|jS (fun a26=>gP U p0 p1 a23 a26=some r) (fun a26 b27=>[(1,vI ((at' p0.2.2.2 p1).1)),(7,vI (a26)),(8,vP b19),(9,vI (List.length (at' p0.1.2.1.2 p0.2.2.1):Int))]) (fun a26 b27=>[dD b19 (cellsOf cU a23.2) 213]) ?_ ?_
   ·refine aS<|aA rfl<|cN rfl<|aN ?_
    refine fM h rfl (fun h=>?_) fun h=>?_
    ·refine aQ<|aA rfl<|aD (bK rfl) rfl<|cH rfl<|aD (cT rfl (aG.fact 0 rfl) rfl rfl rfl) rfl<|aA rfl<|fE h fun r33 w34 h=>aI (aK.callQ TW (Kl U v11 r33 w34) rfl (qC [8] rfl)) rfl fun x35=>aE rfl<|aN ?_
     exact lW (r33) () h SF rfl
    refine dV ?_
    exact lW (a23.1) () h SF rfl
   intro a26 b27 h
   refine aS<|aA rfl<|aA rfl<|fL h fun j28 h=>aD (JD rfl rfl rfl rfl j28) rfl<|fE h fun r29 w30 h=>aI (aK.callQ QZ (IQ U (Value.slice (some ⟨b19,0,none⟩) (Int.toNat (List.length (at' p0.1.2.1.2 p0.2.2.1):Int)) 24) r29 w30) rfl (aF.cons (Ng (i:=0) rfl eL j28 (by decide)) .nil)) rfl fun x31=>?_
   refine aA rfl<|aE rfl<|aE rfl<|aN<|aU ?_
   exact DD (r29,a26) () h (.inl rfl) (Qk.r2 rfl (RV.tmp rfl) (RV.tmp rfl)) rfl .nil (aF.refl _ _)
  intro a17 b18 h
  unfold jW at h
  refine eT rfl<|eT rfl<|aE rfl<|aE rfl<|aN<|aU<|bR<|aJ ?_
  cases h
  exact kN () rfl rfl (RV.tmp rfl) (RV.tmp rfl) (bF.refl _) aF.nil
 refine aS<|cH rfl<|gE 0 rfl<|aD (Bq rfl rfl) rfl<|aE rfl<|aN ?_
 refine fM h rfl (fun h=>?_) fun h=>?_
 ·refine aS<|aA rfl<|aA rfl<|dG rfl<|aA rfl<|fE h fun r49 w50 h=>aI (aK.callQ uV (hrc bx0 bx1 v2 v3 v4 v5 z6 v7 z8 v9 z10 v11 r49 w50) rfl (qC [0,1,2,3,4,5,6,7,8] rfl)) rfl fun x51=>aA rfl<|eT rfl<|eT rfl<|aE rfl<|aE rfl<|aN<|aS<|aA rfl<|aA rfl<|aA rfl<|fE h fun r52 w53 h=>aI (aK.callQ uV (hrc bx0 bx1 v2 v3 v4 v5 z6 v7 z8 v9 z10 v11 r52 w53) rfl (qC [0,1,2,3,4,5,6,7,8] rfl)) rfl fun x54=>aA rfl<|eT rfl<|eT rfl<|aE rfl<|aE rfl<|aN<|aS<|cH rfl<|gE 0 rfl<|aA rfl<|aA rfl<|fE h fun r55 w56 h=>aI (aK.callQ QX (Fc U  r55 w56) rfl .nil) rfl fun x57=>aA rfl<|aE rfl<|aE rfl<|aN<|aU<|bR<|aJ ?_
  cases h
  exact kN () rfl rfl (RV.tmp rfl) (RV.tmp rfl) .nil aF.nil
 refine e_<|qB<|aS<|aA rfl<|aA rfl<|dG rfl<|aA rfl<|fE h fun r58 w59 h=>aI (aK.callQ uV (hrc bx0 bx1 v2 v3 v4 v5 z6 v7 z8 v9 z10 v11 r58 w59) rfl (qC [0,1,2,3,4,5,6,7,8] rfl)) rfl fun x60=>aA rfl<|eT rfl<|eT rfl<|aE rfl<|aE rfl<|aN<|aS<|aA rfl<|aA rfl<|aA rfl<|fE h fun r61 w62 h=>aI (aK.callQ uV (hrc bx0 bx1 v2 v3 v4 v5 z6 v7 z8 v9 z10 v11 r61 w62) rfl (qC [0,1,2,3,4,5,6,7,8] rfl)) rfl fun x63=>aA rfl<|eT rfl<|eT rfl<|aE rfl<|aE rfl<|aN<|aS<|aA rfl<|aA rfl<|aA rfl<|fE h fun r64 w65 h=>aI (aK.callQ uV (hrc bx0 bx1 v2 v3 v4 v5 z6 v7 z8 v9 z10 v11 r64 w65) rfl (qC [0,1,2,3,4,5,6,7,8] rfl)) rfl fun x66=>aA rfl<|eT rfl<|eT rfl<|aE rfl<|aE rfl<|aN<|aM<|aS<|aA rfl<|pC rfl<|aN ?_
 refine fM h rfl (fun h=>?_) fun h=>?_
 ·refine aS<|aA rfl<|aA rfl<|aE rfl<|aE rfl<|aN<|aU<|aJ ?_
  cases h
  exact kN () rfl rfl (RV.tmp rfl) (RV.tmp rfl) .nil aF.nil
 refine dV<|aS<|aA rfl<|aA rfl<|aE rfl<|aE rfl<|aN<|aU ?_
 cases h
 exact kN () rfl rfl (RV.tmp rfl) (RV.tmp rfl) .nil aF.nil
theorem zI (U:Nat):∀{p0:Ht} {p1:Int} {p2:Int} (bx0:Nat)  (bx1:Nat)  (v2:Value)  (v3:Value)  (v4:Value)  (v5:Value)  (z6:oY)  (v7:Value)  (z8:pH)  (v9:Value)  (z10:pH)  (v11:Value) (r:fO),bI U p0 p1 p2=some r->
  bA Tryz.prog 111 #[vP bx0,vI (p1),vI (p2)] [dD bx0 [vP bx1,v9,vI (p0.2.2.1),v11] 175,dD bx1 [vS (p0.1.1.1),v2,v3,v4,v5,vI (p0.1.2.2.1),v7] 161,Sl aH v2 p0.1.1.2.1,Sl aC v3 p0.1.1.2.2,Sl bP v4 p0.1.2.1.1,S2 bH v5 z6 p0.1.2.1.2,S2 bP v7 z8 p0.1.2.2.2,S2 bP v9 z10 p0.2.1,Sl bH v11 p0.2.2.2] (fun x:Unit=>Value.tuple #[vI (r.1),vI (r.2)]) (fun x l=>l) (fun _ l=>l):=by
 induction U with
 |zero=>intros;rename_i h;cases h
 |succ U ih=>exact fun bx0 bx1 v2 v3 v4 v5 z6 v7 z8 v9 z10 v11 r h=>xO (bI U) U ih bx0 bx1 v2 v3 v4 v5 z6 v7 z8 v9 z10 v11 r h
end
end Go.Proofs.YtlciiihigmgaiaaGreat
end
section
namespace Go.Gx
open Go Go.Sx
noncomputable section
inductive GV where
 |int (k:IntKind) (n:Int)
 |bool (b:Bool)
 |str (n len:Nat)
 |ptr (h off:Nat)
 |pnil
 |sl (h off len sz:Nat)
 |snil
 |map (h:Nat)
 |fn (f:FuncId) (first caps:List GV)
 |fnil
 |inil
 |agg (cs:List GV)
 |tup (vs:List GV)
 |un
 |bad
 |opn (h:Nat)
inductive GO where
 |cells (cs:List GV)
 |mp (es:List (GV×GV))
inductive Tr (α:Type) where
 |lf
 |nd (a:Option α) (l r:Tr α)
def ob {α β:Type} (o:Option α) (f:α->Option β):Option β:=Option.casesOn (motive:=fun _=>Option β) o none f
def Tr.get {α:Type} (t:Tr α):Nat->Option α:=Tr.rec (motive:=fun _=>Nat->Option α) (fun _=>none) (fun a _ _ gl gr n=>Bool.casesOn (motive:=fun _=>Option α) (Nat.beq n 0) (Bool.casesOn (motive:=fun _=>Option α) (Nat.beq (Nat.mod n 2) 1) (gr (Nat.sub (Nat.div n 2) 1)) (gl (Nat.div n 2))) a) t
def wV {α:Type} (x:Option α) (f:Nat):Nat->Tr α:=Nat.rec (motive:=fun _=>Nat->Tr α) (fun _=> .lf) (fun _ ih n=>bif Nat.beq n 0 then .nd x .lf .lf else bif Nat.beq (Nat.mod n 2) 1 then .nd none (ih (Nat.div n 2)) .lf else .nd none .lf (ih (Nat.sub (Nat.div n 2) 1))) f
def Tr.set {α:Type} (x:Option α) (t:Tr α):Nat->Tr α:=Tr.rec (motive:=fun _=>Nat->Tr α) (fun n=>wV x (Nat.succ n) n) (fun a l r sl sr n=>Bool.casesOn (motive:=fun _=>Tr α) (Nat.beq n 0) (Bool.casesOn (motive:=fun _=>Tr α) (Nat.beq (Nat.mod n 2) 1) (.nd a l (sr (Nat.sub (Nat.div n 2) 1))) (.nd a (sl (Nat.div n 2)) r)) (.nd x l r)) t
def Bo {α R:Type} (x:Option α) (f:Nat):Nat->(Tr α->R)->R:=Nat.rec (motive:=fun _=>Nat->(Tr α->R)->R) (fun _ k=>k .lf) (fun _ ih n k=>Bool.casesOn (motive:=fun _=>R) (Nat.beq n 0) (Bool.casesOn (motive:=fun _=>R) (Nat.beq (Nat.mod n 2) 1) (ih (Nat.sub (Nat.div n 2) 1) fun t=>k (.nd none .lf t)) (ih (Nat.div n 2) fun t=>k (.nd none t .lf))) (k (.nd x .lf .lf))) f
def Tr.setK {α R:Type} (x:Option α) (t:Tr α):Nat->(Tr α->R)->R:=Tr.rec (motive:=fun _=>Nat->(Tr α->R)->R) (fun n k=>Bo x (Nat.succ n) n k) (fun a l r sl sr n k=>Bool.casesOn (motive:=fun _=>R) (Nat.beq n 0) (Bool.casesOn (motive:=fun _=>R) (Nat.beq (Nat.mod n 2) 1) (sr (Nat.sub (Nat.div n 2) 1) fun t=>k (.nd a l t)) (sl (Nat.div n 2) fun t=>k (.nd a t r))) (k (.nd x l r))) t
def sn {α:Type} (n:Nat) (f:Nat->α):α:=Nat.rec (motive:=fun _=>α) (f 0) (fun m _=>f (Nat.succ m)) n
def fi {α:Type} (z:Int) (f:Int->α):α:=Int.casesOn (motive:=fun _=>α) z (fun a=>sn a fun a=>f (.ofNat a)) (fun a=>sn a fun a=>f (.negSucc a))
def fb (b:Bool):Option GV:=Bool.casesOn (motive:=fun _=>Option GV) b (some (.bool false)) (some (.bool true))
structure GH where
 n:Nat
 t:Tr (Nat×GO)
def GH.get (H:GH) (h:Nat):Option GO:=ob (H.t.get h) fun p=>some p.2
def GH.ver (H:GH) (h:Nat):Option Nat:=ob (H.t.get h) fun p=>some p.1
def GH.set (H:GH) (h:Nat) (o:GO):GH:=⟨Nat.succ H.n,H.t.set (some (H.n,o)) h⟩
def GH.del (H:GH) (h:Nat):GH:=⟨H.n,H.t.set none h⟩
def GH.newK {α:Type} (H:GH) (o:GO) (f:Nat->GH->α):α:=sn H.n fun n=>H.t.setK (some (n,o)) n fun t=>sn (Nat.succ n) fun m=>f n ⟨m,t⟩
def GH.setK {α:Type} (H:GH) (h:Nat) (o:GO) (f:GH->α):α:=sn H.n fun n=>H.t.setK (some (n,o)) h fun t=>sn (Nat.succ n) fun m=>f ⟨m,t⟩
def GH.delK {α:Type} (H:GH) (h:Nat) (f:GH->α):α:=H.t.setK none h fun t=>f ⟨H.n,t⟩
def Tp (o:GO):Option (List GV):=GO.casesOn (motive:=fun _=>Option (List GV)) o (fun cs=>some cs) (fun _=>none)
def GO.asM (o:GO):Option (List (GV×GV)):=GO.casesOn (motive:=fun _=>Option (List (GV×GV))) o (fun _=>none) (fun es=>some es)
def GH.cells (H:GH) (h:Nat):Option (List GV):=ob (H.get h) Tp
abbrev GF:=List (Nat×GV)
def AC (σ:GF) (t:Nat):Option GV:=List.rec (motive:=fun _=>Option GV) none (fun p _ ih=>Bool.casesOn (motive:=fun _=>Option GV) (Nat.beq t p.1) ih (some p.2)) σ
def UB (a b:Int):Bool:=Int.casesOn (motive:=fun _=>Bool) a (fun a=>Int.casesOn (motive:=fun _=>Bool) b (fun b=>Nat.blt a b) (fun _=>false)) (fun a=>Int.casesOn (motive:=fun _=>Bool) b (fun _=>true) (fun b=>Nat.blt b a))
def Vb (a b:Int):Bool:=Int.casesOn (motive:=fun _=>Bool) a (fun a=>Int.casesOn (motive:=fun _=>Bool) b (fun b=>Nat.beq a b) (fun _=>false)) (fun a=>Int.casesOn (motive:=fun _=>Bool) b (fun _=>false) (fun b=>Nat.beq a b))
def TF (a:Int):Option Nat:=Int.casesOn (motive:=fun _=>Option Nat) a (fun a=>some a) (fun _=>none)
def Jh (a b:Nat×Nat):Bool:=bif Nat.beq a.2 b.2 then Nat.beq a.1 b.1 else false
def KO (a b:Bool):Bool:=Bool.casesOn (motive:=fun _=>Bool) a (Bool.casesOn (motive:=fun _=>Bool) b true false) b
def BV {α:Type} (l:List α):Nat->Option α:=List.rec (motive:=fun _=>Nat->Option α) (fun _=>none) (fun x _ ih n=>Nat.casesOn (motive:=fun _=>Option α) n (some x) ih) l
def RO {α:Type} (v:α) (l:List α):Nat->Option (List α):=List.rec (motive:=fun _=>Nat->Option (List α)) (fun _=>none) (fun x r ih n=>Nat.casesOn (motive:=fun _=>Option (List α)) n (some (v::r)) (fun n=>ob (ih n) fun r'=>some (x::r'))) l
def Bw (vs:List GV):Nat->List GV->Option (List GV):=List.rec (motive:=fun _=>Nat->List GV->Option (List GV)) (fun _ cs=>some cs) (fun v _ ih o cs=>ob (RO v cs o) fun cs'=>sn (Nat.succ o) fun o'=>ih o' cs') vs
def tk {α:Type} (l:List α):Nat->Option (List α):=List.rec (motive:=fun _=>Nat->Option (List α)) (fun n=>Nat.casesOn (motive:=fun _=>Option (List α)) n (some []) (fun _=>none)) (fun x _ ih n=>Nat.casesOn (motive:=fun _=>Option (List α)) n (some []) (fun n=>ob (ih n) fun r=>some (x::r))) l
def dp {α:Type} (l:List α):Nat->Option (List α):=List.rec (motive:=fun _=>Nat->Option (List α)) (fun n=>Nat.casesOn (motive:=fun _=>Option (List α)) n (some []) (fun _=>none)) (fun x r ih n=>Nat.casesOn (motive:=fun _=>Option (List α)) n (some (x::r)) ih) l
def Vi {α:Type} (l:List α) (o n:Nat):Option (List α):=ob (dp l o) fun r=>tk r n
def iO (l:List UInt8):Nat:=List.rec (motive:=fun _=>Nat) 0 (fun b _ ih=>Nat.add b.toNat (Nat.mul 256 ih)) l
def aY (s:ByteArray):List UInt8:=s.data.toList
def GV.asI (v:GV):Option (IntKind×Int):=GV.casesOn (motive_1:=fun _=>Option (IntKind×Int)) v (fun a0 a1=>some (a0,a1)) (fun _=>none) (fun _ _=>none) (fun _ _=>none) none (fun _ _ _ _=>none) none (fun _=>none) (fun _ _ _=>none) none none (fun _=>none) (fun _=>none) none none (fun _=>none)
def GV.asB (v:GV):Option (Bool):=GV.casesOn (motive_1:=fun _=>Option (Bool)) v (fun _ _=>none) (fun a0=>some a0) (fun _ _=>none) (fun _ _=>none) none (fun _ _ _ _=>none) none (fun _=>none) (fun _ _ _=>none) none none (fun _=>none) (fun _=>none) none none (fun _=>none)
def GV.asP (v:GV):Option eY:=GV.casesOn (motive_1:=fun _=>Option eY) v (fun _ _=>none) (fun _=>none) (fun _ _=>none) (fun a0 a1=>some (a0,a1)) none (fun _ _ _ _=>none) none (fun _=>none) (fun _ _ _=>none) none none (fun _=>none) (fun _=>none) none none (fun _=>none)
def GV.asS (v:GV):Option (Nat×Nat×Nat×Nat):=GV.casesOn (motive_1:=fun _=>Option (Nat×Nat×Nat×Nat)) v (fun _ _=>none) (fun _=>none) (fun _ _=>none) (fun _ _=>none) none (fun a0 a1 a2 a3=>some (a0,a1,a2,a3)) none (fun _=>none) (fun _ _ _=>none) none none (fun _=>none) (fun _=>none) none none (fun _=>none)
def GV.asF (v:GV):Option (Nat×List GV×List GV):=GV.casesOn (motive_1:=fun _=>Option (Nat×List GV×List GV)) v (fun _ _=>none) (fun _=>none) (fun _ _=>none) (fun _ _=>none) none (fun _ _ _ _=>none) none (fun _=>none) (fun a0 a1 a2=>some (a0,a1,a2)) none none (fun _=>none) (fun _=>none) none none (fun _=>none)
def GV.asT (v:GV):Option (List GV):=GV.casesOn (motive_1:=fun _=>Option (List GV)) v (fun _ _=>none) (fun _=>none) (fun _ _=>none) (fun _ _=>none) none (fun _ _ _ _=>none) none (fun _=>none) (fun _ _ _=>none) none none (fun _=>none) (fun a0=>some a0) none none (fun _=>none)
def GV.asStr (v:GV):Option eY:=GV.casesOn (motive_1:=fun _=>Option eY) v (fun _ _=>none) (fun _=>none) (fun a0 a1=>some (a0,a1)) (fun _ _=>none) none (fun _ _ _ _=>none) none (fun _=>none) (fun _ _ _=>none) none none (fun _=>none) (fun _=>none) none none (fun _=>none)
def GV.asM (v:GV):Option (Nat):=GV.casesOn (motive_1:=fun _=>Option (Nat)) v (fun _ _=>none) (fun _=>none) (fun _ _=>none) (fun _ _=>none) none (fun _ _ _ _=>none) none (fun a0=>some a0) (fun _ _ _=>none) none none (fun _=>none) (fun _=>none) none none (fun _=>none)
def GV.asA (v:GV):Option (List GV):=GV.casesOn (motive_1:=fun _=>Option (List GV)) v (fun _ _=>none) (fun _=>none) (fun _ _=>none) (fun _ _=>none) none (fun _ _ _ _=>none) none (fun _=>none) (fun _ _ _=>none) none none (fun a0=>some a0) (fun _=>none) none none (fun _=>none)
def GV.cells (v:GV):Option (List GV):=GV.casesOn (motive_1:=fun _=>Option (List GV)) v (fun a0 a1=>some [GV.int a0 a1]) (fun a0=>some [GV.bool a0]) (fun a0 a1=>some [GV.str a0 a1]) (fun a0 a1=>some [GV.ptr a0 a1]) (some [GV.pnil]) (fun a0 a1 a2 a3=>some [GV.sl a0 a1 a2 a3]) (some [GV.snil]) (fun a0=>some [GV.map a0]) (fun a0 a1 a2=>some [GV.fn a0 a1 a2]) (some [GV.fnil]) (some [GV.inil]) (fun a0=>some a0) (fun a0=>none) (none) (none) (fun a0=>none)
def GV.isSnil (v:GV):Bool:=GV.casesOn (motive_1:=fun _=>Bool) v (fun _ _=>false) (fun _=>false) (fun _ _=>false) (fun _ _=>false) (false) (fun _ _ _ _=>false) (true) (fun _=>false) (fun _ _ _=>false) (false) (false) (fun _=>false) (fun _=>false) (false) (false) (fun _=>false)
def GV.isInil (v:GV):Bool:=GV.casesOn (motive_1:=fun _=>Bool) v (fun _ _=>false) (fun _=>false) (fun _ _=>false) (fun _ _=>false) (false) (fun _ _ _ _=>false) (false) (fun _=>false) (fun _ _ _=>false) (false) (true) (fun _=>false) (fun _=>false) (false) (false) (fun _=>false)
def GV.nilck (v:GV):Option GV:=GV.casesOn (motive_1:=fun _=>Option GV) v (fun a0 a1=>none) (fun a0=>none) (fun a0 a1=>none) (fun a0 a1=>some (GV.ptr a0 a1)) (none) (fun a0 a1 a2 a3=>none) (none) (fun a0=>none) (fun a0 a1 a2=>some (GV.fn a0 a1 a2)) (none) (none) (fun a0=>none) (fun a0=>none) (none) (none) (fun a0=>none)
def tdE (d:TypeDesc):Bool:=TypeDesc.casesOn (motive:=fun _=>Bool) d false false (fun _=>false) (fun _=>false) (fun _=>false) false false (fun _=>false) (fun _=>false) (fun _ _=>false) (fun _ _=>false) (fun _ _=>false) (fun _=>false) (fun _ _ _=>false) (fun a0=>Nat.beq (Array.size a0) 0) (fun _=>false) (fun _ _=>false)
def Qp (d:TypeDesc):Option TypeId:=TypeDesc.casesOn (motive:=fun _=>Option TypeId) d none none (fun _=>none) (fun _=>none) (fun _=>none) none none (fun _=>none) (fun a0=>some a0) (fun _ _=>none) (fun _ _=>none) (fun _ _=>none) (fun _=>none) (fun _ _ _=>none) (fun _=>none) (fun _=>none) (fun _ _=>none)
def UU (d:TypeDesc):Option (Nat×TypeId):=TypeDesc.casesOn (motive:=fun _=>Option (Nat×TypeId)) d none none (fun _=>none) (fun _=>none) (fun _=>none) none none (fun _=>none) (fun _=>none) (fun a0 a1=>some (a0,a1)) (fun _ _=>none) (fun _ _=>none) (fun _=>none) (fun _ _ _=>none) (fun _=>none) (fun _=>none) (fun _ _=>none)
def WE (d:TypeDesc):Option (Array Field):=TypeDesc.casesOn (motive:=fun _=>Option (Array Field)) d none none (fun _=>none) (fun _=>none) (fun _=>none) none none (fun _=>none) (fun _=>none) (fun _ _=>none) (fun _ _=>none) (fun _ _=>none) (fun a0=>some a0) (fun _ _ _=>none) (fun _=>none) (fun _=>none) (fun _ _=>none)
def Qo (d:TypeDesc):Option IntKind:=TypeDesc.casesOn (motive:=fun _=>Option IntKind) d none none (fun a0=>some a0) (fun _=>none) (fun _=>none) none none (fun _=>none) (fun _=>none) (fun _ _=>none) (fun _ _=>none) (fun _ _=>none) (fun _=>none) (fun _ _ _=>none) (fun _=>none) (fun _=>none) (fun _ _=>none)
def CW (d:TypeDesc):Bool:=TypeDesc.casesOn (motive:=fun _=>Bool) d false false (fun _=>false) (fun _=>false) (fun _=>false) (true) false (fun _=>false) (fun _=>false) (fun _ _=>false) (fun _ _=>false) (fun _ _=>false) (fun _=>false) (fun _ _ _=>false) (fun _=>false) (fun _=>false) (fun _ _=>false)
def Wo (d:TypeDesc):Bool:=TypeDesc.casesOn (motive:=fun _=>Bool) d false (true) (fun _=>false) (fun _=>false) (fun _=>false) false false (fun _=>false) (fun _=>false) (fun _ _=>false) (fun _ _=>false) (fun _ _=>false) (fun _=>false) (fun _ _ _=>false) (fun _=>false) (fun _=>false) (fun _ _=>false)
def tdM (d:TypeDesc):Option (TypeId×TypeId):=TypeDesc.casesOn (motive:=fun _=>Option (TypeId×TypeId)) d none none (fun _=>none) (fun _=>none) (fun _=>none) none none (fun _=>none) (fun _=>none) (fun _ _=>none) (fun a0 a1=>some (a0,a1)) (fun _ _=>none) (fun _=>none) (fun _ _ _=>none) (fun _=>none) (fun _=>none) (fun _ _=>none)
def Mt:Value->Option GV
 | .int k n=>some (.int k n)
 | .bool b=>some (.bool b)
 | .slice none 0 0=>some .snil
 | .pointer none=>some .pnil
 | .nilFunc=>some .fnil
 | .nilIface=>some .inil
 | .string s=>sn (iO (aY s)) fun n=>sn (aY s).length fun l=>some (.str n l)
 |_=>none
def RY:iN->Option (List GV)
 | []=>some []
 |v::vs=>ob (Mt v) fun x=>ob (RY vs) fun xs=>some (x::xs)
def Wb:Value->Option GV
 | .agg cs=>ob (RY cs.toList) fun xs=>some (.agg xs)
 |v=>Mt v
def Cy (s:Sem Value):Option GV:=match s with
 | .pure v=>Mt v
 |_=>none
def Ol (z:Int):Bool:=Int.casesOn (motive:=fun _=>Bool) z (fun a=>Nat.blt a 9223372036854775808) (fun a=>Nat.blt a 9223372036854775808)
def SU (k:IntKind):Bool:=IntKind.casesOn (motive:=fun _=>Bool) k false false false true false false false false
def gw (k:IntKind) (z:Int):Option GV:=fi z fun z=>bif SU k then(bif Ol z then some (.int k z)else none)else fi (k.wrap z) fun z=>some (.int k z)
def Vd (a b:IntKind):Bool:=decide (a=b)
def Vu (op:BinOp) (k:IntKind) (a b:Int):Option GV:=BinOp.casesOn (motive:=fun _=>Option GV) op (gw k (a+b)) (gw k (a - b)) (Cy (binOp .mul 0 (.int k a) (.int k b))) (Cy (binOp .quo 0 (.int k a) (.int k b))) (Cy (binOp .rem 0 (.int k a) (.int k b))) (Cy (binOp .and 0 (.int k a) (.int k b))) (Cy (binOp .or 0 (.int k a) (.int k b))) (Cy (binOp .xor 0 (.int k a) (.int k b))) (Cy (binOp .shl 0 (.int k a) (.int k b))) (Cy (binOp .shr 0 (.int k a) (.int k b))) (Cy (binOp .andNot 0 (.int k a) (.int k b))) (fb (Vb a b)) (fb (!Vb a b)) (fb (UB a b)) (fb (!UB b a)) (fb (UB b a)) (fb (!UB a b))
def Do (op:BinOp):Bool:=BinOp.casesOn (motive:=fun _=>Bool) op false false false false false false false false true true false false false false false false false
def Ua (a b:Nat×Nat):Option GV:=bif Nat.blt (Nat.add a.2 b.2) 16777216 then sn (Nat.add a.1 (Nat.mul (Nat.pow 2 (Nat.mul 8 a.2)) b.1)) fun n=>sn (Nat.add a.2 b.2) fun l=>some (.str n l)else none
def XP (op:BinOp) (a b:Nat×Nat):Option GV:=BinOp.casesOn (motive:=fun _=>Option GV) op (Ua a b) none none none none none none none none none none (fb (Jh a b)) (fb (!Jh a b)) none none none none
def XO (op:BinOp):Option GV:=BinOp.casesOn (motive:=fun _=>Option GV) op none none none none none none none none none none none (some (.bool true)) (some (.bool false)) none none none none
def QK (op:BinOp) (a b:Bool):Option GV:=BinOp.casesOn (motive:=fun _=>Option GV) op none none none none none none none none none none none (fb (KO a b)) (fb (!KO a b)) none none none none
def gN (σ:GF) (o:Operand):Option GV:=Operand.casesOn (motive:=fun _=>Option GV) o (fun t=>AC σ t) Wb (fun _=>none) (fun f=>some (.fn f [] []))
def AX (σ:GF) (l:List Operand):Option (List GV):=List.rec (motive:=fun _=>Option (List GV)) (some []) (fun x _ ih=>ob (gN σ x) fun v=>ob ih fun vs=>some (v::vs)) l
def oQ (σ:GF) (l:List (Nat×Operand)):Option (List (Nat×GV)):=List.rec (motive:=fun _=>Option (List (Nat×GV))) (some []) (fun p _ ih=>ob (gN σ p.2) fun v=>ob ih fun vs=>some ((p.1,v)::vs)) l
abbrev TB:=Nat->Option Ty
def tU (tb:TB) (T:TypeId):Option (TypeId×Ty):=ob (tb T) fun t=>ob (Qp t.desc) fun e=>ob (tb e) fun te=>some (e,te)
def Hl (tb:TB) (l:List Field):Option (List (Nat×Nat)):=List.rec (motive:=fun _=>Option (List (Nat×Nat))) (some []) (fun f _ ih=>ob (tb f.type) fun t=>ob ih fun r=>some ((f.offset,t.size)::r)) l
def mJ (tb:TB) (T:TypeId):Option (List Field):=ob (tb T) fun t=>ob (WE t.desc) fun fs=>some fs.toList
def Ix (tb:TB) (T:TypeId):Option (List (Nat×Nat)):=ob (mJ tb T) fun fs=>Hl tb fs
abbrev OR:=Option (GV×GH)
def cF (c a b:GV):Option GV:=ob c.asB fun q=>Bool.casesOn (motive:=fun _=>Option GV) q (some b) (some a)
def Rx (v:GV):Option Nat:=bif v.isSnil then some 0 else ob v.asS fun s=>some s.2.2.1
def JY (t:Ty) (a b:GV):Option Bool:=Option.casesOn (motive:=fun _=>Option Bool) a.asI (Option.casesOn (motive:=fun _=>Option Bool) a.asStr (ob a.asB fun x=>ob b.asB fun y=>bif Wo t.desc then some (KO x y)else none) fun x=>ob b.asStr fun y=>bif CW t.desc then some (Jh x y)else none) fun x=>ob b.asI fun y=>ob (Qo t.desc) fun _=>bif Vd x.1 y.1 then some (Vb x.2 y.2)else none
def Rm (tb:TB) (cs ds:List GV) (fs:List Field):Option Bool:=List.rec (motive:=fun _=>Option Bool) (some true) (fun f _ ih=>ob (tb f.type) fun t=>ob (BV cs f.offset) fun a=>ob (BV ds f.offset) fun b=>ob (JY t a b) fun q=>bif q then ih else some false) fs
def AK (t:Ty):Bool:=bif Wo t.desc then true else bif CW t.desc then true else Option.casesOn (motive:=fun _=>Bool) (Qo t.desc) false fun _=>true
def qR (tb:TB) (fs:List Field):Bool:=List.rec (motive:=fun _=>Bool) true (fun f _ ih=>Option.casesOn (motive:=fun _=>Bool) (tb f.type) false fun t=>bif AK t then ih else false) fs
def FG (T:Nat):Bool:=bif Nat.blt 31 T then Nat.blt T 512 else false
def PQ (tb:TB) (op:BinOp) (T:TypeId) (v u:GV):Option GV:=Option.casesOn (motive:=fun _=>Option GV) v.asA (bif u.isSnil then ob (Rx v) fun _=>ob (tb T) fun t=>ob (Qp t.desc) fun _=>QK op v.isSnil true else none) fun cs=>ob u.asA fun ds=>bif FG T then ob (mJ tb T) fun fs=>bif qR tb fs then ob (Rm tb cs ds fs) fun q=>QK op q true else none else none
def f_ (tb:TB) (op:BinOp) (T:TypeId) (v u:GV):Option GV:=
 Option.casesOn (motive:=fun _=>Option GV) v.asI
  (Option.casesOn (motive:=fun _=>Option GV) v.asStr (Option.casesOn (motive:=fun _=>Option GV) v.asB (bif v.isInil then(bif u.isInil then ob (tb T) fun t=>bif tdE t.desc then XO op else none else none)else PQ tb op T v u) fun a=>ob u.asB fun b=>ob (tb T) fun t=>bif Wo t.desc then QK op a b else none) fun a=>ob u.asStr fun b=>XP op a b)
  fun a=>ob u.asI fun b=>bif Do op then Cy (binOp op 0 (.int a.1 a.2) (.int b.1 b.2))else bif Vd a.1 b.1 then Vu op a.1 a.2 b.2 else none
def uO (op:UnOp) (v:GV):Option GV:=UnOp.casesOn (motive:=fun _=>Option GV) op (ob v.asI fun a=>gw a.1 (0 - a.2)) none (ob v.asB fun b=>fb (!b)) none
def Lw (tb:TB) (S D:TypeId) (v:GV):Option GV:=ob v.asI fun a=>ob (tb S) fun s=>ob (Qo s.desc) fun _=>ob (tb D) fun t=>ob (Qo t.desc) fun k=>fi (k.wrap a.2) fun z=>some (.int k z)
def vB (o:Option GV) (d:Nat):Option Nat:=Option.casesOn (motive:=fun _=>Option Nat) o (some d) fun v=>ob v.asI fun a=>TF a.2
def SI (s:Nat×Nat) (l h:Nat):Option GV:=bif Nat.ble l h then(bif Nat.ble h s.2 then sn (Nat.mod (Nat.shiftRight s.1 (Nat.mul 8 l)) (Nat.pow 2 (Nat.mul 8 (Nat.sub h l)))) fun n=>sn (Nat.sub h l) fun k=>some (.str n k)else none)else none
def SG (s:Nat×Nat×Nat×Nat) (sz l h:Nat):Option GV:=bif Nat.beq sz s.2.2.2 then(bif Nat.ble l h then(bif Nat.ble h s.2.2.1 then sn (Nat.add s.2.1 (Nat.mul l sz)) fun o=>sn (Nat.sub h l) fun k=>some (.sl s.1 o k sz)else none)else none)else none
def SH (p:Nat×Nat) (n sz l h:Nat):Option GV:=bif Nat.ble l h then(bif Nat.ble h n then(bif Nat.beq sz 0 then none else sn (Nat.add p.2 (Nat.mul l sz)) fun o=>sn (Nat.sub h l) fun k=>some (.sl p.1 o k sz))else none)else none
def oZ (tb:TB) (T:TypeId) (v:GV) (lo hi:Option GV) (H:GH):Option GV:=ob (vB lo 0) fun l=>ob (tb T) fun t=>
 Option.casesOn (motive:=fun _=>Option GV) v.asStr
  (Option.casesOn (motive:=fun _=>Option GV) v.asS
   (Bool.casesOn (motive:=fun _=>Option GV) v.isSnil (ob v.asP fun p=>ob (UU t.desc) fun e=>ob (tb e.2) fun te=>ob (vB hi e.1) fun h=>ob (H.cells p.1) fun cs=>bif Nat.ble (Nat.add p.2 (Nat.mul e.1 te.size)) cs.length then SH p e.1 te.size l h else none) (ob (Qp t.desc) fun e=>ob (tb e) fun te=>ob (vB hi 0) fun h=>bif Nat.beq l 0 then(bif Nat.beq h 0 then some .snil else none)else none))
   fun s=>ob (Qp t.desc) fun e=>ob (tb e) fun te=>ob (vB hi s.2.2.1) fun h=>SG s te.size l h)
  fun s=>ob (vB hi s.2) fun h=>bif CW t.desc then SI s l h else none
def cP (tb:TB) (T:TypeId) (f:Nat) (v:GV):Option GV:=ob v.asP fun p=>ob (mJ tb T) fun fs=>ob (BV fs f) fun q=>ob (tb q.type) fun tq=>bif Nat.beq tq.size 0 then none else sn (Nat.add p.2 q.offset) fun o=>some (.ptr p.1 o)
def u_ (t:Ty) (cs:List GV) (o:Nat):Option GV:=bif sN t.desc then ob (Vi cs o t.size) fun r=>some (.agg r)else BV cs o
def PY (tb:TB) (T:TypeId) (f:Nat) (v:GV):Option GV:=ob v.asA fun cs=>ob (mJ tb T) fun fs=>ob (BV fs f) fun q=>ob (tb q.type) fun tq=>u_ tq cs q.offset
def SD (tb:TB) (T:TypeId) (s:Nat×Nat×Nat×Nat) (i:Nat):Option GV:=ob (tU tb T) fun te=>bif Nat.blt i s.2.2.1 then sn (Nat.add s.2.1 (Nat.mul i te.2.size)) fun o=>some (.ptr s.1 o)else none
def SC (tb:TB) (T:TypeId) (p:Nat×Nat) (i:Nat):Option GV:=ob (tb T) fun t=>ob (UU t.desc) fun e=>ob (tb e.2) fun te=>bif Nat.blt i e.1 then sn (Nat.add p.2 (Nat.mul i te.size)) fun o=>some (.ptr p.1 o)else none
def Be (tb:TB) (T:TypeId) (v w:GV):Option GV:=ob w.asI fun n=>ob (TF n.2) fun n=>Option.casesOn (motive:=fun _=>Option GV) v.asP (ob v.asS fun s=>SD tb T s n) fun p=>SC tb T p n
def Ko (tb:TB) (T:TypeId) (v w:GV):Option GV:=ob v.asStr fun s=>ob w.asI fun n=>ob (TF n.2) fun n=>ob (tb T) fun t=>bif CW t.desc then(bif Nat.blt n s.2 then sn (Nat.mod (Nat.shiftRight s.1 (Nat.mul 8 n)) 256) fun b=>some (.int .u8 (.ofNat b))else none)else none
def UZ (i:Nat) (v:GV):Option GV:=ob v.asT fun vs=>BV vs i
def JP (ps:List (Nat×Nat)) (l:List (Nat×GV)):List GV->Option (List GV):=List.rec (motive:=fun _=>List GV->Option (List GV)) (fun cs=>some cs) (fun p _ ih cs=>ob (BV ps p.1) fun q=>ob p.2.cells fun cc=>bif Nat.beq cc.length q.2 then(bif Nat.beq q.2 0 then none else ob (Bw cc q.1 cs) ih)else none) l
def Cm (sz:Nat) (l:List (Nat×GV)):List GV->Option (List GV):=List.rec (motive:=fun _=>List GV->Option (List GV)) (fun cs=>some cs) (fun p _ ih cs=>ob p.2.cells fun cc=>bif Nat.beq cc.length sz then(bif Nat.beq sz 0 then none else ob (Bw cc (Nat.mul p.1 sz) cs) ih)else none) l
def vR (tb:TB) (T:TypeId):Option (List GV):=ob (tb T) fun t=>ob (Wb t.zero) fun z=>z.cells
def Kp (tb:TB) (T:TypeId) (vs:List (Nat×GV)):Option GV:=ob (tb T) fun t=>ob (vR tb T) fun zc=>Option.casesOn (motive:=fun _=>Option GV) (WE t.desc) (ob (UU t.desc) fun e=>ob (tb e.2) fun te=>ob (Cm te.size vs zc) fun cs=>some (.agg cs)) fun _=>ob (Ix tb T) fun pl=>ob (JP pl vs zc) fun cs=>some (.agg cs)
def sU (tb:TB) (T:TypeId) (v:GV):Option GV:=ob (tb T) fun t=>Option.casesOn (motive:=fun _=>Option GV) v.asStr (ob (Qp t.desc) fun _=>ob (Rx v) fun n=>some (.int .i64 (.ofNat n))) fun s=>bif CW t.desc then some (.int .i64 (.ofNat s.2))else none
def MK (tb:TB) (T:TypeId) (v:GV):Option GV:=ob (tb T) fun t=>ob (Qp t.desc) fun _=>bif v.isSnil then some (.int .i64 (.ofNat 0))else none
def PX (v u:GV):Option GV:=ob v.asI fun a=>ob u.asI fun b=>bif Vd a.1 b.1 then(bif UB a.2 b.2 then some u else some v)else none
def SE (v u:GV):Option GV:=ob v.asI fun a=>ob u.asI fun b=>bif Vd a.1 b.1 then(bif UB b.2 a.2 then some u else some v)else none
def bQ (tb:TB) (T:TypeId) (v:GV) (H:GH):Option GV:=ob v.asP fun p=>ob (H.cells p.1) fun cs=>ob (tb T) fun t=>u_ t cs p.2
def aW (tb:TB) (T:TypeId) (v u:GV) (H:GH):OR:=ob v.asP fun p=>ob (H.cells p.1) fun cs=>ob (tb T) fun t=>ob u.cells fun uc=>bif Nat.beq uc.length t.size then bif Nat.beq t.size 0 then none else ob (Bw uc p.2 cs) fun cs'=>H.setK p.1 (.cells cs') fun H'=>some (.un,H')else none
def lV (v:GV) (H:GH):OR:=ob v.cells fun vc=>H.newK (.cells vc) fun h H'=>some (.ptr h 0,H')
def bY (tb:TB) (T:TypeId) (H:GH):OR:=ob (vR tb T) fun zc=>H.newK (.cells zc) fun h H'=>some (.ptr h 0,H')
def Ji (z:List GV) (n:Nat):List GV:=Nat.rec (motive:=fun _=>List GV) [] (fun _ ih=>z++ih) n
def fc {R:Type} (a:List GV):(List GV->R)->R:=List.rec (motive:=fun _=>(List GV->R)->R) (fun k=>k []) (fun x _ ih k=>ih fun r=>k (x::r)) a
def cV (tb:TB) (T:TypeId) (n:Nat) (vs:List (Nat×GV)) (H:GH):OR:=ob (tU tb T) fun te=>ob (vR tb te.1) fun zc=>bif Nat.beq zc.length te.2.size then(bif Nat.blt (Nat.mul n te.2.size) 16777216 then(bif Nat.beq te.2.size 0 then none else ob (Cm te.2.size vs (Ji zc n)) fun cs=>H.newK (.cells cs) fun h H'=>some (.sl h 0 n te.2.size,H'))else none)else none
def EN (tb:TB) (T:TypeId) (v u:GV) (H:GH):OR:=ob (tU tb T) fun te=>ob (vR tb te.1) fun zc=>ob v.asI fun k=>ob u.asI fun c=>bif Vb k.2 c.2 then ob (TF k.2) fun k=>(bif Nat.beq zc.length te.2.size then(bif Nat.blt (Nat.mul k te.2.bytes) 16777216 then(bif Nat.blt k 16777216 then(bif Nat.beq te.2.size 0 then none else fc (Ji zc k) fun l=>H.newK (.cells l) fun h H'=>some (.sl h 0 k te.2.size,H'))else none)else none)else none)else none
def lap {R:Type} (a b:List GV):(List GV->R)->R:=List.rec (motive:=fun _=>(List GV->R)->R) (fun k=>k b) (fun x _ ih k=>ih fun r=>k (x::r)) a
def nW (H:GH) (sz:Nat) (v:GV):Option (Nat×List GV):=bif v.isSnil then some (0,[])else ob v.asS fun s=>bif Nat.beq s.2.2.2 sz then ob (H.cells s.1) fun cs=>ob (Vi cs s.2.1 (Nat.mul s.2.2.1 sz)) fun r=>some (s.2.2.1,r)else none
def JL (H:GH) (v:GV):GH:=Option.casesOn (motive:=fun _=>GH) v.asS H fun s=>H.del s.1
def NT (H:GH) (v:GV) (f:GH->OR):OR:=Option.casesOn (motive:=fun _=>OR) v.asS (f H) fun s=>H.delK s.1 f
def PM (tb:TB) (T T':TypeId) (v u:GV) (H:GH):OR:=bif v.isSnil then ob (tU tb T) fun te=>ob (tb T') fun t'=>ob (Qo t'.desc) fun _=>ob (vR tb te.1) fun zc=>ob u.asI fun k=>ob (TF k.2) fun n=>bif Nat.beq zc.length te.2.size then(bif Nat.blt (Nat.mul n (Nat.add te.2.bytes 1)) 16777216 then(bif Nat.beq te.2.size 0 then none else(bif Nat.beq n 0 then none else fc (Ji zc n) fun l=>H.newK (.cells l) fun h H'=>some (.sl h 0 n te.2.size,H')))else none)else none else none
def sT (tb:TB) (T T':TypeId) (v u:GV) (H:GH):OR:=bif Nat.beq T T' then ob (tU tb T) fun te=>bif Nat.beq te.2.size 0 then none else ob (vR tb te.1) fun zc=>bif Nat.beq zc.length te.2.size then ob (nW H te.2.size v) fun p=>ob (nW H te.2.size u) fun q=>Nat.casesOn (motive:=fun _=>OR) q.1 (some (v,H)) (fun _=>sn (Nat.add p.1 q.1) fun n=>bif Nat.blt (Nat.mul n (Nat.add te.2.bytes 1)) 16777216 then lap p.2 q.2 fun l=>NT H v fun H1=>H1.newK (.cells l) fun h H'=>some (.sl h 0 n te.2.size,H')else none)else none else PM tb T T' v u H
def PS (tb:TB) (T:TypeId) (v u:GV) (H:GH):OR:=ob v.asS fun s=>ob u.asS fun r=>ob (tU tb T) fun te=>bif Nat.beq s.2.2.2 te.2.size then(bif Nat.beq r.2.2.2 te.2.size then(bif Nat.beq r.2.2.1 s.2.2.1 then ob (H.cells r.1) fun cs=>ob (Vi cs r.2.1 (Nat.mul r.2.2.1 te.2.size)) fun xs=>ob (H.cells s.1) fun ds=>List.casesOn (motive:=fun _=>OR) xs none (fun _ _=>ob (Bw xs s.2.1 ds) fun ds'=>H.setK s.1 (.cells ds') fun H'=>some (.int .i64 (.ofNat r.2.2.1),H'))else none)else none)else none
def uN (H:GH):OR:=H.newK (.mp []) fun h H'=>some (.map h,H')
def KX (a b:GV):Option Bool:=Option.casesOn (motive:=fun _=>Option Bool) a.asI (ob a.asStr fun x=>ob b.asStr fun y=>some (Jh x y)) fun x=>ob b.asI fun y=>bif Vd x.1 y.1 then some (Vb x.2 y.2)else none
def Ik (k:GV) (es:List (GV×GV)):Option (Option GV):=List.rec (motive:=fun _=>Option (Option GV)) (some none) (fun e _ ih=>ob (KX k e.1) fun b=>bif b then some (some e.2)else ih) es
def El (t:Ty) (k:GV):Bool:=Option.casesOn (motive:=fun _=>Bool) k.asI (Option.casesOn (motive:=fun _=>Bool) k.asStr false (fun _=>CW t.desc)) (fun x=>Option.casesOn (motive:=fun _=>Bool) (Qo t.desc) false (fun _=>true))
def OE (tb:TB) (T:TypeId):Option (Ty×Ty):=ob (tb T) fun t=>ob (tdM t.desc) fun kv=>ob (tb kv.1) fun tk=>ob (tb kv.2) fun tv=>some (tk,tv)
def IX (tb:TB) (T:TypeId) (ok:Bool) (v k:GV) (H:GH):Option GV:=ob v.asM fun h=>ob (H.get h) fun o=>ob o.asM fun es=>ob (OE tb T) fun t=>bif El t.1 k then ob (Ik k es) fun r=>ob (Wb t.2.zero) fun z=>Option.casesOn (motive:=fun _=>Option GV) r (bif ok then some (.tup [z,.bool false])else some z) (fun g=>bif ok then some (.tup [g,.bool true])else some g)else none
def EO (tb:TB) (T:TypeId) (v k u:GV) (H:GH):OR:=ob v.asM fun h=>ob (H.get h) fun o=>ob o.asM fun es=>ob (OE tb T) fun t=>bif El t.1 k then ob (Ik k es) fun r=>Option.casesOn (motive:=fun _=>OR) r (H.setK h (.mp (es++[(k,u)])) fun H'=>some (.un,H')) (fun _=>none)else none
section
variable {R:Type}
abbrev KT (R:Type):=GF->GH->(GV->GH->Option R)->Option R
def k1 (x:Operand) (f:GV->Option GV):KT R:=fun σ H k=>ob (some x) fun x=>ob (gN σ x) fun v=>ob (f v) fun g=>k g H
def k2 (x y:Operand) (f:GV->GV->Option GV):KT R:=fun σ H k=>ob (some x) fun x=>ob (gN σ x) fun v=>ob (gN σ y) fun u=>ob (f v u) fun g=>k g H
def k3 (x y z:Operand) (f:GV->GV->GV->Option GV):KT R:=fun σ H k=>ob (some x) fun x=>ob (gN σ x) fun v=>ob (gN σ y) fun u=>ob (gN σ z) fun t=>ob (f v u t) fun g=>k g H
def CP (x:Operand):KT R:=fun σ H k=>ob (some x) fun x=>ob (gN σ x) fun v=>k v H
def kFn (fn:Fn) (first caps:Array Operand):KT R:=match fn with
 | .func f=>fun σ H k=>ob (AX σ first.toList) fun us=>ob (AX σ caps.toList) fun vs=>k (.fn f us vs) H
 |_=>fun _ _ _=>none
def Ch (σ:GF) (o:Option Operand):Option (Option GV):=Option.casesOn (motive:=fun _=>Option (Option GV)) o (some none) fun x=>ob (gN σ x) fun v=>some (some v)
def Uw (tb:TB) (T:TypeId) (x:Operand) (lo hi mx:Option Operand):KT R:=Option.casesOn (motive:=fun _=>KT R) mx (fun σ H k=>ob (some x) fun x=>ob (gN σ x) fun v=>ob (Ch σ lo) fun l=>ob (Ch σ hi) fun h=>ob (oZ tb T v l h H) fun g=>k g H) (fun _ _ _ _=>none)
def Uv (tb:TB) (T:TypeId) (ps:List (Nat×Operand)):KT R:=fun σ H k=>ob (oQ σ ps) fun vs=>ob (Kp tb T vs) fun g=>k g H
def aL (r:OR) (k:GV->GH->Option R):Option R:=ob r fun p=>Prod.casesOn (motive:=fun _=>Option R) p fun g h=>k g h
def KU (tb:TB) (T:TypeId) (x:Operand):KT R:=fun σ H k=>ob (some x) fun x=>ob (gN σ x) fun v=>ob (bQ tb T v H) fun g=>k g H
def GX (tb:TB) (T:TypeId) (x y:Operand):KT R:=fun σ H k=>ob (some x) fun x=>ob (gN σ x) fun v=>ob (gN σ y) fun u=>aL (aW tb T v u H) k
def RE (x:Operand):KT R:=fun σ H k=>ob (some x) fun x=>ob (gN σ x) fun v=>aL (lV v H) k
def Uu (tb:TB) (T:TypeId):KT R:=fun σ H k=>aL (bY tb T H) k
def RG (tb:TB) (T:TypeId) (n:Nat) (ps:List (Nat×Operand)):KT R:=fun σ H k=>ob (oQ σ ps) fun vs=>aL (cV tb T n vs H) k
def KW (tb:TB) (T:TypeId) (x y:Operand):KT R:=fun σ H k=>ob (some x) fun x=>ob (gN σ x) fun v=>ob (gN σ y) fun u=>aL (EN tb T v u H) k
def Ot (r:Option Operand):KT R:=Option.casesOn (motive:=fun _=>KT R) r (fun σ H k=>aL (uN H) k) (fun _ _ _ _=>none)
def KV (tb:TB) (T:TypeId) (x y:Operand) (ok:Bool):KT R:=fun σ H k=>ob (some x) fun x=>ob (gN σ x) fun v=>ob (gN σ y) fun u=>ob (IX tb T ok v u H) fun g=>k g H
def GW (tb:TB) (T:TypeId) (x y z:Operand):KT R:=fun σ H k=>ob (some x) fun x=>ob (gN σ x) fun v=>ob (gN σ y) fun u=>ob (gN σ z) fun t=>aL (EO tb T v u t H) k
def Ek (xs:List Operand) (f:Operand->KT R):KT R:=List.casesOn (motive:=fun _=>KT R) xs (fun _ _ _=>none) fun x r=>List.casesOn (motive:=fun _=>KT R) r (f x) (fun _ _ _ _ _=>none)
def yW (xs:List Operand) (f:Operand->Operand->KT R):KT R:=List.casesOn (motive:=fun _=>KT R) xs (fun _ _ _=>none) fun x r=>List.casesOn (motive:=fun _=>KT R) r (fun _ _ _=>none) fun y r=>List.casesOn (motive:=fun _=>KT R) r (f x y) (fun _ _ _ _ _=>none)
def Oo (tb:TB) (ts:List TypeId) (x y:Operand):KT R:=fun σ H k=>ob (BV ts 0) fun T=>ob (BV ts 1) fun T'=>ob (gN σ x) fun v=>ob (gN σ y) fun u=>aL (sT tb T T' v u H) k
def If (tb:TB) (ts:List TypeId) (x y:Operand):KT R:=fun σ H k=>ob (BV ts 0) fun T=>ob (gN σ x) fun v=>ob (gN σ y) fun u=>aL (PS tb T v u H) k
def Mk (tb:TB) (ts:List TypeId) (x:Operand):KT R:=fun σ H k=>ob (BV ts 0) fun T=>ob (gN σ x) fun v=>ob (MK tb T v) fun g=>k g H
def Ml (tb:TB) (ts:List TypeId) (x:Operand):KT R:=fun σ H k=>ob (BV ts 0) fun T=>ob (gN σ x) fun v=>ob (sU tb T v) fun g=>k g H
def JW (tb:TB) (xs:Array Operand) (ts:Array TypeId):Builtin->KT R
 | .len=>Ek xs.toList (Ml tb ts.toList)
 | .max=>yW xs.toList fun x y=>k2 x y PX
 | .min=>yW xs.toList fun x y=>k2 x y SE
 | .append=>yW xs.toList (Oo tb ts.toList)
 | .copy=>yW xs.toList (If tb ts.toList)
 | .cap=>Ek xs.toList (Mk tb ts.toList)
 |_=>fun _ _ _=>none
abbrev CH:=Nat->List GV->GH->OR
def Oq (ih:CH) (xs:Array Operand) (f:Operand):KT R:=fun σ H k=>ob (gN σ f) fun v=>ob v.asF fun g=>ob (AX σ xs.toList) fun us=>aL (ih g.1 (g.2.1++us++g.2.2) H) k
def VU (tb:TB) (ih:CH) (c:Call):KT R:=Callee.casesOn (motive:=fun _=>KT R) c.callee (Oq ih c.args) (fun _ _ _ _ _=>none) (JW tb c.args c.argTypes)
end
def Hu {R:Type} (tb:TB) (ih:CH) (o:Op):KT R:=Op.casesOn (motive:=fun _=>KT R) o (fun a0=>CP a0) (fun a0=>CP a0) (fun a0 a1 a2=>k3 a0 a1 a2 cF) (fun a0=>Uu tb a0) (fun _ a1=>RE a1) (fun a0 a1=>Uv tb a0 a1.toList) (fun a0 a1 a2=>RG tb a0 a1 a2.toList) (fun _ _ _ _=>fun _ _ _=>none) (fun a0 a1=>KU tb a0 a1) (fun a0 a1 a2=>GX tb a0 a1 a2) (fun _=>fun _ _ _=>none) (fun _=>fun _ _ _=>none) (fun a0=>k1 a0 GV.nilck) (fun a0 a1 a2 a3 _=>k2 a2 a3 (f_ tb a0 a1)) (fun a0 _ a2=>k1 a2 (uO a0)) (fun a0 a1 a2=>k1 a2 (Lw tb a0 a1)) (fun _ _=>fun _ _ _=>none) (fun _ _=>fun _ _ _=>none) (fun a0 a1 a2=>kFn a0 a1 a2) (fun _ a1=>Ot a1) (fun _ _=>fun _ _ _=>none) (fun a0 a1 a2=>KW tb a0 a1 a2) (fun a0 a1 a2 a3 a4=>Uw tb a0 a1 a2 a3 a4) (fun a0 a1 a2=>k1 a1 (cP tb a0 a2)) (fun a0 a1 a2=>k1 a1 (PY tb a0 a2)) (fun a0 a1 a2=>k2 a1 a2 (Be tb a0)) (fun a0 a1 a2=>k2 a1 a2 (Ko tb a0)) (fun a0 a1 a2 a3=>KV tb a0 a1 a2 a3) (fun a0 a1 a2 a3=>GW tb a0 a1 a2 a3) (fun _ _ _=>fun _ _ _=>none) (fun _ _ _ _=>fun _ _ _=>none) (fun _ _=>fun _ _ _=>none) (fun _ _=>fun _ _ _=>none) (fun _=>fun _ _ _=>none) (fun _ _ _ _=>fun _ _ _=>none) (fun a0 a1=>k1 a0 (UZ a1)) (fun a0=>VU tb ih a0) (fun _=>fun _ _ _=>none) (fun _=>fun _ _ _=>none) (fun _=>fun _ _ _=>none) (fun _ _=>fun _ _ _=>none) (fun _ _ _=>fun _ _ _=>none) (fun _ _=>fun _ _ _=>none)
def Wr (x:Operand):Nat:=Operand.casesOn (motive:=fun _=>Nat) x (fun t=>Nat.shiftLeft 1 t) (fun _=>0) (fun _=>0) (fun _=>0)
def Wq (all:List Oper) (o:Oper):Nat:=Nat.lor (o.op.operands.toList.foldl (fun m x=>Nat.lor m (Wr x)) 0) (match o.guard with
 |none=>0
 |some g=>match BV all g.1 with
  |some oj=>(match oj.dst with|some d=>Nat.shiftLeft 1 d|none=>0)
  |none=>0)
def XZ (m:Nat) (d:Option Nat):Nat:=match d with
 |none=>m
 |some d=>bif Nat.testBit m d then Nat.sub m (Nat.shiftLeft 1 d)else m
def RJ (all:List Oper) (l:List Oper) (m:Nat):Nat:=l.foldr (fun o m=>Nat.lor (XZ m o.dst) (Wq all o)) m
structure Cx where
 res:List ResultVar
 retm:Nat
 env:List (Nat×Nat)
def vG (e:List (Nat×Nat)) (id:Nat):Nat:=List.rec (motive:=fun _=>Nat) 0 (fun p _ ih=>bif Nat.beq p.1 id then p.2 else ih) e
def VY (c:Code) (retm:Nat):Nat->List (Nat×Nat)->Nat:=Code.rec (motive:=fun _=>Nat->List (Nat×Nat)->Nat)
 (fun m _=>m) (fun _ ops _ m _=>RJ ops.toList ops.toList m) (fun _ _ la lb m e=>la (lb m e) e) (fun x _ _ la lb m e=>Nat.lor (Wr x) (Nat.lor (la m e) (lb m e))) (fun id _ lb m e=>lb m ((id,m)::e))
 (fun _ lb _ e=>Nat.lor (lb 0 e) (lb (lb 0 e) e)) (fun _ _ _ _ _ _ _ _=>0) (fun id _ e=>vG e id) (fun _ _ _ _=>0) (fun _ _ _=>0) (fun _ _ _=>0) (fun _ _=>retm) (fun _ _ _=>0) c
def live (c:Code) (m:Nat) (cx:Cx):Nat:=VY c cx.retm m cx.env
def VV (f m:Nat):Nat->List Nat:=Nat.rec (motive:=fun _=>Nat->List Nat) (fun _=>[]) (fun _ ih i=>bif Nat.testBit m i then i::ih (Nat.succ i)else ih (Nat.succ i)) f
def iH (m:Nat):List Nat:=VV (Nat.succ (Nat.log2 m)) m 0
def wH (σ:GF) (ks:List Nat):List GV:=List.rec (motive:=fun _=>List GV) [] (fun k _ ih=>Option.casesOn (motive:=fun _=>GV) (AC σ k) .bad (fun v=>v)::ih) ks
def gF {R:Type} (ks:List Nat):List GV->(GF->Option R)->Option R:=List.rec (motive:=fun _=>List GV->(GF->Option R)->Option R) (fun vs k=>List.casesOn (motive:=fun _=>Option R) vs (k []) fun _ _=>none) (fun key _ ih vs k=>List.casesOn (motive:=fun _=>Option R) vs none fun v r=>ih r fun σ=>k ((key,v)::σ)) ks
inductive Ex where
 |normal
 |exit (id:Nat)
 |ret
inductive Tx where
 |fn (f:Nat)
 |loop (b:Code) (cx:Cx)
structure GS where
 σ:GF
 H:GH
structure HC where
 e:Ex
 vs:List GV
 H:GH
abbrev RS:=Option HC
abbrev QH0:=List GV->GH->RS
abbrev QH:=Nat->List GV->GH->RS
abbrev IH:=Tx->List GV->GH->RS
def UO (tb:TB) (s:GS) (r:ResultVar):Option GV:=ResultVar.casesOn (motive:=fun _=>Option GV) r (fun t=>AC s.σ t) fun a T=>ob (AC s.σ a) fun v=>bQ tb T v s.H
def II (tb:TB) (s:GS) (l:List ResultVar):Option (List GV):=List.rec (motive:=fun _=>Option (List GV)) (some []) (fun r _ ih=>ob (UO tb s r) fun v=>ob ih fun vs=>some (v::vs)) l
def Du (l:List ResultVar):Nat:=List.rec (motive:=fun _=>Nat) 0 (fun r _ ih=>Nat.lor (ResultVar.casesOn (motive:=fun _=>Nat) r (fun t=>Nat.shiftLeft 1 t) (fun a _=>Nat.shiftLeft 1 a)) ih) l
def Mu (vs:List GV):GV:=List.casesOn (motive:=fun _=>GV) vs (.tup []) (fun v r=>List.casesOn (motive:=fun _=>GV) r v (fun _ _=> .tup vs))
def putD (d:Option Nat) (v:GV) (σ:GF):GF:=Option.casesOn (motive:=fun _=>GF) d σ fun d=>(d,v)::σ
def BG (ks:List Nat) (s:GS):RS:=some ⟨.normal,wH s.σ ks,s.H⟩
def Kf (tb:TB) (cx:Cx) (s:GS):RS:=ob (II tb s cx.res) fun vs=>some ⟨.ret,vs,s.H⟩
def SV (ks:List Nat) (k:GS->RS) (r:RS):RS:=ob r fun o=>Ex.casesOn (motive:=fun _=>RS) o.e (gF ks o.vs fun σ=>k ⟨σ,o.H⟩) (fun _=>some o) (some o)
def nB (id:Nat) (r:RS):RS:=ob r fun o=>Ex.casesOn (motive:=fun _=>RS) o.e (some o) (fun i=>Bool.casesOn (motive:=fun _=>RS) (Nat.beq i id) (some o) (some ⟨.normal,o.vs,o.H⟩)) (some o)
def sJ (g:GV) (H:GH):OR:=some (g,H)
def WC (d:Option Nat) (s:GS) (k:GS->RS) (g:GV) (H:GH):RS:=k ⟨putD d g s.σ,H⟩
def Ve (tb:TB) (ih:CH) (o:Oper) (s:GS) (b:Bool) (v:GV):OR:=GV.casesOn (motive_1:=fun _=>OR) v (fun _ _=>none) (fun q=>Bool.casesOn (motive:=fun _=>OR) (KO q b) (some (.un,s.H)) (Hu tb ih o.op s.σ s.H sJ)) (fun _ _=>none) (fun _ _=>none) none (fun _ _ _ _=>none) none (fun _=>none) (fun _ _ _=>none) none none (fun _=>none) (fun _=>none) (some (.un,s.H)) none (fun _=>none)
def Ec (tb:TB) (ih:CH) (all:List Oper) (o:Oper) (k:GS->RS) (s:GS):RS:=Option.casesOn (motive:=fun _=>RS) o.guard (Hu tb ih o.op s.σ s.H (WC o.dst s k)) fun g=>ob (BV all g.1) fun oj=>ob oj.dst fun dj=>ob (AC s.σ dj) fun v=>aL (Ve tb ih o s g.2 v) (WC o.dst s k)
def AI (tb:TB) (ih:CH) (all:List Oper) (k:GS->RS) (l:List Oper):GS->RS:=List.rec (motive:=fun _=>GS->RS) k (fun o _ ihl s=>Ec tb ih all o ihl s) l
def kE:Op->Bool
 | .load .. => true
 |_=>false
def GT:Op->Bool
 | .lookup .. => true
 |_=>false
def RH (σ:GF):Op->Option Nat
 | .load _ x=>ob (some x) fun x=>ob (gN σ x) fun v=>ob v.asP fun p=>some p.1
 |_=>none
def Tn {α:Type} (H:GH) (h v:Nat) (k:Option α):Option α:=ob (H.ver h) fun u=>Bool.casesOn (motive:=fun _=>Option α) (Nat.beq u v) none k
def Ai (H:GH) (e:Option (Nat×Nat)) (k:Option Unit):Option Unit:=Option.casesOn (motive:=fun _=>Option Unit) e k fun p=>Tn H p.1 p.2 k
def DX (m:List Nat) (i:Nat) (H:GH) (pr:List (Nat×Option (Nat×Nat))):Option Unit:=List.rec (motive:=fun _=>Option Unit) (some ()) (fun p _ ih=>Bool.casesOn (motive:=fun _=>Option Unit) (before m i p.1) (Ai H p.2 ih) ih) pr
def DY (m:List Nat) (i h v:Nat) (hs:List (Nat×GH)):Option (Option (Nat×Nat)):=List.rec (motive:=fun _=>Option (Option (Nat×Nat))) (some (some (h,v))) (fun q _ ih=>Bool.casesOn (motive:=fun _=>Option (Option (Nat×Nat))) (before m i q.1) (Tn q.2 h v ih) ih) hs
def ldV (m:List Nat) (i:Nat) (hs:List (Nat×GH)) (H:GH) (l:Option Nat):Option (Option (Nat×Nat)):=Option.casesOn (motive:=fun _=>Option (Option (Nat×Nat))) l (some none) fun h=>ob (H.ver h) fun v=>DY m i h v hs
abbrev WT:=Nat->List (Nat×Option (Nat×Nat))->List (Nat×GH)->GS->RS
def Oa (tb:TB) (ch:CH) (all:List Oper) (m:List Nat) (o:Oper) (K:WT):WT:=fun i pr hs s=>
 Bool.casesOn (motive:=fun _=>RS) (cZ o.op)
  (Bool.casesOn (motive:=fun _=>RS) (kE o.op) (Ec tb ch all o (K (Nat.succ i) pr hs) s)
   (Ec tb ch all o (fun s'=>ob (ldV m i hs s.H (RH s.σ o.op)) fun e=>K (Nat.succ i) ((i,e)::pr) hs s') s))
  (Ec tb ch all o (fun s'=>ob (DX m i s'.H pr) fun _=>K (Nat.succ i) pr ((i,s.H)::hs) s') s)
def Vf (tb:TB) (ch:CH) (all:List Oper) (m:List Nat) (k:GS->RS) (l:List Oper):WT:=List.rec (motive:=fun _=>WT) (fun _ _ _ s=>k s) (fun o _ ih=>Oa tb ch all m o ih) l
def Ah (l:List Oper) (p:Op->Bool):Bool:=(List.range l.length).all fun i=>match l[i]? with
 |none=>true
 |some o=> !p o.op||(List.range l.length).all fun j=>match l[j]? with
  |none=>true
  |some oj=> !cZ oj.op||before (lC l) i j||before (lC l) j i
def U_ (dr:Bool) (l:List Oper):Bool:=Bool.casesOn (motive:=fun _=>Bool) dr false (!Ah l kE)
def Gb (r:RS):OR:=ob r fun o=>Ex.casesOn (motive:=fun _=>OR) o.e none (fun _=>none) (some (Mu o.vs,o.H))
structure GP where
 tab:TB
 cat:Nat
 ext:Nat->List GV->GH->Option (GV×GH)
 exn:Nat->List GV->Option GV
def q_:GV:= .int .i64 (.ofNat 0)
def Vx (ih:CH) (us:List GV) (H:GH):OR:=List.casesOn (motive:=fun _=>OR) us none fun u r=>List.casesOn (motive:=fun _=>OR) r (ob u.asF fun g=>H.newK (.cells [q_]) fun h1 H1=>H1.newK (.cells [q_]) fun h2 H2=>ob (ih g.1 (g.2.1++g.2.2) H2) fun x=>ob (x.2.cells h1) fun c1=>ob (x.2.cells h2) fun c2=>
 bif Nat.beq c1.length 1 then(bif Nat.beq c2.length 1 then x.2.setK h1 (.cells [q_]) fun H3=>H3.setK h2 (.cells [q_]) fun H4=>H4.delK h1 fun H5=>H5.delK h2 fun H6=>some (.tup [q_,q_],H6)else none)else none) (fun _ _=>none)
def Vw (ih:IH):CH:=fun f us H=>Gb (ih (.fn f) us H)
def callQ (G:GP) (q:QH):CH:=fun f us H=>Bool.casesOn (motive:=fun _=>OR) (Nat.beq f G.cat) (Option.casesOn (motive:=fun _=>OR) (G.ext f us H) (Option.casesOn (motive:=fun _=>OR) (G.exn f us) (Gb (q f us H)) fun g=>some (g,H)) fun r=>some r) (Vx (fun f us H=>Gb (q f us H)) us H)
def yN (G:GP) (ih:IH):CH:=callQ G fun f us H=>ih (.fn f) us H
abbrev ET:=Nat->Cx->(GS->RS)->GS->RS
abbrev LH:=Code->Cx->QH0
def Rn (tb:TB) (ch:CH) (lp:LH) (c:Code):ET:=Code.rec (motive:=fun _=>ET)
 (fun _ _ k s=>k s)
 (fun _ ops dr _ _ k s=>Bool.casesOn (motive:=fun _=>RS) (U_ dr ops.toList) (AI tb ch ops.toList k ops.toList s) (Vf tb ch ops.toList (lC ops.toList) k ops.toList 0 [] [] s))
 (fun _ b ea eb m cx k s=>ea (live b m cx) cx (eb m cx k) s)
 (fun x _ _ ea eb m cx k s=>ob (gN s.σ x) fun v=>ob v.asB fun q=>SV (iH m) k (Bool.casesOn (motive:=fun _=>RS) q (eb m cx (BG (iH m)) s) (ea m cx (BG (iH m)) s)))
 (fun id _ eb m cx k s=>SV (iH m) k (nB id (eb m ⟨cx.res,cx.retm,(id,m)::cx.env⟩ (BG (iH m)) s)))
 (fun b _ _ cx _ s=>lp b cx (wH s.σ (iH (live (.loop b) 0 cx))) s.H)
 (fun _ _ _ _ _ _ _ _ _ _=>none)
 (fun id _ cx _ s=>some ⟨.exit id,wH s.σ (iH (vG cx.env id)),s.H⟩)
 (fun _ _ _ _ _ _=>none) (fun _ _ _ _ _=>none) (fun _ _ _ _ _=>none)
 (fun _ cx _ s=>Kf tb cx s)
 (fun _ _ _ _ _=>none) c
def Ro (tb:TB) (ch:CH) (lp:LH) (fn:Func) (us:List GV) (H:GH):RS:=ob fn.body fun body=>gF (List.range (Nat.add fn.params.size fn.nfree)) us fun σ=>Rn tb ch lp body (Du fn.results.toList) ⟨fn.results.toList,Du fn.results.toList,[]⟩ (Kf tb ⟨fn.results.toList,Du fn.results.toList,[]⟩) ⟨σ,H⟩
def Wu (tb:TB) (ch:CH) (lp:LH) (b:Code) (cx:Cx) (us:List GV) (H:GH):RS:=gF (iH (live (.loop b) 0 cx)) us fun σ=>ob (Rn tb ch lp b (live (.loop b) 0 cx) cx (BG (iH (live (.loop b) 0 cx))) ⟨σ,H⟩) fun o=>Ex.casesOn (motive:=fun _=>RS) o.e (lp b cx o.vs o.H) (fun _=>some o) (some o)
abbrev FT:=Nat->Option Func
def step (G:GP) (Fs:FT) (ih:IH) (t:Tx):List GV->GH->RS:=Tx.casesOn (motive:=fun _=>List GV->GH->RS) t (fun f us H=>ob (Fs f) fun fn=>Ro G.tab (yN G ih) (fun b cx=>ih (.loop b cx)) fn us H) (Wu G.tab (yN G ih) fun b cx=>ih (.loop b cx))
def run (G:GP) (Fs:FT) (fuel:Nat):IH:=Nat.rec (motive:=fun _=>IH) (fun _ _ _=>none) (fun _ ih=>step G Fs ih) fuel
def KI (G:GP) (Fs:FT) (fuel:Nat) (f:FuncId) (args:List GV) (H:GH):OR:=yN G (run G Fs fuel) f args H
def H0:GH:=⟨0,.lf⟩
end
end Go.Gx
end
