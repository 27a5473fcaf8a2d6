/- Models and proofs. Conditions: none. -/
import Derived.Test.YtlciiihigmgaiaaGreatZCTu1
import Derived.Maps.RangeRun
set_option linter.unusedVariables false
set_option linter.unusedSimpArgs false
set_option maxHeartbeats 4000000
set_option maxRecDepth 20000
section
set_option linter.unusedSectionVars false
namespace Go.Sx
open Go.RowKit
section defs
variable {κ ν:Type} [DecidableEq κ]
def zZ (ek:κ->Value) (ev:ν->Value):Nat->List (κ×ν)->List MapEntry
 |_,[]=>[]
 |i,x::xs=>⟨ek x.1,ev x.2,i⟩::zZ ek ev (i+1) xs
def jV (k:κ):List (κ×ν)->Option ν
 | []=>none
 |x::xs=>if k=x.1 then some x.2 else jV k xs
def yN (k:κ) (v:ν):List (κ×ν)->List (κ×ν)
 | []=>[(k,v)]
 |x::xs=>if k=x.1 then(k,v)::xs else x::yN k v xs
def MM (ev:ν->Value) (k:κ):Nat->List (κ×ν)->Option (Nat×Value)
 |_,[]=>none
 |i,x::xs=>if k=x.1 then some (i,ev x.2)else MM ev k (i+1) xs
theorem Hi (ev:ν->Value) (k:κ):∀(i:Nat) (l:List (κ×ν)),(MM ev k i l).map (·.2)=(jV k l).map ev
 |_,[]=>rfl
 |i,x::xs=>by
  simp only[MM,jV]
  split
  ·rfl
  ·exact Hi ev k (i+1) xs
theorem ES (ek:κ->Value) (ev:ν->Value):∀(i:Nat) (l:List (κ×ν)) (x:κ×ν),zZ ek ev i (l++[x])=zZ ek ev i l++[⟨ek x.1,ev x.2,i+l.length⟩]
 |i,[],x=>rfl
 |i,y::ys,x=>by
  simp only[List.cons_append,zZ,ES ek ev (i+1) ys x,List.length_cons]
  rw[show i+1+ys.length=i+(ys.length+1) by omega]
theorem CY (k:κ) (v:ν):∀l:List (κ×ν),jV k l=none->yN k v l=l++[(k,v)]
 | [],_=>rfl
 | x :: xs, h => by
  simp only[jV]at h
  split at h
  ·cases h
  ·rename_i hne
   simp only[yN,if_neg hne,CY k v xs h,List.cons_append]
theorem Lo (ek:κ->Value) (ev:ν->Value) (k:κ) (v:ν):∀(i0 i:Nat) (l:List (κ×ν)) (j:Nat) (u:Value),MM ev k i l=some (j,u)->
  i<=j∧((zZ ek ev i l)[j - i]?).map (·.key)=some (ek k)∧zZ ek ev i (yN k v l)=(zZ ek ev i l).modify (j - i) (fun e=>{e with key:=ek k,val:=ev v})∧(yN k v l).length=l.length
 |_,i,[],j,u,h=>by simp[MM]at h
 | i0, i, x :: xs, j, u, h => by
  simp only[MM]at h
  split at h
  ·rename_i he
   simp only[Option.some.injEq,Prod.mk.injEq]at h
   obtain⟨rfl,_⟩:=h
   simp[zZ,yN,he]
  ·rename_i hne
   obtain⟨h1,h2,h3,h4⟩:=Lo ek ev k v i0 (i+1) xs j u h
   have hj:j - i=(j - (i+1))+1:=by omega
   refine⟨by omega,?_,?_,?_⟩
   ·rw[hj];simpa [zZ]using h2
   ·simp only[yN,if_neg hne,zZ]
    rw[hj,List.modify_succ_cons,h3]
   ·simp[yN,hne,h4]
end defs
structure Ek (P:Program) (kt:TypeId) {κ:Type} [DecidableEq κ] (ek:κ->Value):Prop where
 chk:∀b k w,(Instr.checkKey b 10000 kt (ek k)).run P w = .ok () w
 find:∀{ν:Type} (ev:ν->Value) (k:κ) (l:List (κ×ν)) w,(Instr.findKey kt (ek k) (zZ ek ev 0 l)).run P w = .ok (MM ev k 0 l) w
 same:∀k,Instr.sameBits 10000 (ek k) (ek k)=true
def Mp {κ ν:Type} (ek:κ->Value) (ev:ν->Value) (r:Nat) (l:List (κ×ν)):aU where
 p w F:=F r∧w.heap[r]? = some (.map (zZ ek ev 0 l).toArray l.length)
 mono:=fun⟨h1,h2⟩ h=>by
  obtain⟨h3,h4⟩:=h r h1 (Array.getElem?_eq_some_iff.1 h2).1
  exact⟨h3,by rw[h4];exact h2⟩
section
variable {P:Program} {rd:Option Nat} {c:r_} {n:Sz} {σ:Fr} {M L:List aU} {Q:Exit->Act->World->Prop} {ops:Array Oper} {rest:List Oper}
variable {d:Option Tmp} {ty:TypeId} {pos:String} {aft:Array Edge} {g:Option (Nat×Bool)}
theorem St.push {w:World} (t:St c M L w) (o:Obj) {m:aU} (hm:m.p (w.alloc o) (fun k=>k=w.heap.size)):St c (m::M) L (w.alloc o):=by
 have e:Di w (w.alloc o):=(Below.refl _ _).alloc (Nat.le_refl _) _
 obtain⟨ho,F,hF,hL⟩:=t
 have hb:∀k,k<w.heap.size->(w.alloc o).heap[k]? = w.heap[k]? := e.block
 refine⟨ho.trans e,fun i k=>match i with|0=>k=w.heap.size|i+1=>F i k,⟨?_,?_,?_⟩,fun f hf=> ?_⟩
 ·intro i m' hm'
  cases i with
  |zero=>simp at hm';subst hm';exact hm
  |succ i=>exact aU.same (hF.res i m' (by simpa using hm')) (fun _ h=>h) (fun k _ hl=>hb k hl)
 ·intro i k hk
  cases i with
  |zero=>subst hk;exact⟨.inl ho.size,by simp⟩
  |succ i=>exact⟨(hF.rng i k hk).1,Nat.lt_of_lt_of_le (hF.rng i k hk).2 e.size⟩
 ·intro i j k hi hj
  cases i with
  |zero=>
   cases j with
   |zero=>rfl
   |succ j=>have:=(hF.rng j k hj).2;simp only at hi;omega
  |succ i=>
   cases j with
   |zero=>have:=(hF.rng i k hi).2;simp only at hj;omega
   |succ j=>exact congrArg (· + 1) (hF.dis i j k hi hj)
 ·exact f.mono (hL f hf) fun k hk hl=>⟨⟨hk.1,fun i hi=>by
   cases i with
   |zero=>simp only at hi;omega
   |succ i=>exact hk.2 i hi⟩,hb k hl⟩
variable {κ ν:Type} [DecidableEq κ] {ek:κ->Value} {ev:ν->Value}
theorem aN.makeMap (ek:κ->Value) (ev:ν->Value) {T:TypeId}:aN P c n σ M L ⟨d,.makeMap T none,ty,pos,aft,g⟩ (fun r:Nat=> .map (some r)) (fun r=>Mp ek ev r []::M) (fun _=>L):=fun a w s t=>by
 have hrun:(execOp a.eval ⟨d,.makeMap T none,ty,pos,aft,g⟩).run P w = .ok (.value (.map (some w.heap.size))) (w.alloc (.map #[] 0)):=by
  simp[execOp,Instr.makeMap]
 simp only[Oper.wp,hrun,Oper.upon]
 exact⟨w.heap.size,rfl,t.push _ ⟨rfl,heap_alloc_new w _⟩⟩
theorem KL [cZ P] {T kt vt:TypeId} {s1 s2 s3 s4:Nat} {z zv:Value} {dv:TypeDesc} {w:World} {r:Nat} {l:List (κ×ν)} {F:Nat->Prop} (hk:Ek P kt ek) (hM:(Mp ek ev r l).p w F)
  (hT:cZ.tab P T=some ⟨.map kt vt,s1,s2,z⟩) (hV:cZ.tab P vt=some ⟨dv,s3,s4,zv⟩) (k:κ) (b:Bool):
  (Instr.lookup T (.map (some r)) (ek k) b).run P w = .ok (if b then .tuple #[((jV k l).map ev).getD zv,.bool (jV k l).isSome]else((jV k l).map ev).getD zv) w:=by
 have hg:(getObj r).run P w = .ok (.map (zZ ek ev 0 l).toArray l.length) w:=by
  simp[getObj,Sem.run,hM.2]
 have hf:=hk.find ev k l w
 have hfg:=Hi ev k 0 l
 simp only[Instr.lookup]
 simp[(cZ.ok hT).run_und w,hg,hk.chk,hf]
 cases hfd:MM ev k 0 l with
 |none=>
  rw[hfd]at hfg
  have:jV k l=none:=by cases h:jV k l<;>simp[h]at hfg ⊢
  simp[this,(cZ.ok hV).run_zero w]
 | some x =>
  rw[hfd]at hfg
  obtain⟨v,hv,hx⟩:∃v,jV k l=some v∧ev v=x.2:=by
   cases h:jV k l with
   |none=>simp[h]at hfg
   |some v=>simp[h]at hfg;exact⟨v,rfl,hfg.symm⟩
  simp[hv,hx]
theorem Io [cZ P] (j:Nat) {T kt vt:TypeId} {s1 s2 s3 s4:Nat} {z zv:Value} {dv:TypeDesc} {x y:Operand} {r:Nat} {l:List (κ×ν)} (k:κ) {b:Bool} (hk:Ek P kt ek) (hx:Go.Sx.ev σ x=some (.map (some r))) (hy:Go.Sx.ev σ y=some (ek k)) (hf:M[j]? = some (Mp ek ev r l))
  (hT:cZ.tab P T=some ⟨.map kt vt,s1,s2,z⟩) (hV:cZ.tab P vt=some ⟨dv,s3,s4,zv⟩) {u:Value} (hu:((jV k l).map ev).getD zv=u):
  Y P c n σ M L ⟨d,.lookup T x y b,ty,pos,aft,g⟩ (if b then .tuple #[u,.bool (jV k l).isSome]else u):=fun a w s t=>by
 obtain⟨F,hF⟩:=t.res hf
 subst hu
 simp[execOp,s.eval hx,s.eval hy,KL hk hF hT hV]
theorem Aa {w:World} {r:Nat} {es:Array MapEntry} {k:Nat} (h:w.heap[r]? = some (.map es k)) (o:Obj):(setObj r o).run P w = .ok () {w with heap:=w.heap.setIfInBounds r o}:=by
 simp[setObj,Sem.run,h]
theorem St.setMap {w:World} (t:St c M L w) {j r:Nat} {l l':List (κ×ν)} (hf:M[j]? = some (Mp ek ev r l)) (o:Obj) (ho:o = .map (zZ ek ev 0 l').toArray l'.length):
  St c (M.set j (Mp ek ev r l')) L {w with heap:=w.heap.setIfInBounds r o}:=
 t.upd hf rfl rfl rfl (by simp) fun F hF _=>⟨fun k _ hk=>by
   rw[Array.getElem?_setIfInBounds_ne (fun e=>hk (by subst e;exact hF.1))],F,⟨hF.1,by
    rw[Array.getElem?_setIfInBounds_self_of_lt (Array.getElem?_eq_some_iff.1 hF.2).1,ho]⟩,fun _ h=> .inl h⟩
theorem HX [cZ P] (j:Nat) {T kt vt:TypeId} {s1 s2:Nat} {z:Value} {x y v:Operand} {r:Nat} {l:List (κ×ν)} (k:κ) (nv:ν) (hk:Ek P kt ek) (hx:Go.Sx.ev σ x=some (.map (some r))) (hy:Go.Sx.ev σ y=some (ek k)) (hv:Go.Sx.ev σ v=some (ev nv)) (hf:M[j]? = some (Mp ek ev r l))
  (hT:cZ.tab P T=some ⟨.map kt vt,s1,s2,z⟩) (h:J c n σ (M.set j (Mp ek ev r (yN k nv l))) L (wpList P ops Q rest)):
  J c n σ M L (wpList P ops Q (⟨none,.mapUpdate T x y v,ty,pos,aft,none⟩::rest)):=fun a w s t=>by
 refine jT rfl ?_
 obtain⟨F,hF⟩:=t.res hf
 have hg:(getObj r).run P w = .ok (.map (zZ ek ev 0 l).toArray l.length) w:=by
  simp[getObj,Sem.run,hF.2]
 have hfd:=hk.find ev k l w
 have hfg:=Hi ev k 0 l
 have hrun:∃o:Obj,(execOp a.eval ⟨none,.mapUpdate T x y v,ty,pos,aft,none⟩).run P w = .ok .skip {w with heap:=w.heap.setIfInBounds r o}∧o = .map (zZ ek ev 0 (yN k nv l)).toArray (yN k nv l).length:=by
  simp only[execOp,s.eval hx,s.eval hy,s.eval hv,Instr.mapUpdate]
  cases hfn:MM ev k 0 l with
  |none=>
   rw[hfn]at hfg hfd
   have hn:jV k l=none:=by cases h:jV k l<;>simp[h]at hfg ⊢
   refine⟨.map (zZ ek ev 0 l++[(⟨ek k,ev nv,l.length⟩:MapEntry)]).toArray (l.length+1),by simp[(cZ.ok hT).run_und w,hg,hk.chk,hfd,Aa hF.2],?_⟩
   rw[CY k nv l hn,ES];simp
  | some q =>
   obtain⟨i,u⟩:=q
   rw[hfn]at hfd
   obtain⟨_,h2,h3,h4⟩:=Lo ek ev k nv 0 0 l i u hfn
   rw[Nat.sub_zero]at h2 h3
   have hkey:(((zZ ek ev 0 l).toArray[i]?).map (·.key)).getD (ek k)=ek k:=by
    rw[List.getElem?_toArray,h2];rfl
   refine⟨.map ((zZ ek ev 0 l).toArray.modify i fun e=>{e with key:=ek k,val:=ev nv}) l.length,?_,?_⟩
   ·have hst:(Instr.keyThatStays (ek k) (ek k)).run P w = .ok (ek k) w:=by simp[Instr.keyThatStays,hk.same k]
    have hkey':(Option.map (fun x=>x.key) (zZ ek ev 0 l)[i]?).getD (ek k)=ek k:=by rw[h2];rfl
    simp[(cZ.ok hT).run_und w,hg,hk.chk,hfd,hkey',hst,Aa hF.2]
   ·rw[h3,h4];simp
 obtain⟨o,hr,ho⟩:=hrun
 simp only[Oper.wp,hr,Oper.upon]
 exact h _ _ s (t.setMap hf o ho)
end
end Go.Sx
end
section
set_option linter.unusedSectionVars false
namespace Go.Sx
open Go.RowKit Go.ChangeMaps
def It (b m len:Nat) (seen:List Nat):aU where
 p w F:=F b∧w.heap[b]? = some (.mapIter (some m) len seen.toArray len)
 mono:=fun⟨h1,h2⟩ h=>by
  obtain⟨h3,h4⟩:=h b h1 (Array.getElem?_eq_some_iff.1 h2).1
  exact⟨h3,by rw[h4];exact h2⟩
section
variable {κ ν:Type} [DecidableEq κ] {ek:κ->Value} {ev:ν->Value} {R:Type}
theorem Hw (ek:κ->Value) (ev:ν->Value):∀(k:Nat) (l:List (κ×ν)) (e:MapEntry),e∈zZ ek ev k l->∃i kv,l[i]? = some kv∧e=⟨ek kv.1,ev kv.2,k+i⟩
 |_,[],e,h=>by simp[zZ]at h
 | k, x :: xs, e, h => by
  rcases List.mem_cons.1 h with rfl|h
  ·exact⟨0,x,rfl,rfl⟩
  ·obtain⟨i,kv,h1,h2⟩:=Hw ek ev (k+1) xs e h
   exact⟨i+1,kv,h1,by rw[h2,show k+1+i=k+(i+1) by omega]⟩
theorem Hv (ek:κ->Value) (ev:ν->Value):∀(k:Nat) (l:List (κ×ν)) (i:Nat) (kv:κ×ν),l[i]? = some kv->(⟨ek kv.1,ev kv.2,k+i⟩:MapEntry)∈zZ ek ev k l
 |_,[],i,kv,h=>by simp at h
 |k,x::xs,0,kv,h=>by simp at h;subst h;exact List.mem_cons_self
 |k,x::xs,i+1,kv,h=>by
  have:=Hv ek ev (k+1) xs i kv (by simpa using h)
  rw[show k+1+i=k+(i+1) by omega]at this
  exact List.mem_cons_of_mem _ this
theorem IK (ek:κ->Value) (ev:ν->Value):∀(k:Nat) (l:List (κ×ν)),(zZ ek ev k l).map (·.born)=List.range' k l.length
 |_,[]=>rfl
 |k,x::xs=>by simp[zZ,IK ek ev (k+1) xs,List.range'_succ]
def FE (step:κ×ν->Option R->Option R) (K:Option R) (l:List (κ×ν)):Option R:=l.foldr step K
def rem (l:List (κ×ν)) (seen:List Nat):List (κ×ν):=((List.range l.length).filter (fun i=> !seen.contains i)).filterMap (fun i=>l[i]?)
theorem Gr:∀l:List (κ×ν),(List.range l.length).filterMap (fun i=>l[i]?)=l
 | []=>rfl
 |x::xs=>by
  rw[List.length_cons,List.range_succ_eq_map,List.filterMap_cons]
  simp only[List.getElem?_cons_zero,List.filterMap_map]
  congr 1
  have:=Gr xs
  simpa [Function.comp_def]using this
theorem SI (l:List (κ×ν)):rem l []=l:=by
 unfold rem
 rw[List.filter_eq_self.2 (by simp),Gr]
theorem PW {l:List (κ×ν)} {seen:List Nat} {i:Nat} {kv:κ×ν} (hi:l[i]? = some kv) (hs:i∉seen):∃l1 l2,rem l seen=l1++kv::l2∧rem l (seen++[i])=l1++l2:=by
 have hlt:=aV hi
 have hmem:i∈(List.range l.length).filter (fun i=> !seen.contains i):=by simp[hlt,hs]
 obtain⟨A,B,hAB⟩:=List.append_of_mem hmem
 have hnd:((List.range l.length).filter (fun i=> !seen.contains i)).Nodup:=List.Pairwise.filter _ List.nodup_range
 rw[hAB]at hnd
 have hA:i∉A:=fun h=>by
  have:=(List.nodup_append.1 hnd).2.2 i h i List.mem_cons_self
  exact this rfl
 have hB:i∉B:=fun h=>by
  have:=(List.nodup_cons.1 (List.nodup_append.1 hnd).2.1).1
  exact this h
 refine⟨A.filterMap (fun i=>l[i]?),B.filterMap (fun i=>l[i]?),?_,?_⟩
 ·unfold rem
  rw[hAB,List.filterMap_append,List.filterMap_cons,hi]
 ·unfold rem
  have e:(List.range l.length).filter (fun j=> !(seen++[i]).contains j)=((List.range l.length).filter (fun j=> !seen.contains j)).filter (fun j=>decide (j≠i)):=by
   rw[List.filter_filter]
   apply List.filter_congr
   intro j _
   rw[Bool.eq_iff_iff]
   simp[and_comm]
  rw[e,hAB,List.filter_append,List.filter_cons]
  have fA:A.filter (fun j=>decide (j≠i))=A:=List.filter_eq_self.2 (fun j hj=>by simp;rintro rfl;exact hA hj)
  have fB:B.filter (fun j=>decide (j≠i))=B:=List.filter_eq_self.2 (fun j hj=>by simp;rintro rfl;exact hB hj)
  rw[fA,fB,List.filterMap_append.symm]
  simp
theorem Gq {step:κ×ν->Option R->Option R} (hc:∀a b x,step a (step b x)=step b (step a x)) (K:Option R) (kv:κ×ν) (l2:List (κ×ν)):∀l1:List (κ×ν),FE step K (l1++kv::l2)=step kv (FE step K (l1++l2))
 | []=>rfl
 |x::xs=>by
  have:=Gq hc K kv l2 xs
  unfold FE at this ⊢
  rw[List.cons_append,List.cons_append,List.foldr_cons,List.foldr_cons,this,hc]
end
section
variable {P:Program} {rd:Option Nat} {c:r_} {n:Sz} {σ σ':Fr} {M L M' L':List aU} {Q:Exit->Act->World->Prop} {ops:Array Oper} {rest:List Oper}
variable {d:Option Tmp} {ty:TypeId} {pos:String} {aft:Array Edge} {g:Option (Nat×Bool)}
variable {κ ν:Type} [DecidableEq κ] {ek:κ->Value} {ev:ν->Value} {R:Type}
theorem aN.range [cZ P] (j:Nat) {T kt vt:TypeId} {s1 s2:Nat} {z:Value} {x:Operand} {m:Nat} {l:List (κ×ν)} (hx:Go.Sx.ev σ x=some (.map (some m))) (hf:M[j]? = some (Mp ek ev m l)) (hT:cZ.tab P T=some ⟨.map kt vt,s1,s2,z⟩):
  aN P c n σ M L ⟨d,.range T x,ty,pos,aft,g⟩ (fun b:Nat=> .pointer (some ⟨b,0,none⟩)) (fun b=>It b m l.length []::M) (fun _=>L):=fun a w s t=>by
 obtain⟨F,hF⟩:=t.res hf
 have hrun:(execOp a.eval ⟨d,.range T x,ty,pos,aft,g⟩).run P w = .ok (.value (.pointer (some ⟨w.heap.size,0,none⟩))) (w.alloc (.mapIter (some m) l.length #[] l.length)):=by
  simp[execOp,s.eval hx,run_range_map w T kt vt m _ _ (cZ.ok hT).und hF.2]
 simp only[Oper.wp,hrun,Oper.upon]
 exact⟨w.heap.size,rfl,t.push _ ⟨rfl,heap_alloc_new w _⟩⟩
def B_ (ek:κ->Value) (ev:ν->Value) (l:List (κ×ν)):Option Nat->Value
 |none=> .tuple #[.bool false]
 |some i=>match l[i]? with
  |some kv=> .tuple #[.bool true,ek kv.1,ev kv.2]
  |none=>undef
def UW (len:Nat) (seen:List Nat):Option Nat->Prop
 |none=>∀i,i<len->i∈seen
 |some i=>i<len∧i∉seen
def LE (M:List aU) (ji b m len:Nat) (seen:List Nat):Option Nat->List aU
 |none=>M
 |some i=>M.set ji (It b m len (seen++[i]))
theorem St.pureL {w:World} {p:Prop} (hp:p) (t:St c M L w):St c M (TQ p::L) w:=by
 obtain⟨ho,F,hF,hL⟩:=t
 refine⟨ho,F,hF,fun f hf=> ?_⟩
 rcases List.mem_cons.1 hf with rfl|hf
 ·exact hp
 ·exact hL f hf
theorem aN.next (jm ji:Nat) {x:Operand} {b m:Nat} {l:List (κ×ν)} {seen:List Nat} (hx:Go.Sx.ev σ x=some (.pointer (some ⟨b,0,none⟩))) (hf:M[jm]? = some (Mp ek ev m l)) (hi:M[ji]? = some (It b m l.length seen)):
  aN P c n σ M L ⟨d,.next x false,ty,pos,aft,g⟩ (B_ ek ev l) (LE M ji b m l.length seen) (fun o=>TQ (UW l.length seen o)::L):=fun a w s t=>by
 obtain⟨F,hF⟩:=t.res hf
 obtain⟨G,hG⟩:=t.res hi
 have hold:∀e∈(zZ ek ev 0 l).toArray.toList,e.born<l.length:=fun e he=>by
  obtain⟨i,kv,h1,h2⟩:=Hw ek ev 0 l e (by simpa using he)
  rw[h2];have:=aV h1;simp;omega
 rcases run_next_at (P:=P) w ty b m l.length l.length seen.toArray (zZ ek ev 0 l).toArray l.length hG.2 hF.2 hold (Nat.le_refl _)with⟨h0,hr⟩|⟨e,he,w1,hw1,hr⟩
 ·have hrun:(execOp a.eval ⟨d,.next x false,ty,pos,aft,g⟩).run P w = .ok (.value (.tuple #[.bool false])) w:=by
   simp[execOp,s.eval hx,hr]
  simp only[Oper.wp,hrun,Oper.upon]
  refine⟨none,rfl,t.pureL fun i hi'=> ?_⟩
  obtain⟨kv,hkv⟩:∃kv,l[i]? = some kv:=⟨_,List.getElem?_eq_getElem hi'⟩
  have:=all_seen _ _ h0 _ (by simpa using Hv ek ev 0 l i kv hkv)
  simpa using this
 ·have hml:=_root_.Go.mem_left he
  obtain⟨i,kv,h1,h2⟩:=Hw ek ev 0 l e (by simpa using hml.1)
  subst h2
  rw[Nat.zero_add]at hr hml
  have hrun:(execOp a.eval ⟨d,.next x false,ty,pos,aft,g⟩).run P w = .ok (.value (.tuple #[.bool true,ek kv.1,ev kv.2])) (setBlock w1 b (.mapIter (some m) l.length (seen.toArray.push i) l.length)):=by
   simp[execOp,s.eval hx,hr]
  simp only[Oper.wp,hrun,Oper.upon]
  have t1:St c M L w1:=by
   rcases hw1 with rfl|rfl
   ·exact t
   ·exact t.ext ((Below.refl _ _).drew)
  refine⟨some i,by simp[B_,h1],St.pureL ⟨aV h1,by simpa using hml.2⟩ ?_⟩
  refine t1.upd hi rfl rfl rfl (by simp[setBlock]) fun F hF _=>⟨fun k _ hk=> ?_,F,⟨hF.1,?_⟩,fun _ h=> .inl h⟩
  ·simp only[setBlock]
   rw[Array.getElem?_setIfInBounds_ne (fun e=>hk (by subst e;exact hF.1))]
  ·simp only[setBlock]
   rw[Array.getElem?_setIfInBounds_self_of_lt (Array.getElem?_eq_some_iff.1 hF.2).1]
   simp
theorem aN.entry (jm ji:Nat) {x:Operand} {b m i:Nat} {l:List (κ×ν)} {seen:List Nat} {kv:κ×ν} (hkv:l[i]? = some kv) (hx:Go.Sx.ev σ x=some (.pointer (some ⟨b,0,none⟩))) (hf:M[jm]? = some (Mp ek ev m l)) (hi:M[ji]? = some (It b m l.length (seen++[i]))):
  aN P c n σ M L ⟨d,.entry x,ty,pos,aft,g⟩ (fun _:Unit=> .tuple #[ek kv.1,ev kv.2]) (fun _=>M) (fun _=>L):=fun a w s t=>by
 obtain⟨F,hF⟩:=t.res hf
 obtain⟨G,hG⟩:=t.res hi
 have he:=Hv ek ev 0 l i kv hkv
 rw[Nat.zero_add]at he
 have hn:((zZ ek ev 0 l).toArray.toList.map (·.born)).Nodup:=by
  simp only[IK];exact List.nodup_range'
 have hr:=run_entry_at (P:=P) w b m l.length seen.toArray (zZ ek ev 0 l).toArray l.length ⟨ek kv.1,ev kv.2,i⟩ (by rw[hG.2];simp) hF.2 (by simpa using he) hn
 have hrun:(execOp a.eval ⟨d,.entry x,ty,pos,aft,g⟩).run P w = .ok (.value (.tuple #[ek kv.1,ev kv.2])) w:=by
  simp[execOp,s.eval hx,hr]
 simp only[Oper.wp,hrun,Oper.upon]
 exact⟨(),by first|rfl|trivial,t⟩
theorem QX {G:Act->World->Prop} (σ':Fr) (M' L':List aU) (hs:tQ σ σ') (hM:aT M M') (hL:aH [] L L') (h:J c n σ' M' L' G):J c n σ M L G:=fun a w s t=>h a w (s.weak hs) (t.weakE hM hL)
theorem JN {kt:TypeId} {d:TypeDesc} (hu:P.underlying kt=some d) (chk:∀b k w,(Instr.checkKey b 10000 kt (ek k)).run P w = .ok () w) (now:∀a b,Instr.sameNow d (ek a) (ek b)=none)
  (eq:∀a b w,(Op.equal kt (ek a) (ek b)).run P w = .ok (decide (a=b)) w) (same:∀k,Instr.sameBits 10000 (ek k) (ek k)=true):Ek P kt ek:=by
 refine⟨chk,fun {ν'} ev' k l w=> ?_,same⟩
 have ask:∀(l:List (κ×ν')) (i:Nat),(Instr.findAsking kt (ek k) (zZ ek ev' i l) i).run P w = .ok (MM ev' k i l) w:=by
  intro l
  induction l with
  |nil=>intro i;simp[zZ,MM,Instr.findAsking]
  |cons x xs ih=>
   intro i
   simp only[zZ,MM,Instr.findAsking]
   simp[eq]
   by_cases h:k=x.1
   ·simp[h]
   ·simp[h,ih]
 unfold Instr.findKey
 cases l with
 |nil=>simp[zZ,MM,Instr.findNow,run_underlying hu w]
 |cons x xs=>
  have h1:Instr.findNow d (ek k) (zZ ek ev' 0 (x::xs)) 0=none:=by simp[zZ,Instr.findNow,now]
  simp[run_underlying hu w,h1,ask]
def NL {R:Type} (c:r_) (n:Sz) (σ:Fr) (M L:List aU) (x:Option R) (r:R) (a:Act) (w:World):Prop:=x=some r∧Cy n σ a∧St c M L w
theorem JM {R:Type} {x:Option R} {r:R} (h:x=some r) (hs:tQ σ' σ) (hM:aT M' M) (hL:aH [] L' L):J c n σ' M' L' (NL c n σ M L x r):=fun _ _ s t=>⟨h,s.weak hs,t.weakE hM hL⟩
theorem Mm (step:κ×ν->Option R->Option R) {K:Option R} {r:R} (jm ji:Nat) {b m:Nat} {l:List (κ×ν)} (hc:∀a b x,step a (step b x)=step b (step a x)) (h:FE step K l=some r)
  (hf:M[jm]? = some (Mp ek ev m l)) (hi:M[ji]? = some (It b m l.length [])) (hne:Nat.beq ji jm=false) {t0 t1 t2:Tmp} (hx:lk σ t0=some (.pointer (some ⟨b,0,none⟩))) (hd1:Nat.blt t1 n.sz=true) (hd2:Nat.blt t2 n.sz=true)
  {id ex:Nat} {y1 y2:TypeId} {q1 q2:String} {f1 f2:Array Edge} {body:Code}
  (round:∀(kv:κ×ν) (i:Nat) (seen:List Nat) (x:Option R),l[i]? = some kv->step kv x=some r->
   J c n ((t2,.bool true)::(t1,.tuple #[.bool true,ek kv.1,ev kv.2])::σ) (M.set ji (It b m l.length (seen++[i]))) L (body.wpr rd P (Exit.then (NL c n σ (M.set ji (It b m l.length (seen++[i]))) L x r) Q)))
  (fin:∀seen,K=some r->J c n ((t2,.bool false)::(t1,.tuple #[.bool false])::σ) (M.set ji (It b m l.length seen)) L (Q (.exit ex))):
  J c n σ M L ((Code.loop (Code.seq (Code.region id [⟨some t1,.next (.tmp t0) false,y1,q1,f1,none⟩,⟨some t2,.extract (.tmp t1) 0,y2,q2,f2,none⟩].toArray false) (Code.seq (Code.cond (.tmp t2) .skip (.exit ex)) body))).wpr rd P Q):=by
 have hjlt:=aV hi
 have hjm:jm≠ji:=fun e=>by subst e;simp at hne
 have hset:M.set ji (It b m l.length [])=M:=by
  apply List.ext_getElem?
  intro q
  by_cases eq:q=ji
  ·subst eq;rw[List.getElem?_set_self hjlt,hi]
  ·rw[List.getElem?_set_ne (Ne.symm eq)]
 refine NE (X:=List Nat) (fun seen=>seen.Nodup∧(∀i∈seen,i<l.length)∧FE step K (rem l seen)=some r) (fun _=>σ) (fun seen=>M.set ji (It b m l.length seen)) (fun _=>L) (fun seen=>l.length - seen.length) [] ⟨List.nodup_nil,by simp,by rw[SI];exact h⟩ (tQ.refl _) (by rw[hset];exact aT.refl _) (fun _ h=>h) ?_
 rintro seen ⟨hnd,hlt,hrun⟩
 have hf':(M.set ji (It b m l.length seen))[jm]? = some (Mp ek ev m l):=by rw[List.getElem?_set_ne (Ne.symm hjm)];exact hf
 have hi':(M.set ji (It b m l.length seen))[ji]? = some (It b m l.length seen):=List.getElem?_set_self hjlt
 refine aM (aS (aK (aN.next jm ji (x:= .tmp t0) hx hf' hi') hd1 fun o=> ?_))
 refine TN List.mem_cons_self fun ho=> ?_
 refine TO (M':=LE (M.set ji (It b m l.length seen)) ji b m l.length seen o) (L':=L) ?_ (tQ.refl _) (aT.refl _) (fun f hf=>List.mem_cons_of_mem _ hf)
 cases o with
 | none =>
  refine aE (xH (vs:=[.bool false]) (by simp[B_,lk,Go.Sx.ev]) rfl) hd2 (fU (xV (aM (QU (by simp[lk,Go.Sx.ev]) (wT (kH (kH ?_)))))))
  refine fin seen ?_
  have:rem l seen=[]:=by
   unfold rem
   rw[List.filter_eq_nil_iff.2 (fun i hi=>by simpa using ho i (by simpa using hi))]
   rfl
  rw[this]at hrun
  exact hrun
 | some i =>
  obtain⟨h1,h2⟩:=ho
  obtain⟨kv,hkv⟩:∃kv,l[i]? = some kv:=⟨_,List.getElem?_eq_getElem h1⟩
  have hval:B_ ek ev l (some i) = .tuple #[.bool true,ek kv.1,ev kv.2]:=by simp[B_,hkv]
  obtain⟨l1,l2,e1,e2⟩:=PW hkv h2
  have hstep:step kv (FE step K (rem l (seen++[i])))=some r:=by
   rw[e2,<-Gq hc K kv l2 l1,<-e1];exact hrun
  have hMs:LE (M.set ji (It b m l.length seen)) ji b m l.length seen (some i)=M.set ji (It b m l.length (seen++[i])):=by simp[LE]
  rw[hval,hMs]
  refine aE (xH (vs:=[.bool true,ek kv.1,ev kv.2]) (by simp[lk,Go.Sx.ev]) rfl) hd2 (fU (xV (aM (QV (by simp[lk,Go.Sx.ev]) (f_ (xV ?_))))))
  refine NF (round kv i seen _ hkv hstep) fun a w hw=>Fy (fun e a' w' q=> ?_) hw
  cases e with
  | normal =>
   obtain⟨hx',hs',ht'⟩:=q
   refine⟨seen++[i],⟨?_,?_,hx'⟩,?_,hs',ht'⟩
   ·rw[List.nodup_append];exact⟨hnd,by simp,fun a ha b hb=>by simp at hb;subst hb;rintro rfl;exact h2 ha⟩
   ·intro j hj
    rcases List.mem_append.1 hj with hj|hj
    ·exact hlt j hj
    ·simp at hj;subst hj;exact h1
   ·have:seen.length<l.length:=by
     have hsub:(seen++[i]).length<=(List.range l.length).length:=by
      apply List.Nodup.length_le_of_subset
      ·rw[List.nodup_append];exact⟨hnd,by simp,fun a ha b hb=>by simp at hb;subst hb;rintro rfl;exact h2 ha⟩
      ·intro j hj
       rcases List.mem_append.1 hj with hj|hj
       ·simpa using hlt j hj
       ·simp at hj;subst hj;simpa using h1
     simp at hsub;omega
    simp;omega
  |exit id=>exact q
  |goto l=>exact q
  |ret=>exact q
  |panic ch=>exact q
  |outgrown=>exact q
end
end Go.Sx
end
section
namespace Go.Sx
open Go.RowKit
section
section
variable {P:Program} {rd:Option Nat} {c:r_} {n:Sz} {σ σ':Fr} {M L M' L':List aU} {Q:Exit->Act->World->Prop} {ops:Array Oper} {rest:List Oper} {K:Act->World->Prop} {G:Act->World->Prop}
variable {d:Option Tmp} {D:Nat} {ty:TypeId} {pos:String} {aft:Array Edge} {g:Option (Nat×Bool)}
variable {α β:Type} {e:dH α} {r:eQ α}
def Bl (P:Program) (f:FuncId) (args:Array Value) (Min L:List aU) {A:Type} (ret:A->Value) (MO:A->List aU->List aU):Prop:=
 ∀c:r_,St c Min L c.w0->Calls P f args c.w0 fun e w'=>∃x:A,e = .returned (ret x)∧St c (MO x []) [] w'
theorem Bl.of {A:Type} {ret:A->Value} {MO:A->List aU->List aU} {f:FuncId} {fn:Func} {code:Code} {vs:List Value} {m:Nat} {Min:List aU}
  (hf:P.funcs[f]? = some fn) (hb:fn.body=some code) (hn:fn.ntmps=m) (hm:Nat.ble vs.length m=true)
  (h:∀c:r_,J c ⟨m,[]⟩ (wX 0 vs) Min L (code.wpr none P (lC P fn (Ic c ret MO (fun _ l=>l))))):Bl P f vs.toArray Min L ret MO:=fun c t=>by
 have hle:vs.length<=m:=by simpa using hm
 refine rH hf hb (h c _ _ ⟨rfl,by simp[hn,hle],?_⟩ t)
 intro t v hv
 obtain⟨_,h2⟩:=zX vs 0 t v hv
 rw[Nat.sub_zero]at h2
 have hlt:t<vs.length:=by
  rcases Nat.lt_or_ge t vs.length with h'|h'
  ·exact h'
  ·rw[List.getElem?_eq_none h']at h2;cases h2
 rw[Array.getElem?_append_left (by simpa using hlt)]
 simpa using h2
theorem NS {w w':World} {Min Mr M1:List aU} {F:Nat->Nat->Prop} {U:Nat->Prop} (ho:xE c.O c.w0 w) (hF:Te c w (Min++Mr) F) (hL:∀f∈L,f.p w (AN c F))
  (t:St ⟨w,U,fun k=>∃i,i<Min.length∧F i k⟩ M1 [] w'):St c (M1++Mr) L w':=by
 obtain⟨ho',F',hF',_⟩:=t
 have hsz:=ho'.size
 have hbl:∀k,k<w.heap.size->(∀i,i<Min.length->¬F i k)->w'.heap[k]? = w.heap[k]? := fun k hk hn=>ho'.block k hk (fun⟨i,hi,hF⟩=>hn i hi hF)
 have hmine:∀i k,F' i k->w.heap.size<=k∨∃j,j<Min.length∧F j k:=fun i k hk=>(hF'.rng i k hk).1
 refine⟨⟨ho'.os.trans ho.os,ho'.tape.trans ho.tape,ho'.output.trans ho.output,Nat.le_trans ho.size hsz,fun k hk hO=> ?_⟩,
  fun i k=>(i<M1.length∧F' i k)∨(M1.length<=i∧F (i - M1.length+Min.length) k),⟨?_,?_,?_⟩,fun f hf=> ?_⟩
 ·refine(hbl k (Nat.lt_of_lt_of_le hk ho.size) (fun i _ hFi=> ?_)).trans (ho.block k hk hO)
  rcases(hF.rng i k hFi).1 with h|h
  ·omega
  ·exact hO h
 ·intro i m hm
  by_cases hi:i<M1.length
  ·rw[List.getElem?_append_left hi]at hm
   exact aU.same (hF'.res i m hm) (fun k hk=> .inl ⟨hi,hk⟩) (fun _ _ _=>rfl)
  ·rw[List.getElem?_append_right (by omega)]at hm
   have hm':(Min++Mr)[i - M1.length+Min.length]? = some m:=by
    rw[List.getElem?_append_right (by omega),Nat.add_sub_cancel];exact hm
   exact aU.same (hF.res _ m hm') (fun k hk=> .inr ⟨by omega,hk⟩) (fun k hk hl=>hbl k hl (fun j hj hFj=>by have:=hF.dis _ _ k hFj hk;omega))
 ·rintro i k (⟨_,hk⟩|⟨_,hk⟩)
  ·refine⟨?_,(hF'.rng i k hk).2⟩
   rcases hmine i k hk with h|⟨j,_,h⟩
   ·exact .inl (Nat.le_trans ho.size h)
   ·exact(hF.rng j k h).1
  ·exact⟨(hF.rng _ k hk).1,Nat.lt_of_lt_of_le (hF.rng _ k hk).2 hsz⟩
 ·rintro i j k (⟨hi,h1⟩|⟨hi,h1⟩) (⟨hj,h2⟩|⟨hj,h2⟩)
  ·exact hF'.dis i j k h1 h2
  ·rcases hmine i k h1 with h|⟨q,hq,h⟩
   ·have:=(hF.rng _ k h2).2;omega
   ·have:=hF.dis _ _ k h h2;omega
  ·rcases hmine j k h2 with h|⟨q,hq,h⟩
   ·have:=(hF.rng _ k h1).2;omega
   ·have:=hF.dis _ _ k h h1;omega
  ·have:=hF.dis _ _ k h1 h2;omega
 ·refine f.mono (hL f hf) fun k hk hl=>⟨⟨hk.1,?_⟩,hbl k hl (fun i _=>hk.2 i)⟩
  rintro i (⟨_,h⟩|⟨_,h⟩)
  ·rcases hmine i k h with h'|⟨q,_,h'⟩
   ·omega
   ·exact hk.2 q h'
  ·exact hk.2 _ h
theorem Mt {w:World} {Min Mr L0:List aU} {F:Nat->Nat->Prop} (hF:Te c w (Min++Mr) F) (hL:∀f∈L,f.p w (AN c F)) (hl:aH Mr L L0):
  St ⟨w,fun k=>∀i,i<Min.length->¬F i k,fun k=>∃i,i<Min.length∧F i k⟩ Min L0 w:=by
 refine⟨xE.refl _,fun i k=>i<Min.length∧F i k,⟨fun i m hm=> ?_,fun i k hk=>⟨.inr ⟨i,hk⟩,(hF.rng i k hk.2).2⟩,fun i j k h1 h2=>hF.dis i j k h1.2 h2.2⟩,fun f hf=> ?_⟩
 ·have hi:i<Min.length:=by
   rcases Nat.lt_or_ge i Min.length with h'|h'
   ·exact h'
   ·rw[List.getElem?_eq_none h']at hm;cases hm
  exact aU.same (hF.res i m (by rw[List.getElem?_append_left hi];exact hm)) (fun k hk=>⟨hi,hk⟩) (fun _ _ _=>rfl)
 ·refine hl f hf w (AN c F) (fun j k=>F (j+Min.length) k) _ hL (fun j m hj=> ?_) (fun k hk=> ?_) (fun j k hk=> ?_)
  ·exact hF.res _ m (by rw[List.getElem?_append_right (by omega),Nat.add_sub_cancel];exact hj)
  ·exact⟨.inl fun i _=>hk.2 i,fun i hi=>hk.2 i hi.2⟩
  ·exact⟨.inl fun i hi h=>by have:=hF.dis _ _ k h hk;omega,fun i hi=>by have:=hF.dis _ _ k hi.2 hk;omega⟩
theorem xX {A:Type} {ret:A->Value} {MO:A->List aU->List aU} {f:FuncId} {xs:List Operand} {vs:List Value} {ats:Array TypeId} {L0 Min Mr:List aU} (hb:a_ P f)
  (hs:Bl P f vs.toArray Min L0 ret MO) (hx:xs.map (ev σ)=vs.map some) (hM:aT M (Min++Mr)) (hL:aH Mr L L0) (hMO:∀x l,MO x l=MO x []++l):
  aN P c n σ M L ⟨d,.call ⟨.value (.func f),xs.toArray,ats⟩,ty,pos,aft,g⟩ ret (fun x=>MO x Mr) (fun _=>L):=fun a w s t=>by
 have hrun:(execOp a.eval ⟨d,.call ⟨.value (.func f),xs.toArray,ats⟩,ty,pos,aft,g⟩).run P w = .ok (.enter f vs.toArray) w:=by
  have e:=VT s hx
  simp[execOp,resolve,Act.eval,Deferred.ofValue,invoke,hb _ w,e]
 simp only[Oper.wp,hrun,Oper.upon]
 obtain⟨ho,F,hF,hLF⟩:=t.weak (L':=L) hM (fun _ h=>h)
 refine(hs _ (Mt hF hLF hL)).mono ?_
 rintro e w' ⟨x,rfl,ht⟩
 refine⟨x,rfl,?_⟩
 rw[hMO]
 exact NS ho hF hLF ht
def QY {A B:Type} (c:r_) (C:A->Prop) (val:A->B->Value) (MI LI:A->B->List aU) (e:Ending) (w:World):Prop:=∃x y,C x∧e = .returned (val x y)∧St c (MI x y) (LI x y) w
theorem Ks {fn:Func} {vs:List Value} {m:Nat} (hn:fn.ntmps=m) (hm:Nat.ble vs.length m=true):Cy ⟨m,[]⟩ (wX 0 vs) {tmps:=vs.toArray++Array.replicate (fn.ntmps - vs.toArray.size) undef,defers:=[]}:=by
 have hle:vs.length<=m:=by simpa using hm
 refine⟨rfl,by simp[hn,hle],?_⟩
 intro t v hv
 obtain⟨_,h2⟩:=zX vs 0 t v hv
 rw[Nat.sub_zero]at h2
 have hlt:t<vs.length:=by
  rcases Nat.lt_or_ge t vs.length with h'|h'
  ·exact h'
  ·rw[List.getElem?_eq_none h']at h2;cases h2
 rw[Array.getElem?_append_left (by simpa using hlt)]
 simpa using h2
structure yW (P:Program) (c:r_) (n:Sz) (σ:Fr) (M L:List aU) (o:Oper) (f:FuncId) (vs:List Value):Prop where
 run:∀a w,Cy n σ a->St c M L w->(execOp a.eval o).run P w = .ok (.enter f vs.toArray) w
theorem yW.fn {f:FuncId} {xs:List Operand} {vs:List Value} {ats:Array TypeId} (hb:a_ P f) (hx:xs.map (ev σ)=vs.map some):yW P c n σ M L ⟨d,.call ⟨.value (.func f),xs.toArray,ats⟩,ty,pos,aft,g⟩ f vs:=⟨fun a w s _=>by
 have e:=VT s hx
 simp[execOp,resolve,Act.eval,Deferred.ofValue,invoke,hb _ w,e]⟩
def Nu (P:Program) (c:r_) (n:Sz) (σ:Fr) (M L:List aU) (fn:Func) (v:Value):Prop:=∀a w,Cy n σ a->St c M L w->(results fn a.tmps).run P w = .ok v w
variable {fn:Func}
theorem Nu.r1 {r1:ResultVar} {v1:Value} (hres:fn.results = #[r1]) (h1:RV P c n σ M L r1 v1):Nu P c n σ M L fn v1:=fun a w s t=>by
 have:=h1 a w s t
 simp only[vL,hres]
 simp[this]
theorem Nu.r2 {r1 r2:ResultVar} {v1 v2:Value} (hres:fn.results = #[r1,r2]) (h1:RV P c n σ M L r1 v1) (h2:RV P c n σ M L r2 v2):Nu P c n σ M L fn (.tuple #[v1,v2]):=fun a w s t=>by
 have h1:=h1 a w s t
 have h2:=h2 a w s t
 simp only[vL,hres]
 simp[h1,h2]
theorem Bj {A B:Type} {m:Sz} {v:Value} {ex:Exit} {C:A->Prop} {val:A->B->Value} {MI LI:A->B->List aU} (x:A) (y:B) (hC:C x) (hex:ex = .ret∨ex = .normal) (hr:Nu P c m σ' M L fn v) (hv:v=val x y) (hM:aT M (MI x y)) (hL:aH [] L (LI x y)) (hds:m.ds=[]:=by rfl):
  J c m σ' M L (lC P fn (QY c C val MI LI) ex):=fun a w s t=>by
 exact body_end hex (s.defers.trans hds) (hr a w s t) ⟨x,y,hC,by rw[hv],t.weakE hM hL⟩
end
end
section
section
variable {P:Program} {rd:Option Nat} {c:r_} {n:Sz} {σ σ':Fr} {M L M' L':List aU} {Q:Exit->Act->World->Prop} {ops:Array Oper} {rest:List Oper} {K:Act->World->Prop} {G:Act->World->Prop}
variable {d:Option Tmp} {D:Nat} {ty:TypeId} {pos:String} {aft:Array Edge} {g:Option (Nat×Bool)}
variable {α β:Type} {e:dH α} {r:eQ α}
theorem Ik (i:Nat) {k:Int} {vs:List Value} {xss:List (List α)} (hf:M[i]? = some (fI e vs xss)) (h:0<=k∧k<xss.length):
  sW M L (Ar e (at' vs k) (at' xss k)::M.set i (fI e (vs.set k.toNat (.slice none 0 0)) (xss.set k.toNat []))) L:=fun c w t=>by
 obtain⟨ho,F,hF,hL⟩:=t
 obtain⟨hlen,G,g1,g2,g3⟩:=hF.res i _ hf
 have hkl:k.toNat<vs.length:=by omega
 have hlt:i<M.length:=(List.getElem?_eq_some_iff.1 hf).1
 have hrow:=g1 k.toNat _ _ (jQ h.1 (by omega)) (jQ h.1 h.2)
 refine⟨ho,fun j q=>match j with|0=>G k.toNat q|j+1=>(j=i∧∃j',j'≠k.toNat∧G j' q)∨(j≠i∧F j q),⟨?_,?_,?_⟩,fun f hf=> ?_⟩
 ·intro j m hm
  cases j with
  |zero=>simp at hm;subst hm;exact hrow
  | succ j =>
   rw[List.getElem?_cons_succ]at hm
   by_cases ej:j=i
   ·subst ej
    rw[List.getElem?_set_self hlt]at hm
    cases hm
    refine⟨by simp[hlen],fun j' q=>j'≠k.toNat∧G j' q,fun j' v xs hv hx=> ?_,fun j' q hq=> .inl ⟨rfl,j',hq⟩,fun j1 j2 q h1 h2=>g3 _ _ q h1.2 h2.2⟩
    by_cases e2:j'=k.toNat
    ·subst e2
     rw[List.getElem?_set_self hkl]at hv
     rw[List.getElem?_set_self (by omega)]at hx
     cases hv;cases hx
     exact⟨by simp,rfl,.inl ⟨rfl,rfl⟩⟩
    ·rw[List.getElem?_set_ne (Ne.symm e2)]at hv hx
     exact aU.same (f:=Ar e v xs) (g1 j' v xs hv hx) (fun q hq=>⟨e2,hq⟩) (fun _ _ _=>rfl)
   ·rw[List.getElem?_set_ne (Ne.symm ej)]at hm
    exact aU.same (hF.res j m hm) (fun q hq=> .inr ⟨ej,hq⟩) (fun _ _ _=>rfl)
 ·intro j q hq
  cases j with
  |zero=>exact hF.rng i q (g2 _ q hq)
  |succ j=>
   rcases hq with⟨_,j',_,hq⟩|⟨_,hq⟩
   ·exact hF.rng i q (g2 _ q hq)
   ·exact hF.rng j q hq
 ·intro j1 j2 q h1 h2
  cases j1 with
  | zero =>
   cases j2 with
   |zero=>rfl
   |succ j2=>
    rcases h2 with⟨_,j',hne,h2⟩|⟨hne,h2⟩
    ·exact absurd (g3 _ _ q h2 h1) hne
    ·exact absurd (hF.dis _ _ q h2 (g2 _ q h1)) hne
  | succ j1 =>
   cases j2 with
   |zero=>
    rcases h1 with⟨_,j',hne,h1⟩|⟨hne,h1⟩
    ·exact absurd (g3 _ _ q h1 h2) hne
    ·exact absurd (hF.dis _ _ q h1 (g2 _ q h2)) hne
   |succ j2=>
    congr 1
    rcases h1 with⟨e1,j',_,h1⟩|⟨e1,h1⟩<;>rcases h2 with⟨e2,j'',_,h2⟩|⟨e2,h2⟩
    ·rw[e1,e2]
    ·exact absurd (hF.dis _ _ q h2 (g2 _ q h1)) e2
    ·exact absurd (hF.dis _ _ q h1 (g2 _ q h2)) e1
    ·exact hF.dis _ _ q h1 h2
 ·refine aU.same (hL f hf) (fun q hq=>⟨hq.1,fun j hj=> ?_⟩) (fun _ _ _=>rfl)
  cases j with
  |zero=>exact hq.2 i (g2 _ q hj)
  |succ j=>
   rcases hj with⟨_,j',_,hj⟩|⟨_,hj⟩
   ·exact hq.2 i (g2 _ q hj)
   ·exact hq.2 j hj
theorem Ii (i j:Nat) {u:Value} {k:Int} {vs:List Value} {xss:List (List α)} {ys:List α} (hij:Nat.beq i j=false) (hf:M[i]? = some (fI e (vs.set k.toNat (.slice none 0 0)) (xss.set k.toNat []))) (hg:M[j]? = some (Ar e u ys)) (h:0<=k∧k<(xss.set k.toNat []).length):
  sW M L ((M.set i (fI e (vs.set k.toNat u) (xss.set k.toNat ys))).eraseIdx j) L:=by
 have:=sJ (L:=L) i j hij hf hg h
 rwa[List.set_set,List.set_set]at this
theorem FX {α:Type} [Inhabited α] (l:List α) {j k:Int} (y:α) (h:j.toNat≠k.toNat):at' (l.set j.toNat y) k=at' l k:=by
 rw[at',at',List.getD_eq_getElem?_getD,List.getD_eq_getElem?_getD,List.getElem?_set_ne h]
theorem tP [cZ P] (i:Nat) {r:eQ α} (hfit:e.Fits r) {x y:Operand} {u u0:Value} {k j:Int} {vs:List Value} {xss:List (List α)} {ys ys0:List α} {T E:TypeId} {s1 s2 s3 s4:Nat} {z z':Value} {dE:TypeDesc} (hx:ev σ x=some (at' vs k)) (hy:ev σ y=some u) (hf:M[i]? = some (fI e (vs.set j.toNat u0) (xss.set j.toNat ys0))) (hg:aG M L (Sl r u ys))
  (hT:cZ.tab P T=some ⟨.slice E,s1,s2,z⟩) (hE:cZ.tab P E=some ⟨dE,s3,s4,z'⟩) (h3:e.sz=s3) (h4:Nat.ble s4 1024=true) (h0:0<=k∧k<xss.length) (hl:((at' xss k).length:Int)+ys.length<=1099511627) (hz:z'.cells.size=s3) (hne:j.toNat≠k.toNat):
  aN P c n σ M L ⟨d,.call ⟨.builtin .append,#[x,y],#[T,T]⟩,ty,pos,aft,g⟩ (fun v':Value=>v') (fun v'=>M.set i (fI e ((vs.set j.toNat u0).set k.toNat v') ((xss.set j.toNat ys0).set k.toNat (at' xss k++ys)))) (fun _=>L):=by
 have ex:at' (xss.set j.toNat ys0) k=at' xss k:=FX _ _ hne
 have:=gY (P:=P) (c:=c) (n:=n) (σ:=σ) (M:=M) (L:=L) (d:=d) (ty:=ty) (pos:=pos) (aft:=aft) (g:=g) (x:=x) (y:=y) (u:=u) (k:=k) (vs:=vs.set j.toNat u0) (xss:=xss.set j.toNat ys0) (ys:=ys) i hfit (by rw[FX _ _ hne];exact hx) hy hf hg hT hE h3 h4 (by simpa using h0) (by rw[ex];exact hl) hz
 rwa[ex]at this
theorem xW (q:Nat) {vs:List Value} {xss:List (List α)} {k j:Int} {u u2:Value} (hr:M[q]? = some (fI e ((vs.set k.toNat u).set j.toNat u2) xss)) (hne:k.toNat≠j.toNat) (h:0<=k∧k<xss.length):∀c w,St c M L w->Go.Sx.one u=true:=fun c w t=>by
 obtain⟨S,hl,G',g1,_⟩:=t.res hr
 have hlt:k.toNat<vs.length:=by simp at hl;omega
 obtain⟨_,_,hh⟩:=g1 k.toNat u _ (by rw[List.getElem?_set_ne (Ne.symm hne),List.getElem?_set_self hlt]) (List.getElem?_eq_getElem (by omega))
 rcases hh with⟨hu,_⟩|⟨b,off,cap,T,cur,hu,_⟩<;>(rw[hu];rfl)
theorem QW {A:Type} {val:A->Value} {M' L':A->List aU} {op:Op} (ho:aN P c n σ M L ⟨none,op,ty,pos,aft,none⟩ val M' L') (h:∀x,J c n σ (M' x) (L' x) (wpList P ops Q rest)):
  J c n σ M L (wpList P ops Q (⟨none,op,ty,pos,aft,none⟩::rest)):=fun a w s t=>
 jT rfl (EV (lG (fun a' w' ⟨x,he,ht⟩=>by subst he;exact h x _ w' s ht) (ho a w s t)))
end
end
section
section
variable {P:Program} {rd:Option Nat} {c:r_} {n:Sz} {σ σ':Fr} {M L M' L':List aU} {Q:Exit->Act->World->Prop} {ops:Array Oper} {rest:List Oper} {K:Act->World->Prop} {G:Act->World->Prop}
variable {d:Option Tmp} {D:Nat} {ty:TypeId} {pos:String} {aft:Array Edge} {g:Option (Nat×Bool)}
variable {α β:Type} {e:dH α} {r:eQ α}
theorem HZ [cZ P] (j:Nat) {T:TypeId} {s2:Nat} {z:Value} {dT:TypeDesc} {x y:Operand} {v u:Value} {i:Int} {xs:List α} (yv:α) (hx:ev σ x=some (Av v (i.toNat*1))) (hy:ev σ y=some u) (hu:e.enc yv=[u]) (h1u:one u=true)
  (hf:M[j]? = some (Ar e v xs)) (hT:cZ.tab P T=some ⟨dT,1,s2,z⟩) (hq:e.sz=1) (h0:0<=i) (h1:i<xs.length):
  aN P c n σ M L ⟨none,.store T x y,ty,pos,aft,none⟩ (fun _:Unit=>undef) (fun _=>M.set j (Ar e v (xs.set i.toNat yv))) (fun _=>L):=fun a w s t=>by
 obtain⟨F,hF⟩:=t.res hf
 have hi:i.toNat<xs.length:=by omega
 have hget:xs[i.toNat]? = some xs[i.toNat]:=List.getElem?_eq_getElem hi
 have hne:xs≠[]:=by intro e;subst e;simp at hi
 obtain⟨p,hp⟩:∃p,e.enc xs[i.toNat]=[p]:=List.length_eq_one_iff.1 ((e.len _).trans hq)
 have hcell:=BI.cell hF hget (j:=0) (u:=p) (by rw[hp];rfl)
 rw[hq,Nat.add_zero,Nat.mul_one]at hcell
 rw[Nat.mul_one]at hx
 have hfree:=HV hF hne i.toNat
 have hrun:(execOp a.eval ⟨none,.store T x y,ty,pos,aft,none⟩).run P w = .ok .skip (w.setCell (Fz v i.toNat) u):=by
  simp only[execOp,s.eval hx,s.eval hy,Av]
  simp[Bz (cZ.ok hT) rfl h1u hcell hfree]
 simp only[Oper.wp,hrun,Oper.upon]
 refine⟨(),trivial,t.upd hf rfl rfl rfl (by simp[World.setCell]) fun F hF _=> ?_⟩
 obtain⟨hl,h1,hh⟩:=hF
 rcases hh with⟨_,hh⟩|⟨b,off,cap,T',cur,hv,hFb,hb,hk,hc,ht⟩
 ·exact absurd hh hne
 ·subst hv
  have ha:Fz (.slice (some ⟨b,off,none⟩) xs.length cap) i.toNat=⟨b,off+i.toNat,none⟩:=by simp[Fz,eF]
  rw[ha]
  refine⟨fun k _ hk'=>Below.heap_setCell _ _ _ _ (fun e=>hk' (by simp only at e;subst e;exact hFb)),F,⟨by simpa using hl,?_,.inr ⟨b,off,cap,T',cur.setIfInBounds (off+i.toNat) u,by simp,hFb,?_,by simpa using hk,by simpa using hc,?_⟩⟩,fun _ h=> .inl h⟩
  ·rw[rI hq hu,List.all_eq_true]
   intro q hq'
   rcases List.mem_or_eq_of_mem_set hq' with h'|h'
   ·exact List.all_eq_true.1 h1 q h'
   ·rw[h'];exact h1u
  ·simp[World.setCell,Array.getElem?_modify,hb]
  ·rw[rI hq hu,<-ht,Array.toList_setIfInBounds,List.length_set,<-take_set]
   congr 1
   rw[List.drop_set,if_neg (by omega),Nat.add_sub_cancel_left]
theorem wU [cZ P] (j q:Nat) {T:TypeId} {s2:Nat} {z:Value} {dT:TypeDesc} {x y:Operand} {v u:Value} {i:Int} {vs vs':List Value} {xss:List (List α)} (h:0<=i∧i<xss.length) (hx:ev σ x=some (Av v (i.toNat*1))) (hy:ev σ y=some u)
  (hf:M[j]? = some (Ar dH.raw v vs)) (hr:M[q]? = some (fI e vs' xss)) (hl:vs'.length=vs.length) (h1u:one u=true) (hT:cZ.tab P T=some ⟨dT,1,s2,z⟩):
  aN P c n σ M L ⟨none,.store T x y,ty,pos,aft,none⟩ (fun _:Unit=>undef) (fun _=>M.set j (Ar dH.raw v (vs.set i.toNat u))) (fun _=>L):=fun a w s t=>by
 have hlen:vs'.length=xss.length:=by obtain⟨_,h⟩:=t.res hr;exact h.1
 exact HZ j u hx hy rfl h1u hf hT rfl h.1 (by omega) a w s t
section
variable {l:List Oper} {m:List Nat} {k0:Nat} {H Bs:List (Nat×List aU×List aU)} {rs:List Nat}
theorem BL {A:Type} {val:A->Value} {M' L':A->List aU} {i:Nat} {op:Op}
  (hi:l[i]? = some ⟨none,op,ty,pos,aft,none⟩) (hk:Nat.blt i k0=true) (hl:dU op=true) (ho:aN P c n σ M L ⟨none,op,ty,pos,aft,none⟩ val M' L')
  (hB:∀x,xD (before m i) (M' x) (L' x) Bs) (h:∀x,JR c n σ (M' x) (L' x) ((i,M,L)::H) Bs (RW P l.toArray Q (before m) (cP l) k0 rs)):
  JR c n σ M L H Bs (RW P l.toArray Q (before m) (cP l) k0 (i::rs)):=fun a w X Y s t hX hY=>by
 have hi':l.toArray[i]? = some ⟨none,op,ty,pos,aft,none⟩:=by simpa using hi
 simp only[RW,hi']
 rw[if_pos (by simp[Region.wanted])]
 refine .inr (.inr ⟨by simpa [Nat.blt_eq]using hk,by simp[cP,hi,hl],lG ?_ (ho a w s t)⟩)
 rintro a' w' ⟨x,rfl,ht⟩
 exact⟨(hB x).use ht hY,h x _ w' _ Y s ht ⟨rfl,t,hX⟩ hY⟩
end
theorem FU {A B:Type} {f:FuncId} {fn:Func} {code:Code} {vs:List Value} {m:Nat} {op:Op} (C:A->Prop) (val:A->B->Value) (MI LI:A->B->List aU) (he:yW P c n σ M L ⟨d,op,ty,pos,aft,g⟩ f vs) (hf:P.funcs[f]? = some fn) (hb:fn.body=some code) (hn:fn.ntmps=m) (hm:Nat.ble vs.length m=true)
  (h1:J c ⟨m,[]⟩ (wX 0 vs) M L (code.wpr none P (lC P fn (QY c C val MI LI)))):
  aN P c n σ M L ⟨d,op,ty,pos,aft,g⟩ (fun x:{p:A×B // C p.1}=>val x.1.1 x.1.2) (fun x=>MI x.1.1 x.1.2) (fun x=>LI x.1.1 x.1.2):=fun a w s t=>by
 have hrun:=he.run a w s t
 simp only[Oper.wp,hrun,Oper.upon]
 refine(rH hf hb (h1 _ w (Ks hn hm) t)).mono ?_
 rintro e w' ⟨x,y,hC,rfl,ht⟩
 exact⟨⟨(x,y),hC⟩,rfl,ht⟩
theorem GM {A B:Type} {f:FuncId} {fn:Func} {code:Code} {vs:List Value} {m:Nat} {op:Op} (C:A->Prop) (val:A->B->Value) (MI LI:A->B->List aU) (he:yW P c n σ M L ⟨some D,op,ty,pos,aft,none⟩ f vs) (hf:P.funcs[f]? = some fn) (hb:fn.body=some code) (hn:fn.ntmps=m) (hm:Nat.ble vs.length m=true) (hD:Nat.blt D n.sz=true)
  (h1:J c ⟨m,[]⟩ (wX 0 vs) M L (code.wpr none P (lC P fn (QY c C val MI LI)))) (h2:∀a b,C a->J c n ((D,val a b)::σ) (MI a b) (LI a b) (wpList P ops Q rest)):J c n σ M L (wpList P ops Q (⟨some D,op,ty,pos,aft,none⟩::rest)):=
 aK (FU C val MI LI he hf hb hn hm h1) hD fun⟨⟨a,b⟩,hC⟩=>h2 a b hC
section
variable {l:List Oper} {mm:List Nat} {k0:Nat} {H Bs:List (Nat×List aU×List aU)} {rs:List Nat}
theorem GN {A B:Type} {i:Nat} {f:FuncId} {fn:Func} {code:Code} {vs:List Value} {m:Nat} {op:Op} (C:A->Prop) (val:A->B->Value) (MI LI:A->B->List aU) (hi:l[i]? = some ⟨some D,op,ty,pos,aft,none⟩) (hk:Nat.blt i k0=true) (hl:dU op=true) (he:yW P c n σ M L ⟨some D,op,ty,pos,aft,none⟩ f vs) (hf:P.funcs[f]? = some fn) (hb:fn.body=some code) (hn:fn.ntmps=m) (hm:Nat.ble vs.length m=true) (hD:Nat.blt D n.sz=true)
  (hB:∀a b,xD (before mm i) (MI a b) (LI a b) Bs) (h1:J c ⟨m,[]⟩ (wX 0 vs) M L (code.wpr none P (lC P fn (QY c C val MI LI)))) (h2:∀a b,C a->JR c n ((D,val a b)::σ) (MI a b) (LI a b) ((i,M,L)::H) Bs (RW P l.toArray Q (before mm) (cP l) k0 rs)):
  JR c n σ M L H Bs (RW P l.toArray Q (before mm) (cP l) k0 (i::rs)):=
 JR.loud hi hk hl (FU C val MI LI he hf hb hn hm h1) hD (fun _=>hB _ _) fun⟨⟨a,b⟩,hC⟩=>h2 a b hC
end
theorem As [cZ P] {T E:TypeId} {k s1 s2 s3 s4:Nat} {z z':Value} {dE:TypeDesc} {x y:Operand} {v:Value} {o:Nat} {i:Int} (hx:ev σ x=some (Av v o)) (hy:ev σ y=some (.int .i64 i))
  (hT:cZ.tab P T=some ⟨.array k E,s1,s2,z⟩) (hE:cZ.tab P E=some ⟨dE,s3,s4,z'⟩) (_h3:(s3==0)=false) (h:0<=i∧i<(k:Int)):
  Y P c n σ M L ⟨d,.indexAddr T x y,ty,pos,aft,g⟩ (Av v (o+i.toNat*s3)):=fun a w s t=>by
 simp[execOp,s.eval hx,s.eval hy,Instr.indexAt,asIntOf,(cZ.ok hT).run_und w,h,Instr.sureAddr,Av,(cZ.ok hE).run_size w,DR]
theorem bO {x:Operand} {b o:Nat} (hx:ev σ x=some (.pointer (some ⟨b,o,none⟩))):Y P c n σ M L ⟨d,.nilCheck x,ty,pos,aft,g⟩ (.pointer (some ⟨b,o,none⟩)):=fun a w s t=>by
 simp[execOp,s.eval hx]
theorem H_ [cZ P] [Inhabited α] (j:Nat) {T:TypeId} {s2 k o q:Nat} {z:Value} {dT:TypeDesc} {x y:Operand} {v u:Value} {us:List Value} {i:Int} {xs:List α} (yv:α) (h:0<=i∧i<xs.length) (hx:ev σ x=some (Av v (i.toNat*q+o))) (hy:ev σ y=some u)
  (hf:M[j]? = some (Ar e v xs)) (hq:e.sz=q) (hu:u.cells=us.toArray) (hk:us.length=k) (ho:Nat.ble (o+k) q=true) (hyv:e.enc yv=(e.enc (at' xs i)).take o++us++(e.enc (at' xs i)).drop (o+k)) (h1u:us.all one=true) (hT:cZ.tab P T=some ⟨dT,k,s2,z⟩):
  aN P c n σ M L ⟨none,.store T x y,ty,pos,aft,none⟩ (fun _:Unit=>undef) (fun _=>M.set j (Ar e v (xs.set i.toNat yv))) (fun _=>L):=fun a w s t=>by
 subst hq hk
 have hok:o+us.length<=e.sz:=by simpa using ho
 have hi:i.toNat<xs.length:=by omega
 have t0:=t
 obtain⟨hoo,FF,hO,hLL⟩:=t0
 obtain⟨h0,hone,hh⟩:=hO.res j _ hf
 rcases hh with⟨_,rfl⟩|⟨b,off,cap,T',cur,rfl,hFb,hbk,hcp,hc,ht⟩
 ·simp at hi
 -- the parts of the row
 obtain⟨l,x0,tl,hxs,hl⟩:∃l x0 tl,xs=l++x0::tl∧l.length=i.toNat:=⟨xs.take i.toNat,xs[i.toNat],xs.drop (i.toNat+1),by rw[List.getElem_cons_drop,List.take_append_drop],by simp;omega⟩
 have hat:at' xs i=x0:=by
  rw[at',List.getD_eq_getElem?_getD,<-hl,hxs,List.getElem?_append_right (Nat.le_refl _)];simp
 rw[hat]at hyv
 have eE:=e.len x0
 have eA:(cellsOf e l).length=i.toNat*e.sz:=by rw[eJ,hl]
 have hcells:cellsOf e xs=cellsOf e l++(e.enc x0++cellsOf e tl):=by rw[hxs];simp[cellsOf]
 have hset:cellsOf e (xs.set i.toNat yv)=cellsOf e l++(e.enc yv++cellsOf e tl):=by
  have:xs.set i.toNat yv=l++yv::tl:=by rw[hxs,<-hl,List.set_append_right _ _ (Nat.le_refl _)];simp
  rw[this];simp[cellsOf]
 have hmul:xs.length*e.sz<=cap*e.sz:=Nat.mul_le_mul_right _ hcp
 obtain⟨Hd,R,hcur,hH⟩:∃Hd R,cur.toList=Hd++(cellsOf e l++(e.enc x0++(cellsOf e tl++R)))∧Hd.length=off:=by
  refine⟨cur.toList.take off,(cur.toList.drop off).drop (xs.length*e.sz),?_,by simp;omega⟩
  have e1:cellsOf e l++(e.enc x0++(cellsOf e tl++(cur.toList.drop off).drop (xs.length*e.sz)))=cur.toList.drop off:=by
   have:cellsOf e l++(e.enc x0++(cellsOf e tl++(cur.toList.drop off).drop (xs.length*e.sz)))=cellsOf e xs++(cur.toList.drop off).drop (xs.length*e.sz):=by rw[hcells];simp
   rw[this,<-ht,List.take_append_drop]
  rw[e1,List.take_append_drop]
 have hsize:cur.size=cur.toList.length:=by simp
 have hp1:cur.toList.take (off+(i.toNat*e.sz+o))=Hd++(cellsOf e l++(e.enc x0).take o):=by
  have:cur.toList=(Hd++(cellsOf e l++(e.enc x0).take o))++((e.enc x0).drop o++(cellsOf e tl++R)):=by
   rw[hcur,List.append_assoc,List.append_assoc,<-List.append_assoc ((e.enc x0).take o),List.take_append_drop]
  rw[this]
  exact List.take_left' (by simp[hH,eA,eE];omega)
 have hp2:cur.toList.drop (off+(i.toNat*e.sz+o)+us.length)=(e.enc x0).drop (o+us.length)++(cellsOf e tl++R):=by
  have:cur.toList=(Hd++(cellsOf e l++(e.enc x0).take (o+us.length)))++((e.enc x0).drop (o+us.length)++(cellsOf e tl++R)):=by
   rw[hcur,List.append_assoc,List.append_assoc,<-List.append_assoc ((e.enc x0).take (o+us.length)),List.take_append_drop]
  rw[this]
  exact List.drop_left' (by simp[hH,eA,eE];omega)
 have hbound:(i.toNat+1)*e.sz<=xs.length*e.sz:=Nat.mul_le_mul_right _ (by omega)
 have hb2:(i.toNat+1)*e.sz=i.toNat*e.sz+e.sz:=by rw[Nat.add_mul,Nat.one_mul]
 have hfit:off+(i.toNat*e.sz+o)+0+us.length<=cur.size:=by omega
 have hst:=run_storeCells_at P b (off+(i.toNat*e.sz+o)) T' us 0 cur w hbk hfit (fun u hu=>oH (List.all_eq_true.1 h1u u hu))
 simp only[Nat.add_zero]at hst
 have hsz:(cZ.ok hT).run_size w=(cZ.ok hT).run_size w:=rfl
 have hrun:(execOp a.eval ⟨none,.store T x y,ty,pos,aft,none⟩).run P w = .ok .skip (w.setRow b (cur.toList.take (off+(i.toNat*e.sz+o))++us++cur.toList.drop (off+(i.toNat*e.sz+o)+us.length)).toArray):=by
  simp[execOp,s.eval hx,s.eval hy,Av,Fz,Instr.storeAt,Instr.sureAddr,storeVar,hu,(cZ.ok hT).run_size w,eF,hst]
 simp only[Oper.wp,hrun,Oper.upon]
 refine⟨(),trivial,?_⟩
 refine DO hoo hO hLL hf rfl rfl rfl (by simp) (fun k _ hk'=>setRow_other w b k _ (fun e=>hk' (by subst e;exact hFb))) (F':=FF j) ?_ (fun k hk=> .inl hk)
 have hlen2:(e.enc yv).length=e.sz:=e.len yv
 refine⟨by simpa using h0,?_,.inr ⟨b,off,cap,T',_,by simp,hFb,setRow_heap w b _ _ T' _ hbk,by simpa using hcp,?_,?_⟩⟩
 ·rw[hset]
  rw[hcells]at hone
  simp only[List.all_append,Bool.and_eq_true]at hone ⊢
  refine⟨hone.1,?_,hone.2.2⟩
  rw[hyv]
  simp only[List.all_append,Bool.and_eq_true]
  refine⟨⟨List.all_eq_true.2 fun u hu=>List.all_eq_true.1 hone.2.1 u (List.mem_of_mem_take hu),h1u⟩,List.all_eq_true.2 fun u hu=>List.all_eq_true.1 hone.2.1 u (List.mem_of_mem_drop hu)⟩
 ·simp only[List.size_toArray,List.length_append,List.length_take,List.length_drop]
  omega
 ·show((cur.toList.take _++us++cur.toList.drop _).drop off).take ((xs.set i.toNat yv).length*e.sz)=_
  rw[hp1,hp2,hset,hyv,List.length_set]
  have e3:(Hd++(cellsOf e l++(e.enc x0).take o)++us++((e.enc x0).drop (o+us.length)++(cellsOf e tl++R)))=Hd++((cellsOf e l++(((e.enc x0).take o++us++(e.enc x0).drop (o+us.length))++cellsOf e tl))++R):=by simp
  rw[e3,<-hH,List.drop_left]
  refine List.take_left' ?_
  have hT2:(cellsOf e tl).length=tl.length*e.sz:=eJ e tl
  have hxl:xs.length=i.toNat+1+tl.length:=by rw[hxs,<-hl];simp;omega
  rw[hyv]at hlen2
  rw[List.length_append,List.length_append,hlen2,eA,hT2,hxl,Nat.add_mul,Nat.add_mul,Nat.one_mul]
  omega
end
end
end Go.Sx
end
section
namespace Go.Sx
section
variable {P:Program} {M L:List aU} {α β γ:Type} {r:eQ α} {s:eQ γ} {q:eQ β}
def eQ.Deep (r:eQ α) (q:eQ β) (f:α->Value×List β):Prop:=∀{w S es x},r.R w S es x->AO q w S (f x).1 (f x).2
theorem zM (q:eQ β):(eQ.sl q).Deep q (fun x=>x):=fun h=>h.2
theorem Mq {f:α->Value×List β} (h:r.Deep q f):(r.pair s).Deep q (fun x=>f x.1):=by
 rintro w S es x ⟨c1,c2,rfl,h1,_⟩
 exact h h1
theorem Ap {f:α->Value×List β} (h:r.Deep q f):(s.pair r).Deep q (fun x=>f x.2):=by
 rintro w S es x ⟨c1,c2,rfl,_,h1⟩
 exact h h1
theorem qV [Inhabited α] {v:Value} {xs:List α} {i:Int} {f:α->Value×List β} (h:aG M L (Sl r v xs)) (hd:r.Deep q f) (h0:0<=i) (h1:i<xs.length):aG M L (Sl q (f (at' xs i)).1 (f (at' xs i)).2):=h.mono fun {w U} hs=>by
 obtain⟨es,hr,_⟩:=sl_cell hs (jQ h0 h1)
 exact hd hr
theorem Kd [cZ P] {c:r_} {n:Sz} {σ:Fr} {d:Option Tmp} {ty:TypeId} {pos:String} {aft:Array Edge} {g:Option (Nat×Bool)} {T E:TypeId} {s1 s2 s3 s4 m b:Nat} {z z':Value} {dE:TypeDesc} {x hi:Operand} {k:Int} (hx:ev σ x=some (.pointer (some ⟨b,0,none⟩))) (hhi:ev σ hi=some (.int .i64 k))
  (hT:cZ.tab P T=some ⟨.array m E,s1,s2,z⟩) (hE:cZ.tab P E=some ⟨dE,s3,s4,z'⟩) {q:Int} (h:0<=k∧k<=((m:Nat):Int)∧k<=q):Y P c n σ M L ⟨d,.slice T x none (some hi) none,ty,pos,aft,g⟩ (.slice (some ⟨b,0,none⟩) k.toNat m):=fun a w s t=>by
 have h1:0<=k∧k<=(m:Int):=⟨h.1,h.2.1⟩
 simp[execOp,s.eval hx,s.eval hhi,Instr.sliceAt,Instr.slice,(cZ.ok hT).run_und w,Instr.sliceBounds,Instr.sliceBound,asIntOf,(cZ.ok hE).run_size w,h1,asAddr,Addr.add,Instr.sureAddr]
theorem NJ {e:dH α} {i b T m:Nat} {k:Int} {xs:List α} (hM:M[i]? = some (cR b (cellsOf e xs) T)) (hfit:e.Fits r) (h:0<=k∧k<=((m:Nat):Int)∧k<=(xs.length:Int)) (hmax:m<=9223372036854775807):aG M L (Sl r (.slice (some ⟨b,0,none⟩) k.toNat m) (xs.take k.toNat)):=fun w S T U hL hM' hS hT=>by
 have hB:=hM' i _ hM
 have hl:(xs.take k.toNat).length=k.toNat:=by simp;omega
 refine⟨some ⟨b,0,none⟩,m,by rw[hl],by rw[hl];omega,.inr ⟨b,0,rfl,hT _ _ hB.1,fun j x hx=> ?_⟩⟩
 have hx':xs[j]? = some x:=by
  rw[List.getElem?_take]at hx
  split at hx
  ·exact hx
  ·cases hx
 obtain⟨hsz,he,hr,_⟩:=hfit
 refine⟨e.enc x,fun q u hu=> ?_,hr⟩
 have hc:=wK e xs _ _ hx' _ _ hu
 rw[hsz,Nat.zero_add]
 exact cR.cell hB hc
def eQ.All (r:eQ α) (n:Nat) (g:α->List Value):Prop:=r.sz=n∧∀{w S es x},r.R w S es x->es=g x
theorem JY {e:dH α} (h:e.Fits r):r.All e.sz e.enc:=⟨h.1,h.2.1⟩
theorem JZ (q:eQ β):(eQ.sl q).All 1 (fun x=>[x.1]):=⟨rfl,fun h=>h.1⟩
theorem GU {n m:Nat} {f:α->List Value} {g:γ->List Value} (h:r.All n f) (k:s.All m g):(r.pair s).All (n+m) (fun x=>f x.1++g x.2):=⟨by show r.sz+s.sz=_;rw[h.1,k.1],by
 rintro w S es x ⟨c1,c2,rfl,h1,h2⟩
 rw[h.2 h1,k.2 h2]⟩
theorem Kb [cZ P] [Inhabited α] {c:r_} {n:Sz} {σ:Fr} {d:Option Tmp} {ty:TypeId} {pos:String} {aft:Array Edge} {g:Option (Nat×Bool)} {T:TypeId} {s2 q m:Nat} {z:Value} {dT:TypeDesc} {x:Operand} {v:Value} {i:Int} {xs:List α} {cs:List Value} {f:α->List Value} (hx:ev σ x=some (Av v (i.toNat*q))) (hf:aG M L (Sl r v xs)) (hD:r.All m f) (hcs:f (at' xs i)=cs)
  (hT:cZ.tab P T=some ⟨dT,cs.length,s2,z⟩) (hd:tR dT=true) (hq:m=q) (h:0<=i∧i<xs.length):Y P c n σ M L ⟨d,.load T x,ty,pos,aft,g⟩ (.agg cs.toArray):=fun a w s t=>by
 obtain⟨h0,h1⟩:=h
 obtain⟨S,h⟩:=hf.st t
 obtain⟨es,hr,hes⟩:=sl_cell h (jQ h0 h1)
 have:=hD.2 hr
 subst this hcs
 rw[hD.1,hq]at hes
 have:=wP (w:=w) (A:=Fz v (i.toNat*q)) (cs:=f (at' xs i)) (cZ.ok hT) hd rfl (fun j u hu=>by rw[DR];exact hes j u hu)
 simp[execOp,s.eval hx,Av,this]
end
end Go.Sx
end
section
namespace Go.Sx
open Go.RowKit
section
section
variable {P:Program} {c:r_} {n:Sz} {σ:Fr} {M L:List aU} {d:Option Tmp} {ty:TypeId} {pos:String} {aft:Array Edge} {g:Option (Nat×Bool)}
def VC (v:Value) (m:Nat):Prop:=∃a cap,v = .slice a m cap∧(m=0∨∃b off,a=some ⟨b,off,none⟩)
theorem Know.len {α:Type} {r:eQ α} {v:Value} {xs:List α} (hf:aG M L (Sl r v xs)):∀c w,St c M L w->VC v xs.length:=fun c w t=>by
 obtain⟨S,a',cap,hv,_,h⟩:=hf.st t
 exact⟨a',cap,hv,h.imp (fun h=>by simp[h]) fun⟨b,off,e,_⟩=>⟨b,off,e⟩⟩
theorem mC [cZ P] {T E:TypeId} {s1 s2 s3 s4 m:Nat} {z z':Value} {dE:TypeDesc} {x y:Operand} {v:Value} {i:Int} (hx:ev σ x=some v) (hy:ev σ y=some (.int .i64 i)) (hv:VC v m)
  (hT:cZ.tab P T=some ⟨.slice E,s1,s2,z⟩) (hE:cZ.tab P E=some ⟨dE,s3,s4,z'⟩) (h:0<=i∧i<(m:Int)):Y P c n σ M L ⟨d,.indexAddr T x y,ty,pos,aft,g⟩ (Av v (i.toNat*s3)):=fun a w st t=>by
 obtain⟨a',cap,rfl,hv⟩:=hv
 obtain⟨h0,h1⟩:=h
 rcases hv with rfl|⟨b,off,rfl⟩
 ·omega
 ·simp[execOp,st.eval hx,st.eval hy,Dc w (cZ.ok hT) rfl (cZ.ok hE) b off _ cap i h0 h1]
theorem vM {α:Type} [Inhabited α] (l:List α) (k:Int) (h:k.toNat<l.length) (h0:0<=k):l.set k.toNat (at' l k)=l:=by
 have:=jQ (xs:=l) h0 (by omega)
 refine List.ext_getElem? fun i=> ?_
 by_cases e:k.toNat=i
 ·subst e
  rw[List.getElem?_set_self h,this]
 ·rw[List.getElem?_set_ne e]
theorem zL [cZ P] {α:Type} [Inhabited α] {e:dH α} (j:Nat) {T:TypeId} {s2 m o q:Nat} {z:Value} {dT:TypeDesc} {x y:Operand} {u:Value} {us:List Value} {i k:Int} {vs:List Value} {xss:List (List α)} (yv:α) (hk:0<=k∧k<xss.length) (h:0<=i∧i<(at' xss k).length) (hx:ev σ x=some (Av (at' vs k) (i.toNat*q+o))) (hy:ev σ y=some u)
  (hf:M[j]? = some (fI e vs xss)) (hq:e.sz=q) (hu:u.cells=us.toArray) (hm:us.length=m) (ho:Nat.ble (o+m) q=true) (hyv:e.enc yv=(e.enc (at' (at' xss k) i)).take o++us++(e.enc (at' (at' xss k) i)).drop (o+m)) (h1u:us.all one=true) (hT:cZ.tab P T=some ⟨dT,m,s2,z⟩):
  aN P c n σ M L ⟨none,.store T x y,ty,pos,aft,none⟩ (fun _:Unit=>undef) (fun _=>M.set j (fI e vs (xss.set k.toNat ((at' xss k).set i.toNat yv)))) (fun _=>L):=fun a w s t=>by
 have hl:=bF j hf c w t
 have hj:j<M.length:=(List.getElem?_eq_some_iff.1 hf).1
 refine lG (fun a' w' ⟨x,he,ht⟩=>⟨x,he,?_⟩) (H_ 0 yv h hx hy rfl hq hu hm ho hyv h1u hT a w s (Ik j hf hk c w t))
 have hb:=Ii (j+1) 0 (u:=at' vs k) (k:=k) (vs:=vs) (xss:=xss) (ys:=(at' xss k).set i.toNat yv) (e:=e) rfl (by simp[hj]) rfl (by simpa using hk) c w' ht
 simp only[List.set_cons_zero,List.set_cons_succ,List.eraseIdx_cons_zero,List.set_set]at hb
 rw[vM vs k (by omega) hk.1]at hb
 exact hb
end
theorem aT.ix {M M':List aU} (l:List Nat) (hn:decide l.Nodup=true) (h:l.map (fun i=>M[i]?)=M'.map some):aT M M':=by
 have hn:l.Nodup:=of_decide_eq_true hn
 have hl:l.length=M'.length:=by simpa using congrArg List.length h
 refine⟨fun i=>l.getD i 0,fun i j hi hj e=> ?_,fun i m hm=> ?_⟩
 ·have h1:i<l.length:=by omega
  have h2:j<l.length:=by omega
  simp only[List.getD_eq_getElem?_getD,List.getElem?_eq_getElem h1,List.getElem?_eq_getElem h2,Option.getD_some]at e
  exact(List.getElem_inj hn).1 e
 ·have hi:i<l.length:=by rw[hl];exact(List.getElem?_eq_some_iff.1 hm).1
  have:=congrArg (fun q=>q[i]?) h
  simp only[List.getElem?_map,List.getElem?_eq_getElem hi,hm,Option.map_some,Option.some.injEq]at this
  simpa [List.getD_eq_getElem?_getD,List.getElem?_eq_getElem hi]using this
def dH.fn:dH Nat:=⟨1,Nat.one_pos,fun f=>[.func (.func f) #[] #[]],fun _=>rfl⟩
def eQ.fn:eQ Nat:=⟨1,Nat.one_pos,fun _ _ cs x=>cs=[.func (.func x) #[] #[]],fun h=>by simp[h],fun h _=>h⟩
theorem HW:dH.fn.Fits eQ.fn:=⟨rfl,fun h=>h,rfl,fun _=>rfl⟩
end
section
variable {P:Program} {rd:Option Nat} {c:r_} {n:Sz} {σ:Fr} {M L:List aU} {Q:Exit->Act->World->Prop} {ops:Array Oper} {rest:List Oper} {d:Nat} {ty:TypeId} {pos:String} {aft:Array Edge} {x y:Operand} {v:Value} {K:Act->World->Prop}
abbrev vS (x:ByteArray):Value:= .string x
abbrev vB (x:Bool):Value:= .bool x
theorem eM {β:Type} {p G:Prop} {_:Decidable p} {u:Option β} {r:β} (h:ck p u=some r) (k:p->u=some r->G):G:=k (Lk h).1 (Lk h).2
theorem gK {β γ:Type} {G:Prop} {u:Option β} {f:β->Option γ} {r:γ} (h:u.bind f=some r) (k:∀y,u=some y->f y=some r->G):G:=by
  obtain⟨y,h1,h2⟩:=bnd h
  exact k y h1 h2
theorem pJ (l:List Nat) {L0:List aU} (h:l.map (L[·]?)=L0.map some):aH M L L0:=fun f hf=>by
  have hm:some f∈l.map (L[·]?):=h▸List.mem_map_of_mem hf
  obtain⟨j,_,hj⟩:=List.mem_map.1 hm
  exact aG.fact j hj
theorem uE.ix (l:List Nat) {L0:List aU} (h:l.map (L[·]?)=L0.map some):uE L L0:=fun f hf=>by
  have hm:some f∈l.map (L[·]?):=h▸List.mem_map_of_mem hf
  obtain⟨j,_,hj⟩:=List.mem_map.1 hm
  exact List.mem_of_getElem? hj
theorem q_ {f:aU} (i:Nat) (h:L[i]? = some f):uE L [f]:=uE.cons (List.mem_of_getElem? h) uE.nil
/-- which of the early loads must still hold,with the numbers of what they have read -/
def Ut (A:Nat->Bool):List (List Nat×List Nat)->List (Nat×List aU×List aU)->List (List Nat×List Nat×List aU×List aU)
  |_,[]=>[]
  |q,(j,Mx,Lx)::B=>bif A j||(Mx.isEmpty&&Lx.isEmpty)then Ut A q B else((q.headD ([],[])).1,(q.headD ([],[])).2,Mx,Lx)::Ut A q.tail B
theorem tM {A:Nat->Bool} (q:List (List Nat×List Nat)) {B:List (Nat×List aU×List aU)} (h:(Ut A q B).map (fun z=>(decide z.1.Nodup,z.1.map (M[·]?),z.2.1.map (L[·]?)))=(Ut A q B).map (fun z=>(true,z.2.2.1.map some,z.2.2.2.map some))):xD A M L B:=by
  induction B generalizing q with
  |nil=>exact xD.z
  | cons b B ih =>
    obtain⟨j,Mx,Lx⟩:=b
    cases ha:A j with
    |true=>exact xD.b ha (ih q (by simpa [Ut,ha]using h))
    | false =>
      cases he:(Mx.isEmpty&&Lx.isEmpty)with
      | true =>
        obtain⟨e1,e2⟩:=Bool.and_eq_true_iff.1 he
        rw[List.isEmpty_iff]at e1 e2
        subst e1;subst e2
        exact xD.h aT.nil uE.nil (ih q (by simpa [Ut,ha]using h))
      | false =>
        simp only[Ut,ha,he,Bool.or_self,cond_false,List.map_cons,List.cons.injEq,Prod.mk.injEq]at h
        exact xD.h (aT.ix _ h.1.1 h.1.2.1) (uE.ix _ h.1.2.2) (ih q.tail h.2)
def WK (A:Nat->Bool):List (Nat×List aU×List aU)->Bool
  | []=>true
  |(j,_,_)::H=>bif A j then WK A H else false
theorem Yg {A:Nat->Bool} {Mx Lx:List aU} {H:List (Nat×List aU×List aU)} (h:WK A H=true):aI A Mx Lx H:=by
  induction H with
  |nil=>exact aI.z
  | cons b B ih =>
    obtain⟨j,_,_⟩:=b
    cases ha:A j with
    |false=>simp[WK,ha]at h
    |true=>exact aI.b ha (ih (by simpa [WK,ha]using h))
theorem hkN {A:Nat->Bool} {H:List (Nat×List aU×List aU)}:aI A [] [] H:=by
  induction H with
  |nil=>exact aI.z
  |cons b B ih=>exact aI.h aT.nil uE.nil ih
theorem iW {T:Operand} (h:(ev σ T,ev σ x,Nat.blt d n.sz)=(some (.bool true),some v,true)) (k:J c n ((d,v)::σ) M L (wpList P ops Q rest)):J c n σ M L (wpList P ops Q (⟨some d,.pick T x y,ty,pos,aft,none⟩::rest)):=by
  simp only[Prod.mk.injEq]at h
  exact aE (lS h.1 h.2.1) h.2.2 k
theorem h_ {T:Operand} (h:(ev σ T,ev σ y,Nat.blt d n.sz)=(some (.bool false),some v,true)) (k:J c n ((d,v)::σ) M L (wpList P ops Q rest)):J c n σ M L (wpList P ops Q (⟨some d,.pick T x y,ty,pos,aft,none⟩::rest)):=by
  simp only[Prod.mk.injEq]at h
  exact aE (pW h.1 h.2.1) h.2.2 k
theorem gB {vs:List Value} {i:Nat} (h:(ev σ x,vs[i]?,Nat.blt d n.sz)=(some (.tuple vs.toArray),some v,true)) (k:J c n ((d,v)::σ) M L (wpList P ops Q rest)):J c n σ M L (wpList P ops Q (⟨some d,.extract x i,ty,pos,aft,none⟩::rest)):=by
  simp only[Prod.mk.injEq]at h
  exact aE (xH h.1 h.2.1) h.2.2 k
theorem sD {t t':TypeId} {i:IntKind} {p q:Int} (h:(ev σ x,ev σ y,Nat.blt d n.sz)=(some (.int i p),some (.int i q),true)) (k:J c n ((d,.bool (decide (p≠q)))::σ) M L (wpList P ops Q rest)):J c n σ M L (wpList P ops Q (⟨some d,.binOp .neq t x y t',ty,pos,aft,none⟩::rest)):=by
  simp only[Prod.mk.injEq]at h
  exact aE (tF h.1 h.2.1) h.2.2 k
theorem PS {t t':TypeId} {i:IntKind} {p q:Int} (h:(ev σ x,ev σ y,Nat.blt d n.sz)=(some (.int i p),some (.int i q),true)) (k:J c n ((d,.int i (uV i p q))::σ) M L (wpList P ops Q rest)):J c n σ M L (wpList P ops Q (⟨some d,.binOp .and t x y t',ty,pos,aft,none⟩::rest)):=by
  simp only[Prod.mk.injEq]at h
  exact aE (Tg h.1 h.2.1) h.2.2 k
theorem mS [cZ P] {α:Type} {r:eQ α} {T E:TypeId} {s1 s2:Nat} {z:Value} {xs:List α} (hf:aG M L (Sl r v xs)) (h:(ev σ x,cZ.tab P T,Nat.blt d n.sz)=(some v,some ⟨.slice E,s1,s2,z⟩,true)) (k:J c n ((d,.int .i64 xs.length)::σ) M L (wpList P ops Q rest)):J c n σ M L (wpList P ops Q (⟨some d,.call ⟨.builtin .len,#[x],#[T]⟩,ty,pos,aft,none⟩::rest)):=by
  simp only[Prod.mk.injEq]at h
  exact aE (kQ h.1 hf h.2.1) h.2.2 k
variable {l:List Oper} {m:List Nat} {k0:Nat} {H Bs:List (Nat×List aU×List aU)} {rs:List Nat}
theorem mP {i dd:Nat} {op:Op} (hi:l[i]? = some ⟨some dd,op,ty,pos,aft,none⟩) (hy:Y P c n σ [] [] ⟨some dd,op,ty,pos,aft,none⟩ v)
    (h:JR c n ((dd,v)::σ) M L H ((i,[],[])::Bs) (RW P l.toArray Q (before m) (cP l) k0 rs))
    (hk:Nat.blt i k0=true:=by exact rfl) (hl:dU op=false:=by exact rfl) (hd:Nat.blt dd n.sz=true:=by exact rfl):JR c n σ M L H Bs (RW P l.toArray Q (before m) (cP l) k0 (i::rs)):=bY hi aT.nil uE.nil hy hkN h hk hl hd
end
end Go.Sx
end
section
namespace Go.Sx
section
abbrev bW:=List Int
abbrev eP:=List (Int×Int)
abbrev bP:=List bW
abbrev eT:=List eP
abbrev qT:=ByteArray×(List (ByteArray×Int×Int×Int×Int×Int))×(List (ByteArray×(Value×eP)×(Value×List (Int×(Value×eP)))))
abbrev De:=(ByteArray×(List (ByteArray×Int×Int×Int×Int×Int))×(List (ByteArray×(Value×eP)×(Value×List (Int×(Value×eP))))))×((ByteArray×(List (ByteArray×Int×Int×Int×Int×Int))×(List (ByteArray×(Value×eP)×(Value×List (Int×(Value×eP))))))×(bW×eT)×Int×bP)×eT
abbrev HS:=((ByteArray×(List (ByteArray×Int×Int×Int×Int×Int))×(List (ByteArray×(Value×eP)×(Value×List (Int×(Value×eP))))))×(bW×eT)×Int×bP)×bP×Int×eP
abbrev No:=(ByteArray×(List (ByteArray×Int×Int×Int×Int×Int))×(List (ByteArray×(Value×eP)×(Value×List (Int×(Value×eP))))))×(bW×eT)×Int×bP
abbrev FM:=ByteArray×List (ByteArray×Int×Int×Int×Int×Int)×List (eP×List (Int×eP))
abbrev xT:=Int×bW×bW×bW×Bool×Bool
abbrev SS:=(((ByteArray×(List (ByteArray×Int×Int×Int×Int×Int))×(List (ByteArray×(Value×eP)×(Value×List (Int×(Value×eP))))))×(bW×eT)×Int×bP)×bP×Int×eP)
abbrev oZ:=List (Value×eP)
abbrev fR:=bW×eT
abbrev qU:=List (Value×bW)
abbrev eG:=List Value
abbrev Ak:=ByteArray×Int×Int×Int×Int×Int
abbrev fS:=(Nat×Nat)
abbrev Dv:=List (ByteArray×Int×Int×Int×Int×Int)
abbrev iC:=(Int×Int)
abbrev oL:=((bW×eT))
abbrev gC:=Int×Int
abbrev Dw:=Int×(List ((Int×Int)×Int))
abbrev Jn:=List ((Nat×Nat)×eP×List (Int×eP))
abbrev Gy:=(Int×(List ((Int×Int)×Int)))
abbrev rC:=Int×bP
abbrev v_:=(bP×Int)
abbrev wS:=(bW×Int)
abbrev Cu:=(Int×Int×bP)
abbrev zC:=(bW×eT)
abbrev Dx:=Value×List Value
abbrev Cv:=Int×Int×bP
abbrev Ql:=Nat×Nat×Value×List Value×Value×List Value
abbrev Jo:=Value×Value×List Value
abbrev Al:=(Int×bP)
end
section
abbrev lQ:Value:=Value.slice none 0 0
abbrev Qu:List Value:=[vI (0:Int),vI (0:Int)]
abbrev vD1:List Value:=[vS (ByteArray.mk #[]),vI (0:Int),vI (0:Int),vI (0:Int),vI (0:Int),vI (0:Int)]
end
end Go.Sx
end
section
namespace Go.Proofs.YtlciiihigmgaiaaGreat
open Go.Sx
section
abbrev ESt:dH ByteArray:=⟨1,Nat.one_pos,fun x=>[.string x],fun _=>rfl⟩
abbrev XV:eQ ByteArray:=⟨1,Nat.one_pos,fun _ _ cs x=>cs=[.string x],fun h=>by simp[h],fun h _=>h⟩
theorem FSt:ESt.Fits XV:=⟨rfl,fun h=>h,rfl,fun _=>rfl⟩
abbrev cB:dH Int:=dH.int .i64
abbrev bT:eQ Int:=eQ.int .i64
theorem cU:cB.Fits bT:=GK .i64
theorem dJ:bT.Cell 0 (fun x=> .int .i64 x):=GW .i64
abbrev AM:dH (ByteArray×Int×Int×Int×Int×Int):=dH.pair ESt (dH.pair cB (dH.pair cB (dH.pair cB (dH.pair cB (cB)))))
abbrev aD:eQ (ByteArray×Int×Int×Int×Int×Int):=eQ.pair XV (eQ.pair bT (eQ.pair bT (eQ.pair bT (eQ.pair bT (bT)))))
theorem tZ:AM.Fits aD:=lK FSt (lK cU (lK cU (lK cU (lK cU (cU)))))
theorem sB:aD.Cell 1 (fun x=> .int .i64 x.2.1):=cM (l_ (dJ))
theorem zD:aD.Cell 2 (fun x=> .int .i64 x.2.2.1):=cM (cM (l_ (dJ)))
theorem zE:aD.Cell 3 (fun x=> .int .i64 x.2.2.2.1):=cM (cM (cM (l_ (dJ))))
theorem zF:aD.Cell 4 (fun x=> .int .i64 x.2.2.2.2.1):=cM (cM (cM (cM (l_ (dJ)))))
theorem zG:aD.Cell 5 (fun x=> .int .i64 x.2.2.2.2.2):=cM (cM (cM (cM (cM (dJ)))))
abbrev bX:dH iC:=dH.pair cB (cB)
abbrev bM:eQ iC:=eQ.pair bT (bT)
theorem bN:bX.Fits bM:=lK cU (cU)
theorem xY:bM.Cell 0 (fun x=> .int .i64 x.1):=l_ (dJ)
theorem JW:bM.Cell 1 (fun x=> .int .i64 x.2):=cM (dJ)
abbrev nH:eQ (Int×(Value×eP)):=eQ.pair bT ((eQ.sl bM))
theorem FB:nH.All 2 (fun x=>[Value.int .i64 (x.1),x.2.1]):=(GU (JY cU) (JZ bM))
theorem yY:nH.Deep bM (fun x=>x.2):=Ap (zM bM)
abbrev aB:eQ (ByteArray×(Value×eP)×(Value×List (Int×(Value×eP)))):=eQ.pair XV (eQ.pair (eQ.sl bM) ((eQ.sl nH)))
theorem uB:aB.Cell 1 (fun x=>x.2.1.1):=cM (l_ (eQ.sl_cell bM))
theorem uD:aB.Deep bM (fun x=>x.2.1):=Ap (Mq (zM bM))
theorem uC:aB.Cell 2 (fun x=>x.2.2.1):=cM (cM (eQ.sl_cell nH))
theorem fC:aB.Deep nH (fun x=>x.2.2):=Ap (Ap (zM nH))
abbrev EFn:dH Nat:=dH.fn
abbrev RFn:eQ Nat:=eQ.fn
theorem FFn:EFn.Fits RFn:=HW
abbrev DJ:dH (Int×Nat):=dH.pair cB (EFn)
abbrev QZ:eQ (Int×Nat):=eQ.pair bT (RFn)
theorem wF:DJ.Fits QZ:=lK cU (FFn)
abbrev Vy:dH Bool:=dH.bool
def Js (x:Int):Value:=Value.int .i64 (x)
def kG (x:gC):Value:=Value.agg #[Value.int .i64 (x.1),Value.int .i64 (x.2)]
theorem O_ (x y:gC) (m:Nat) (w:World):(Op.equalIn (m+2) 138 (.agg #[.int .i64 x.1,.int .i64 x.2]) (.agg #[.int .i64 y.1,.int .i64 y.2])).run Tryz.prog w = .ok (decide (x=y)) w:=by
 have h3:∀a b:Int,(Op.equalIn (m+1) 3 (.int .i64 a) (.int .i64 b)).run Tryz.prog w = .ok (a==b) w:=by
  intro a b
  simp[Op.equalIn]
 unfold Op.equalIn
 simp[show List.range' 0 2=[0,1]from rfl,part,isAgg,h3]
 obtain⟨a0,a1⟩:=x
 obtain⟨c0,c1⟩:=y
 by_cases e0:a0=c0<;>by_cases e1:a1=c1<;>simp[e0,e1,h3]
theorem Ot (b:Bool) (k:gC) (w:World):(Instr.checkKey b 10000 138 (kG k)).run Tryz.prog w = .ok () w:=by
 have key:∀m:Nat,(Instr.checkKey b (m+2) 138 (kG k)).run Tryz.prog w = .ok () w:=by
  intro m
  simp[Instr.checkKey,kG,part,isAgg,show List.range' 0 2=[0,1]from rfl]
 exact key 9998
theorem Ht:Ek Tryz.prog 138 kG:=JN Tryz.underlying138 Ot (fun _ _=>rfl) (fun a b w=>O_ a b 9998 w) (fun k=>by
 have key:∀m:Nat,Instr.sameBits (m+2) (kG k) (kG k)=true:=fun m=>by simp[Instr.sameBits,kG]
 exact key 9998)
theorem u_ (u0:Value) (h0:one u0=true) (init:Array Value) (h:init.size=1*1):Instr.fill (fun i=>some (i*1,1)) init [(0,u0)]=some [u0].toArray:=by
 obtain⟨l⟩:=init
 match l,h with
 | [z0],_=>simp[Instr.fill,kX h0]
theorem tI (u0 u1:Value) (init:Array Value) (h:init.size=1*2):Instr.fill (fun i=>some (i*2,2)) init [(0,.agg #[u0,u1])]=some [u0,u1].toArray:=by
 obtain⟨l⟩:=init
 match l,h with
 | [z0,z1],_=>simp[Instr.fill,Value.cells]
theorem OJ (u0 u1 u2 u3 u4 u5:Value) (init:Array Value) (h:init.size=3*2):Instr.fill (fun i=>some (i*2,2)) init [(0,.agg #[u0,u1]),(1,.agg #[u2,u3]),(2,.agg #[u4,u5])]=some [u0,u1,u2,u3,u4,u5].toArray:=by
 obtain⟨l⟩:=init
 match l,h with
 | [z0,z1,z2,z3,z4,z5],_=>simp[Instr.fill,Value.cells]
end
section
def tD (p0:Int) (a2:Bool):Option (Int):=
 if a2=true then(some (-1:Int))else(if p0<=(17:Int)then(some (0:Int))else(if p0<=(29:Int)then(some (1:Int))else(if p0<=(42:Int)then(some (2:Int))else(some (3:Int)))))
def rT (U:Nat) (p0:Int):Option (Int):=
 if p0<(1:Int)then(tD p0 (true))else(tD p0 (decide ((43:Int)<p0)))
theorem Rk:a_ Tryz.prog 106:=Tryz.call106
theorem HQ (U:Nat) {p0:Int} (r:Int) (h:rT U p0=some r):
  bJ Tryz.prog 106 #[vI (p0)] [] (fun x:Unit=>vI (r)) (fun x l=>l) (fun _ l=>l):=by
 refine bJ.of Tryz.func106 rfl Tryz.ntmps106 rfl fun c=>?_
 refine aX<|aF rfl<|aP<|aM<|aY<|aM<|kF (fun a2=>tD p0 a2=some r) (fun a2 b3=>[(0,vI (p0)),(3,vB (a2))]) (fun a2 b3=>[]) ?_ ?_
 ·refine aS<|aA rfl<|eD rfl<|aA rfl ?_
  refine Dz h rfl (fun _ h=>?_) fun _ h=>?_
  ·refine aQ rfl<|aQ rfl<|iW rfl<|aF rfl<|aP ?_
   exact jO (true) () h SF rfl
  refine dQ rfl<|aR rfl (BO rfl rfl) rfl<|h_ rfl<|aF rfl<|aP ?_
  exact jO (decide ((43:Int)<p0)) () h SF rfl
 intro a2 b3 h
 refine AQ h rfl (fun _ h=>?_) fun _ h=>?_
 ·refine aX<|aF rfl<|aP<|aW<|cA<|aL ?_
  cases h
  exact mN rfl
 refine aX<|aA rfl<|aE (BP rfl rfl) rfl<|aF rfl<|aP ?_
 refine gP h rfl (fun h=>?_) fun h=>?_
 ·refine aX<|aF rfl<|aP<|aW<|cA<|aL ?_
  cases h
  exact mN rfl
 refine aX<|aA rfl<|aE (BP rfl rfl) rfl<|aF rfl<|aP ?_
 refine gP h rfl (fun h=>?_) fun h=>?_
 ·refine aX<|aF rfl<|aP<|aW<|cA<|aL ?_
  cases h
  exact mN rfl
 refine aX<|aA rfl<|aE (BP rfl rfl) rfl<|aF rfl<|aP ?_
 refine gP h rfl (fun h=>?_) fun h=>?_
 ·refine aX<|aF rfl<|aP<|aW<|cA<|aL ?_
  cases h
  exact mN rfl
 refine f_<|qB<|aX<|aF rfl<|aP<|aW ?_
 cases h
 exact mN rfl
end
section
def Aj  (a5:Unit):Option (Int):=
 some (-1:Int)
def jG (U:Nat) (p0:eP) (a10:gC) (ag9:iC->Option (Int)):Option (Int):=
 if a10.1<(List.length p0:Int)then(ck (0<=a10.1∧a10.1<(List.length p0:Int)) (Option.bind (rT U ((at' p0 a10.1).1)) fun r15=>(if r15<(0:Int)then(some (-1:Int))else(if(wI .i64 (a10.2+(wI .i64 (r15 - (1:Int)))))=(0:Int)then(some (wI .i64 (a10.1+(1:Int))))else(ag9 ((wI .i64 (a10.1+(1:Int))),(wI .i64 (a10.2+(wI .i64 (r15 - (1:Int)))))))))))else(Aj  (()))
def wR (U:Nat) (p0:eP) (p1:Int) (a2:Bool):Option (Int):=
 if a2=true then(some (-1:Int))else(bZ (jG U p0) U (p1,(1:Int)))
def yL (U:Nat) (p0:eP) (p1:Int):Option (Int):=
 if p1<(0:Int)then(wR U p0 p1 (true))else(wR U p0 p1 (decide ((List.length p0:Int)<=p1)))
theorem Up:a_ Tryz.prog 75:=Tryz.call75
theorem KP (U:Nat) {p0:eP} {p1:Int} (v0:Value) (r:Int) (h:yL U p0 p1=some r):
  bJ Tryz.prog 75 #[v0,vI (p1)] [Sl bM v0 p0] (fun x:Unit=>vI (r)) (fun x l=>l) (fun _ l=>l):=by
 refine bJ.of Tryz.func75 rfl Tryz.ntmps75 rfl fun c=>?_
 refine aX<|aF rfl<|aP<|aM<|aM<|kF (fun a2=>wR U p0 p1 a2=some r) (fun a2 b3=>[(0,v0),(1,vI (p1)),(14,vB (a2))]) (fun a2 b3=>[]) ?_ ?_
 ·refine aS<|aA rfl<|eD rfl<|aA rfl ?_
  refine Dz h rfl (fun _ h=>?_) fun _ h=>?_
  ·refine aQ rfl<|aQ rfl<|aQ rfl<|aQ rfl<|iW rfl<|aP ?_
   exact jO (true) () h SF rfl
  refine dQ rfl<|dQ rfl<|aR rfl (kQ rfl (aG.fact 0 rfl) rfl) rfl<|aR rfl (Dj rfl rfl) rfl<|h_ rfl<|aP ?_
  exact jO (decide ((List.length p0:Int)<=p1)) () h SF rfl
 intro a2 b3 h
 refine AQ h rfl (fun _ h=>?_) fun _ h=>?_
 ·refine aX<|aF rfl<|aP<|aW<|aL ?_
  cases h
  exact mN rfl
 refine eL<|aM<|kF (fun a5=>Aj  a5=some r) (fun a5 b6=>[]) (fun a5 b6=>[]) ?_ ?_
 ·refine aX<|aF rfl<|aP<|aY<|hJ (jG U p0) (fun a10 b11=>[(0,v0),(1,vI (a10.1)),(5,vI (a10.2))]) (fun a10 b11=>[]) (p1,(1:Int)) () h SF (aT.refl _) ?_
  intro k12 a10 b11 h
  refine aM<|aX<|aA rfl<|aA rfl<|mS (aG.fact 0 rfl) rfl<|eD rfl<|aP ?_
  refine gP h rfl (fun h=>?_) fun h=>?_
  ·refine eL<|aM<|aY<|aX<|aA rfl<|aA rfl<|eM h fun j14 h=>aE (bQ rfl rfl (aG.fact 0 rfl) rfl rfl j14) rfl<|aE (mB rfl rfl rfl rfl rfl) rfl<|aE (nQ rfl (aG.fact 0 rfl) rfl rfl rfl xY j14) rfl<|gK h fun r15 w16 h=>aK (aN.callQ Rk (HQ U  r15 w16) rfl .nil) rfl fun x17=>aF rfl<|aP<|aM<|aX<|aA rfl<|eD rfl<|aP ?_
   refine gP h rfl (fun h=>?_) fun h=>?_
   ·refine aX<|aF rfl<|aP<|aW<|aL<|cA<|aL<|aL<|cA<|aL ?_
    cases h
    exact mN rfl
   refine eL<|aX<|aA rfl<|aA rfl<|aE (uU rfl rfl) rfl<|eC rfl<|aF rfl<|aP<|aX<|aA rfl<|dL rfl<|aP ?_
   refine gP h rfl (fun h=>?_) fun h=>?_
   ·refine aX<|aA rfl<|eC rfl<|aF rfl<|aP<|aW<|cA<|aL<|aL<|cA<|aL ?_
    cases h
    exact mN rfl
   refine f_<|qB<|aS<|aA rfl<|eC rfl<|aF rfl<|aP ?_
   exact BF ((wI .i64 (a10.1+(1:Int))),(wI .i64 (a10.2+(wI .i64 (r15 - (1:Int)))))) () h SF rfl
  refine iV ?_
  exact jO () (()) h SF rfl
 intro a5 b6 h
 unfold Aj at h
 refine aX<|aF rfl<|aP<|aW ?_
 cases h
 exact mN rfl
end
section
def gA (U:Nat) (p0:Bool):Option (Int):=
 if p0=true then(some (1:Int))else(some (0:Int))
theorem sX:a_ Tryz.prog 149:=Tryz.call149
theorem i_ (U:Nat) {p0:Bool} (r:Int) (h:gA U p0=some r):
  bJ Tryz.prog 149 #[vB (p0)] [] (fun x:Unit=>vI (r)) (fun x l=>l) (fun _ l=>l):=by
 refine bJ.of Tryz.func149 rfl Tryz.ntmps149 rfl fun c=>?_
 refine aX<|aF rfl<|aP<|aM<|aX<|aA rfl<|aP ?_
 refine AQ h rfl (fun _ h=>?_) fun _ h=>?_
 ·refine aX<|aF rfl<|aP<|aW<|aL ?_
  cases h
  exact mN rfl
 refine eL<|aX<|aF rfl<|aP<|aW ?_
 cases h
 exact mN rfl
end
section
def oB (U:Nat) (p0:No) (p1:Int) (p2:Int) (p3:Int):Option (Int):=
 if p1=(6:Int)then(some (List.length p0.2.1.1:Int))else(if p1=(7:Int)then(some (p0.2.2.1))else(if p1=(8:Int)then(ck (0<=p2∧p2<(List.length p0.2.1.1:Int)) (some (at' p0.2.1.1 p2)))else(if p1=(9:Int)then(ck (0<=p2∧p2<(List.length p0.2.1.2:Int)) (some (List.length (at' p0.2.1.2 p2):Int)))else(if p1=(10:Int)then(Option.bind (gA U (decide (p2=(0:Int)))) fun r8=>(some (r8)))else(if p1=(11:Int)then(some (p3))else(ck (0<=p2∧p2<(List.length p0.2.1.2:Int)) (ck (0<=p3∧p3<(List.length (at' p0.2.1.2 p2):Int)) (if p1=(13:Int)then(ck (0<=((at' (at' p0.2.1.2 p2) p3).1)∧((at' (at' p0.2.1.2 p2) p3).1)<(List.length p0.2.1.1:Int)) (some (at' p0.2.1.1 ((at' (at' p0.2.1.2 p2) p3).1))))else(if p1=(14:Int)then(ck (0<=((at' (at' p0.2.1.2 p2) p3).1)∧((at' (at' p0.2.1.2 p2) p3).1)<(List.length p0.2.1.2:Int)) (some (List.length (at' p0.2.1.2 ((at' (at' p0.2.1.2 p2) p3).1)):Int)))else(if p1=(15:Int)then(Option.bind (gA U (decide (((at' (at' p0.2.1.2 p2) p3).1)=(0:Int)))) fun r20=>(some (r20)))else(if p1=(16:Int)then(some ((at' (at' p0.2.1.2 p2) p3).2))else(ck (0<=p2∧p2<(List.length p0.2.2.2:Int)) (ck (0<=p3∧p3<(List.length (at' p0.2.2.2 p2):Int)) (some (at' (at' p0.2.2.2 p2) p3)))))))))))))))
theorem Rx:a_ Tryz.prog 148:=Tryz.call148
theorem Ac (U:Nat) {p0:No} {p1:Int} {p2:Int} {p3:Int} (bx0:Nat)  (v1:Value)  (v2:Value)  (v3:Value)  (v4:Value)  (z5:oZ)  (v6:Value)  (z7:qU) (r:Int) (h:oB U p0 p1 p2 p3=some r):
  bJ Tryz.prog 148 #[vP bx0,vI (p1),vI (p2),vI (p3)] [cR bx0 [vS (p0.1.1),v1,v2,v3,v4,vI (p0.2.2.1),v6] 161,Sl aD v1 p0.1.2.1,Sl aB v2 p0.1.2.2,Sl bT v3 p0.2.1.1,S2 bM v4 z5 p0.2.1.2,S2 bT v6 z7 p0.2.2.2] (fun x:Unit=>vI (r)) (fun x l=>l) (fun _ l=>l):=by
 refine bJ.of Tryz.func148 rfl Tryz.ntmps148 rfl fun c=>?_
 refine aX<|aF rfl<|aP<|aM<|aX<|aA rfl<|aP<|aY<|aX<|dL rfl<|aF rfl<|aP ?_
 refine gP h rfl (fun h=>?_) fun h=>?_
 ·refine aX<|aA rfl<|aE (bO rfl) rfl<|cV rfl<|cV rfl<|aE (dO rfl (aG.fact 0 rfl) rfl rfl rfl) rfl<|mS (aG.fact 3 rfl) rfl<|aF rfl<|aP<|aW<|cA<|aL ?_
  cases h
  exact mN rfl
 refine aX<|dL rfl<|aF rfl<|aP ?_
 refine gP h rfl (fun h=>?_) fun h=>?_
 ·refine aX<|aA rfl<|aE (bO rfl) rfl<|cV rfl<|aE (dO rfl (aG.fact 0 rfl) rfl rfl rfl) rfl<|aF rfl<|aP<|aW<|cA<|aL ?_
  cases h
  exact mN rfl
 refine aX<|dL rfl<|aF rfl<|aP ?_
 refine gP h rfl (fun h=>?_) fun h=>?_
 ·refine aX<|aA rfl<|aE (bO rfl) rfl<|cV rfl<|cV rfl<|aE (dO rfl (aG.fact 0 rfl) rfl rfl rfl) rfl<|aA rfl<|eM h fun j4 h=>aE (bQ rfl rfl (aG.fact 3 rfl) rfl rfl j4) rfl<|aE (cF rfl (aG.fact 3 rfl) rfl rfl rfl dJ j4) rfl<|aF rfl<|aP<|aW<|cA<|aL ?_
  cases h
  exact mN rfl
 refine aX<|dL rfl<|aF rfl<|aP ?_
 refine gP h rfl (fun h=>?_) fun h=>?_
 ·refine aX<|aA rfl<|aE (bO rfl) rfl<|cV rfl<|cV rfl<|aE (dO rfl (aG.fact 0 rfl) rfl rfl rfl) rfl<|aA rfl<|eM h fun j6 h=>aE (dK rfl rfl (aG.fact 4 rfl) rfl rfl j6) rfl<|aE (eI rfl (aG.fact 4 rfl) rfl rfl j6) rfl<|aE (kQ rfl (aG.el (aG.fact 4 rfl) j6.1 j6.2) rfl) rfl<|aF rfl<|aP<|aW<|cA<|aL ?_
  cases h
  exact mN rfl
 refine aX<|dL rfl<|aF rfl<|aP ?_
 refine gP h rfl (fun h=>?_) fun h=>?_
 ·refine aX<|aA rfl<|dL rfl<|gK h fun r8 w9 h=>aK (aN.callQ sX (i_ U  r8 w9) rfl .nil) rfl fun x10=>aF rfl<|aP<|aW<|cA<|aL ?_
  cases h
  exact mN rfl
 refine aX<|dL rfl<|aF rfl<|aP ?_
 refine gP h rfl (fun h=>?_) fun h=>?_
 ·refine aX<|aA rfl<|aF rfl<|aP<|aW<|cA<|aL ?_
  cases h
  exact mN rfl
 refine f_<|qB<|aX<|aA rfl<|aE (bO rfl) rfl<|cV rfl<|cV rfl<|aE (dO rfl (aG.fact 0 rfl) rfl rfl rfl) rfl<|aA rfl<|eM h fun j12 h=>aE (dK rfl rfl (aG.fact 4 rfl) rfl rfl j12) rfl<|aE (eI rfl (aG.fact 4 rfl) rfl rfl j12) rfl<|aA rfl<|eM h fun j13 h=>aE (bQ rfl rfl (aG.el (aG.fact 4 rfl) j12.1 j12.2) rfl rfl j13) rfl<|aE (iR (cs:=[vI ((at' (at' p0.2.1.2 p2) p3).1),vI ((at' (at' p0.2.1.2 p2) p3).2)]) rfl (aG.el (aG.fact 4 rfl) j12.1 j12.2) bN rfl rfl rfl rfl j13) rfl<|aK (aN.alloc (cs:=Qu) rfl rfl) rfl fun b14=>cL 0 (vs:=[vI ((at' (at' p0.2.1.2 p2) p3).1),vI ((at' (at' p0.2.1.2 p2) p3).2)]) rfl rfl rfl rfl rfl rfl<|aP<|aM<|aX<|aA rfl<|aP<|aY<|aX<|dL rfl<|aF rfl<|aP ?_
 refine gP h rfl (fun h=>?_) fun h=>?_
 ·refine aM ?_
  refine JR.start [0,1,3,7,15,0,32,127,255,511] 7 mixedOrders (by decide +kernel) ?_
  refine JR.open (by exact rfl) ?_
  refine bL rfl<|mP rfl (bO rfl)<|c_ rfl<|c_ rfl<|bY rfl .nil (q_ 0 rfl) (dO rfl (aG.fact 0 rfl) rfl rfl rfl) aI.z<|c_ rfl<|jN 0 rfl<|cD 7 rfl rfl<|eM h fun j16 h=>aE (bQ rfl rfl (aG.fact 3 rfl) rfl rfl j16) rfl<|aE (cF rfl (aG.fact 3 rfl) rfl rfl rfl dJ j16) rfl<|aF rfl<|aP<|aW<|cA<|aL ?_
  cases h
  exact xC rfl
 refine aX<|dL rfl<|aF rfl<|aP ?_
 refine gP h rfl (fun h=>?_) fun h=>?_
 ·refine aM ?_
  refine JR.start [0,1,3,7,15,0,32,127,255,511,1023] 7 mixedOrders (by decide +kernel) ?_
  refine JR.open (by exact rfl) ?_
  refine bL rfl<|mP rfl (bO rfl)<|c_ rfl<|c_ rfl<|bY rfl .nil (q_ 0 rfl) (dO rfl (aG.fact 0 rfl) rfl rfl rfl) aI.z<|c_ rfl<|jN 0 rfl<|cD 7 rfl rfl<|eM h fun j18 h=>aE (dK rfl rfl (aG.fact 4 rfl) rfl rfl j18) rfl<|aE (eI rfl (aG.fact 4 rfl) rfl rfl j18) rfl<|aE (kQ rfl (aG.el (aG.fact 4 rfl) j18.1 j18.2) rfl) rfl<|aF rfl<|aP<|aW<|cA<|aL ?_
  cases h
  exact xC rfl
 refine aX<|dL rfl<|aF rfl<|aP ?_
 refine gP h rfl (fun h=>?_) fun h=>?_
 ·refine aX<|cV rfl<|iF 0 rfl<|dL rfl<|gK h fun r20 w21 h=>aK (aN.callQ sX (i_ U  r20 w21) rfl .nil) rfl fun x22=>aF rfl<|aP<|aW<|cA<|aL ?_
  cases h
  exact xC rfl
 refine aX<|dL rfl<|aF rfl<|aP ?_
 refine gP h rfl (fun h=>?_) fun h=>?_
 ·refine aX<|cV rfl<|iF 0 rfl<|aF rfl<|aP<|aW<|cA<|aL ?_
  cases h
  exact xC rfl
 refine f_<|qB<|aX<|aA rfl<|aE (bO rfl) rfl<|cV rfl<|aE (dO rfl (aG.fact 0 rfl) rfl rfl rfl) rfl<|aA rfl<|eM h fun j24 h=>aE (dK rfl rfl (aG.fact 5 rfl) rfl rfl j24) rfl<|aE (eI rfl (aG.fact 5 rfl) rfl rfl j24) rfl<|aA rfl<|eM h fun j25 h=>aE (bQ rfl rfl (aG.el (aG.fact 5 rfl) j24.1 j24.2) rfl rfl j25) rfl<|aE (cF rfl (aG.el (aG.fact 5 rfl) j24.1 j24.2) rfl rfl rfl dJ j25) rfl<|aF rfl<|aP<|aW ?_
 cases h
 exact xC rfl
end
section
def jR (U:Nat) (p0:HS) (p1:gC) (p2:Int):Option (Int):=
 if p1.1=(1:Int)then(some (p1.2))else(if p1.1=(2:Int)then(some (1:Int))else(if p1.1=(3:Int)then(some (0:Int))else(if p1.1=(4:Int)then(some (-1:Int))else(if p1.1=(5:Int)then(ck (0<=p0.2.2.1∧p0.2.2.1<(List.length p0.2.1:Int)) (ck (0<=p1.2∧p1.2<(List.length (at' p0.2.1 p0.2.2.1):Int)) (some (at' (at' p0.2.1 p0.2.2.1) p1.2))))else(if p1.1=(12:Int)then(ck (0<=p0.2.2.1∧p0.2.2.1<(List.length p0.1.2.1.2:Int)) (ck (0<=p2∧p2<(List.length (at' p0.1.2.1.2 p0.2.2.1):Int)) (ck (0<=((at' (at' p0.1.2.1.2 p0.2.2.1) p2).1)∧((at' (at' p0.1.2.1.2 p0.2.2.1) p2).1)<(List.length p0.2.1:Int)) (ck (0<=p1.2∧p1.2<(List.length (at' p0.2.1 ((at' (at' p0.1.2.1.2 p0.2.2.1) p2).1)):Int)) (some (at' (at' p0.2.1 ((at' (at' p0.1.2.1.2 p0.2.2.1) p2).1)) p1.2))))))else(Option.bind (oB U ((((p0.1.1.1,p0.1.1.2.1,p0.1.1.2.2)),((p0.1.2.1.1,p0.1.2.1.2)),p0.1.2.2.1,p0.1.2.2.2)) p1.1 p0.2.2.1 p2) fun r14=>(some (r14))))))))
theorem Rt:a_ Tryz.prog 136:=Tryz.call136
theorem AW (U:Nat) {p0:HS} {p1:gC} {p2:Int} (bx0:Nat)  (bx1:Nat)  (v2:Value)  (v3:Value)  (v4:Value)  (v5:Value)  (z6:oZ)  (v7:Value)  (z8:qU)  (v9:Value)  (z10:qU)  (v11:Value) (r:Int) (h:jR U p0 p1 p2=some r):
  bJ Tryz.prog 136 #[vP bx0,Value.agg #[vI (p1.1),vI (p1.2)],vI (p2)] [cR bx0 [vP bx1,v9,vI (p0.2.2.1),v11] 175,cR bx1 [vS (p0.1.1.1),v2,v3,v4,v5,vI (p0.1.2.2.1),v7] 161,Sl aD v2 p0.1.1.2.1,Sl aB v3 p0.1.1.2.2,Sl bT v4 p0.1.2.1.1,S2 bM v5 z6 p0.1.2.1.2,S2 bT v7 z8 p0.1.2.2.2,S2 bT v9 z10 p0.2.1,Sl bM v11 p0.2.2.2] (fun x:Unit=>vI (r)) (fun x l=>l) (fun _ l=>l):=by
 refine bJ.of Tryz.func136 rfl Tryz.ntmps136 rfl fun c=>?_
 refine aX<|aK (aN.box (cs:=[vI (p1.1),vI (p1.2)]) rfl rfl) rfl fun b1=>aF rfl<|aP<|aM<|aX<|cV rfl<|iF 0 rfl<|aP<|aY<|aX<|dL rfl<|aF rfl<|aP ?_
 refine gP h rfl (fun h=>?_) fun h=>?_
 ·refine aX<|cV rfl<|iF 0 rfl<|aF rfl<|aP<|aW<|cA<|aL ?_
  cases h
  exact xC rfl
 refine aX<|dL rfl<|aF rfl<|aP ?_
 refine gP h rfl (fun h=>?_) fun h=>?_
 ·refine aX<|aF rfl<|aP<|aW<|cA<|aL ?_
  cases h
  exact xC rfl
 refine aX<|dL rfl<|aF rfl<|aP ?_
 refine gP h rfl (fun h=>?_) fun h=>?_
 ·refine aX<|aF rfl<|aP<|aW<|cA<|aL ?_
  cases h
  exact xC rfl
 refine aX<|dL rfl<|aF rfl<|aP ?_
 refine gP h rfl (fun h=>?_) fun h=>?_
 ·refine aX<|aF rfl<|aP<|aW<|cA<|aL ?_
  cases h
  exact xC rfl
 refine aX<|dL rfl<|aF rfl<|aP ?_
 refine gP h rfl (fun h=>?_) fun h=>?_
 ·refine aM ?_
  refine JR.start [0,1,3,7,0,16,48,112,255,511,0,1024,4095,8191,16383] 12 mixedOrders (by decide +kernel) ?_
  refine JR.open (by exact rfl) ?_
  refine bL rfl<|mP rfl (bO rfl)<|c_ rfl<|bY rfl .nil (q_ 0 rfl) (dO rfl (aG.fact 0 rfl) rfl rfl rfl) aI.z<|bL rfl<|mP rfl (bO rfl)<|c_ rfl<|bY rfl .nil (q_ 0 rfl) (dO rfl (aG.fact 0 rfl) rfl rfl rfl) aI.z<|eM h fun j7 h=>bY rfl .nil (q_ 7 rfl) (dK rfl rfl (aG.fact 0 rfl) rfl rfl j7) aI.z<|bY rfl .nil (q_ 7 rfl) (eI rfl (aG.fact 0 rfl) rfl rfl j7) aI.z<|c_ rfl<|jN 0 rfl<|cD 12 rfl rfl<|eM h fun j8 h=>aE (bQ rfl rfl (aG.el (aG.fact 7 rfl) j7.1 j7.2) rfl rfl j8) rfl<|aE (cF rfl (aG.el (aG.fact 7 rfl) j7.1 j7.2) rfl rfl rfl dJ j8) rfl<|aF rfl<|aP<|aW<|cA<|aL ?_
  cases h
  exact xC rfl
 refine aX<|dL rfl<|aF rfl<|aP ?_
 refine gP h rfl (fun h=>?_) fun h=>?_
 ·refine aM ?_
  refine JR.start [0,1,3,7,0,16,48,112,240,496,1008,2032,0,4096,12288,28672,65520,131056,0,524272,1048560,2097136,4194303,8388607,0,16777216,67108863,134217727,268435455] 26 mixedOrders (by decide +kernel) ?_
  refine JR.open (by exact rfl) ?_
  refine bL rfl<|mP rfl (bO rfl)<|c_ rfl<|bY rfl .nil (q_ 0 rfl) (dO rfl (aG.fact 0 rfl) rfl rfl rfl) aI.z<|bL rfl<|mP rfl (bO rfl)<|c_ rfl<|bY rfl .nil (q_ 0 rfl) (dO rfl (aG.fact 0 rfl) rfl rfl rfl) aI.z<|mP rfl (bO rfl)<|c_ rfl<|c_ rfl<|bY rfl .nil (q_ 1 rfl) (dO rfl (aG.fact 0 rfl) rfl rfl rfl) aI.z<|bL rfl<|mP rfl (bO rfl)<|c_ rfl<|bY rfl .nil (q_ 0 rfl) (dO rfl (aG.fact 0 rfl) rfl rfl rfl) aI.z<|eM h fun j10 h=>bY rfl .nil (q_ 5 rfl) (dK rfl rfl (aG.fact 0 rfl) rfl rfl j10) aI.z<|bY rfl .nil (q_ 5 rfl) (eI rfl (aG.fact 0 rfl) rfl rfl j10) aI.z<|bL rfl<|eM h fun j11 h=>bY rfl .nil (q_ 5 rfl) (bQ rfl rfl (aG.el (aG.fact 0 rfl) j10.1 j10.2) rfl rfl j11) aI.z<|mP rfl (mB rfl rfl rfl rfl rfl)<|bY rfl .nil (q_ 5 rfl) (nQ rfl (aG.el (aG.fact 0 rfl) j10.1 j10.2) rfl rfl rfl xY j11) aI.z<|eM h fun j12 h=>bY rfl .nil (q_ 7 rfl) (dK rfl rfl (aG.fact 0 rfl) rfl rfl j12) aI.z<|bY rfl .nil (q_ 7 rfl) (eI rfl (aG.fact 0 rfl) rfl rfl j12) aI.z<|c_ rfl<|jN 0 rfl<|cD 26 rfl rfl<|eM h fun j13 h=>aE (bQ rfl rfl (aG.el (aG.fact 7 rfl) j12.1 j12.2) rfl rfl j13) rfl<|aE (cF rfl (aG.el (aG.fact 7 rfl) j12.1 j12.2) rfl rfl rfl dJ j13) rfl<|aF rfl<|aP<|aW<|cA<|aL ?_
  cases h
  exact xC rfl
 refine f_<|qB<|aM ?_
 refine JR.start [0,1,3,7,0,16,0,64,192,448,0,2047,4095] 11 mixedOrders (by decide +kernel) ?_
 refine JR.open (by exact rfl) ?_
 refine bL rfl<|mP rfl (bO rfl)<|c_ rfl<|bY rfl .nil (q_ 0 rfl) (dO rfl (aG.fact 0 rfl) rfl rfl rfl) aI.z<|c_ rfl<|jN 0 rfl<|bL rfl<|mP rfl (bO rfl)<|c_ rfl<|bY rfl .nil (q_ 0 rfl) (dO rfl (aG.fact 0 rfl) rfl rfl rfl) aI.z<|bL rfl<|cD 11 rfl rfl<|gK h fun r14 w15 h=>aK (aN.callQ Rx (Ac U bx1 v2 v3 v4 v5 z6 v7 z8 r14 w15) rfl (pJ [1,2,3,4,5,6] rfl)) rfl fun x16=>aF rfl<|aP<|aW ?_
 cases h
 exact xC rfl
end
section
def uG (U:Nat) (p0:Int) (p1:Int):Option (Int):=
 if p0=(18:Int)then(some (wI .i64 (0 - p1)))else(Option.bind (gA U (decide (p1=(0:Int)))) fun r2=>(some (r2)))
theorem Ru:a_ Tryz.prog 137:=Tryz.call137
theorem HN (U:Nat) {p0:Int} {p1:Int} (r:Int) (h:uG U p0 p1=some r):
  bJ Tryz.prog 137 #[vI (p0),vI (p1)] [] (fun x:Unit=>vI (r)) (fun x l=>l) (fun _ l=>l):=by
 refine bJ.of Tryz.func137 rfl Tryz.ntmps137 rfl fun c=>?_
 refine aX<|aF rfl<|aP<|aM<|aX<|aA rfl<|dL rfl<|aP ?_
 refine gP h rfl (fun h=>?_) fun h=>?_
 ·refine aX<|aA rfl<|aE (VE rfl) rfl<|aF rfl<|aP<|aW<|aL ?_
  cases h
  exact mN rfl
 refine eL<|aX<|aA rfl<|dL rfl<|gK h fun r2 w3 h=>aK (aN.callQ sX (i_ U  r2 w3) rfl .nil) rfl fun x4=>aF rfl<|aP<|aW ?_
 cases h
 exact mN rfl
end
section
def gN (U:Nat) (p0:Int):Option (Int):=
 some (max (-1073741824:Int) (min p0 (1073741824:Int)))
theorem Au:a_ Tryz.prog 151:=Tryz.call151
theorem jW (U:Nat) {p0:Int} (r:Int) (h:gN U p0=some r):
  bJ Tryz.prog 151 #[vI (p0)] [] (fun x:Unit=>vI (r)) (fun x l=>l) (fun _ l=>l):=by
 refine bJ.of Tryz.func151 rfl Tryz.ntmps151 rfl fun c=>?_
 unfold gN at h
 refine aX<|aF rfl<|aP<|aX<|aA rfl<|aE (NV rfl rfl) rfl<|aE (En rfl rfl) rfl<|aF rfl<|aP<|aW ?_
 cases h
 exact mN rfl
end
section
def mI  (a4:Int):Option (Int):=
 some (a4)
def oT (p0:Int) (p1:Int) (a7:Bool):Option (Int):=
 if a7=true then(mI  (wI .i64 ((wI .i64 (Int.tdiv p0 p1)) - (1:Int))))else(mI  (wI .i64 (Int.tdiv p0 p1)))
def nD (U:Nat) (p0:Int) (p1:Int):Option (Int):=
 if p1=(0:Int)then(some (0:Int))else(ck (p1≠0) (ck (p1≠0) (if(Int.tmod p0 p1)≠(0:Int)then(oT p0 p1 (((decide (p0<(0:Int))) != (decide (p1<(0:Int))))))else(oT p0 p1 (false)))))
theorem Lg:a_ Tryz.prog 152:=Tryz.call152
theorem zB (U:Nat) {p0:Int} {p1:Int} (r:Int) (h:nD U p0 p1=some r):
  bJ Tryz.prog 152 #[vI (p0),vI (p1)] [] (fun x:Unit=>vI (r)) (fun x l=>l) (fun _ l=>l):=by
 refine bJ.of Tryz.func152 rfl Tryz.ntmps152 rfl fun c=>?_
 refine aX<|aF rfl<|aP<|aM<|aX<|aA rfl<|dL rfl<|aP ?_
 refine gP h rfl (fun h=>?_) fun h=>?_
 ·refine aX<|aF rfl<|aP<|aW<|aL ?_
  cases h
  exact mN rfl
 refine eL<|aX<|aA rfl<|aA rfl<|eM h fun j2 h=>aE (TW rfl rfl j2) rfl<|aF rfl<|aP<|aM<|kF (fun a4=>mI  a4=some r) (fun a4 b5=>[(5,vI (a4))]) (fun a4 b5=>[]) ?_ ?_
 ·refine aM<|kF (fun a7=>oT p0 p1 a7=some r) (fun a7 b8=>[(5,vI (wI .i64 (Int.tdiv p0 p1))),(21,vB (a7))]) (fun a7 b8=>[]) ?_ ?_
  ·refine aS<|aA rfl<|aA rfl<|eM h fun j10 h=>aE (NX rfl rfl j10) rfl<|sD rfl<|aA rfl ?_
   refine Dz h rfl (fun _ h=>?_) fun _ h=>?_
   ·refine dQ rfl<|aR rfl (Ip rfl rfl) rfl<|dQ rfl<|aR rfl (Ip rfl rfl) rfl<|aR rfl (NW rfl rfl rfl) rfl<|iW rfl<|aP ?_
    exact jO (((decide (p0<(0:Int))) != (decide (p1<(0:Int))))) () h SF rfl
   refine aQ rfl<|aQ rfl<|aQ rfl<|aQ rfl<|aQ rfl<|h_ rfl<|aP ?_
   exact jO (false) () h SF rfl
  intro a7 b8 h
  refine AQ h rfl (fun _ h=>?_) fun _ h=>?_
  ·refine aS<|aA rfl<|aE (uU rfl rfl) rfl<|aF rfl<|aP ?_
   exact jO (wI .i64 ((wI .i64 (Int.tdiv p0 p1)) - (1:Int))) () h SF rfl
  refine eL ?_
  exact jO (wI .i64 (Int.tdiv p0 p1)) () h SF rfl
 intro a4 b5 h
 unfold mI at h
 refine aX<|aA rfl<|aF rfl<|aP<|aW ?_
 cases h
 exact mN rfl
end
section
def qC (U:Nat) (p0:Int) (p1:Int) (p2:Int):Option (Bool):=
 if p0=(35:Int)then(some (decide (p1=p2)))else(if p0=(36:Int)then(some (decide (p1≠p2)))else(if p0=(37:Int)then(some (decide (p1<p2)))else(if p0=(38:Int)then(some (decide (p1<=p2)))else(if p0=(39:Int)then(some (decide (p2<p1)))else(some (decide (p2<=p1)))))))
theorem Rz:a_ Tryz.prog 153:=Tryz.call153
theorem DC (U:Nat) {p0:Int} {p1:Int} {p2:Int} (r:Bool) (h:qC U p0 p1 p2=some r):
  bJ Tryz.prog 153 #[vI (p0),vI (p1),vI (p2)] [] (fun x:Unit=>vB (r)) (fun x l=>l) (fun _ l=>l):=by
 refine bJ.of Tryz.func153 rfl Tryz.ntmps153 rfl fun c=>?_
 refine aX<|aF rfl<|aP<|aM<|aX<|aA rfl<|aP<|aY<|aX<|dL rfl<|aF rfl<|aP ?_
 refine gP h rfl (fun h=>?_) fun h=>?_
 ·refine aX<|aA rfl<|aA rfl<|dL rfl<|aF rfl<|aP<|aW<|cA<|aL ?_
  cases h
  exact mN rfl
 refine aX<|dL rfl<|aF rfl<|aP ?_
 refine gP h rfl (fun h=>?_) fun h=>?_
 ·refine aX<|aA rfl<|aA rfl<|sD rfl<|aF rfl<|aP<|aW<|cA<|aL ?_
  cases h
  exact mN rfl
 refine aX<|dL rfl<|aF rfl<|aP ?_
 refine gP h rfl (fun h=>?_) fun h=>?_
 ·refine aX<|aA rfl<|aA rfl<|eD rfl<|aF rfl<|aP<|aW<|cA<|aL ?_
  cases h
  exact mN rfl
 refine aX<|dL rfl<|aF rfl<|aP ?_
 refine gP h rfl (fun h=>?_) fun h=>?_
 ·refine aX<|aA rfl<|aA rfl<|aE (BP rfl rfl) rfl<|aF rfl<|aP<|aW<|cA<|aL ?_
  cases h
  exact mN rfl
 refine aX<|dL rfl<|aF rfl<|aP ?_
 refine gP h rfl (fun h=>?_) fun h=>?_
 ·refine aX<|aA rfl<|aA rfl<|aE (BO rfl rfl) rfl<|aF rfl<|aP<|aW<|cA<|aL ?_
  cases h
  exact mN rfl
 refine f_<|qB<|aX<|aA rfl<|aA rfl<|aE (Dj rfl rfl) rfl<|aF rfl<|aP<|aW ?_
 cases h
 exact mN rfl
end
section
def mG  (a30:Int):Option (Int):=
 some (a30)
def mH  (a41:Int):Option (Int):=
 some (a41)
def s_ (U:Nat) (p0:Int) (p1:Int) (p2:Int):Option (Int):=
 if p0=(30:Int)then(Option.bind (gN U (wI .i64 (p1*p2))) fun r2=>(some (r2)))else(if p0=(31:Int)then(Option.bind (nD U p1 p2) fun r6=>(Option.bind (gN U r6) fun r9=>(some (r9))))else(if p0=(32:Int)then(if p2=(0:Int)then(some (0:Int))else(Option.bind (nD U p1 p2) fun r14=>(Option.bind (gN U (wI .i64 (p1 - (wI .i64 (p2*r14))))) fun r17=>(some (r17)))))else(if p0=(33:Int)then(Option.bind (gN U (wI .i64 (p1+p2))) fun r21=>(some (r21)))else(if p0=(34:Int)then(Option.bind (gN U (wI .i64 (p1 - p2))) fun r25=>(some (r25)))else(if p0=(41:Int)then(if p1≠(0:Int)then(Option.bind (gA U (decide (p2≠(0:Int)))) fun r33=>(mG  (r33)))else(Option.bind (gA U false) fun r36=>(mG  (r36))))else(if p0=(42:Int)then(if p1≠(0:Int)then(Option.bind (gA U true) fun r44=>(mH  (r44)))else(Option.bind (gA U (decide (p2≠(0:Int)))) fun r47=>(mH  (r47))))else(Option.bind (qC U p0 p1 p2) fun r50=>(Option.bind (gA U r50) fun r53=>(some (r53))))))))))
theorem Rv:a_ Tryz.prog 139:=Tryz.call139
theorem FH (U:Nat) {p0:Int} {p1:Int} {p2:Int} (r:Int) (h:s_ U p0 p1 p2=some r):
  bJ Tryz.prog 139 #[vI (p0),vI (p1),vI (p2)] [] (fun x:Unit=>vI (r)) (fun x l=>l) (fun _ l=>l):=by
 refine bJ.of Tryz.func139 rfl Tryz.ntmps139 rfl fun c=>?_
 refine aX<|aF rfl<|aP<|aM<|aX<|aA rfl<|aP<|aY<|aX<|dL rfl<|aF rfl<|aP ?_
 refine gP h rfl (fun h=>?_) fun h=>?_
 ·refine aX<|aA rfl<|aA rfl<|aE (Bo rfl rfl) rfl<|gK h fun r2 w3 h=>aK (aN.callQ Au (jW U  r2 w3) rfl .nil) rfl fun x4=>aF rfl<|aP<|aW<|cA<|aL ?_
  cases h
  exact mN rfl
 refine aX<|dL rfl<|aF rfl<|aP ?_
 refine gP h rfl (fun h=>?_) fun h=>?_
 ·refine aX<|aA rfl<|aA rfl<|gK h fun r6 w7 h=>aK (aN.callQ Lg (zB U  r6 w7) rfl .nil) rfl fun x8=>gK h fun r9 w10 h=>aK (aN.callQ Au (jW U  r9 w10) rfl .nil) rfl fun x11=>aF rfl<|aP<|aW<|cA<|aL ?_
  cases h
  exact mN rfl
 refine aX<|dL rfl<|aF rfl<|aP ?_
 refine gP h rfl (fun h=>?_) fun h=>?_
 ·refine aM<|aX<|aA rfl<|dL rfl<|aP ?_
  refine gP h rfl (fun h=>?_) fun h=>?_
  ·refine aX<|aF rfl<|aP<|aW<|aL<|cA<|aL ?_
   cases h
   exact mN rfl
  refine eL<|aX<|aA rfl<|aA rfl<|aA rfl<|aA rfl<|gK h fun r14 w15 h=>aK (aN.callQ Lg (zB U  r14 w15) rfl .nil) rfl fun x16=>aE (Bo rfl rfl) rfl<|aE (uU rfl rfl) rfl<|gK h fun r17 w18 h=>aK (aN.callQ Au (jW U  r17 w18) rfl .nil) rfl fun x19=>aF rfl<|aP<|aW<|cA<|aL ?_
  cases h
  exact mN rfl
 refine aX<|dL rfl<|aF rfl<|aP ?_
 refine gP h rfl (fun h=>?_) fun h=>?_
 ·refine aX<|aA rfl<|aA rfl<|eC rfl<|gK h fun r21 w22 h=>aK (aN.callQ Au (jW U  r21 w22) rfl .nil) rfl fun x23=>aF rfl<|aP<|aW<|cA<|aL ?_
  cases h
  exact mN rfl
 refine aX<|dL rfl<|aF rfl<|aP ?_
 refine gP h rfl (fun h=>?_) fun h=>?_
 ·refine aX<|aA rfl<|aA rfl<|aE (uU rfl rfl) rfl<|gK h fun r25 w26 h=>aK (aN.callQ Au (jW U  r25 w26) rfl .nil) rfl fun x27=>aF rfl<|aP<|aW<|cA<|aL ?_
  cases h
  exact mN rfl
 refine aX<|dL rfl<|aF rfl<|aP ?_
 refine gP h rfl (fun h=>?_) fun h=>?_
 ·refine aM<|kF (fun a30=>mG  a30=some r) (fun a30 b31=>[(6,vI (a30))]) (fun a30 b31=>[]) ?_ ?_
  ·refine aS<|aA rfl<|sD rfl<|aA rfl ?_
   refine Dz h rfl (fun _ h=>?_) fun _ h=>?_
   ·refine dQ rfl<|aR rfl (tF rfl rfl) rfl<|iW rfl<|gK h fun r33 w34 h=>aK (aN.callQ sX (i_ U  r33 w34) rfl .nil) rfl fun x35=>aF rfl<|aP ?_
    exact jO (r33) () h SF rfl
   refine aQ rfl<|aQ rfl<|h_ rfl<|gK h fun r36 w37 h=>aK (aN.callQ sX (i_ U  r36 w37) rfl .nil) rfl fun x38=>aF rfl<|aP ?_
   exact jO (r36) () h SF rfl
  intro a30 b31 h
  unfold mG at h
  refine aW<|cA<|aL ?_
  cases h
  exact mN rfl
 refine aX<|dL rfl<|aF rfl<|aP ?_
 refine gP h rfl (fun h=>?_) fun h=>?_
 ·refine aM<|kF (fun a41=>mH  a41=some r) (fun a41 b42=>[(6,vI (a41))]) (fun a41 b42=>[]) ?_ ?_
  ·refine aS<|aA rfl<|sD rfl<|aA rfl ?_
   refine Dz h rfl (fun _ h=>?_) fun _ h=>?_
   ·refine aQ rfl<|aQ rfl<|iW rfl<|gK h fun r44 w45 h=>aK (aN.callQ sX (i_ U  r44 w45) rfl .nil) rfl fun x46=>aF rfl<|aP ?_
    exact jO (r44) () h SF rfl
   refine dQ rfl<|aR rfl (tF rfl rfl) rfl<|h_ rfl<|gK h fun r47 w48 h=>aK (aN.callQ sX (i_ U  r47 w48) rfl .nil) rfl fun x49=>aF rfl<|aP ?_
   exact jO (r47) () h SF rfl
  intro a41 b42 h
  unfold mH at h
  refine aW<|cA<|aL ?_
  cases h
  exact mN rfl
 refine f_<|qB<|aX<|aA rfl<|aA rfl<|aA rfl<|gK h fun r50 w51 h=>aK (aN.callQ Rz (DC U  r50 w51) rfl .nil) rfl fun x52=>gK h fun r53 w54 h=>aK (aN.callQ sX (i_ U  r53 w54) rfl .nil) rfl fun x55=>aF rfl<|aP<|aW ?_
 cases h
 exact mN rfl
end
section
def sY  (a2:Int):Option (Int):=
 some (a2)
def pO (a7:gC) (ag6:iC->Option (Int)) (a12:Int):Option (Int):=
 ag6 (a12,(wI .i64 (a7.2+(1:Int))))
def nK (p0:bW) (a7:gC) (ag6:iC->Option (Int)):Option (Int):=
 if a7.2<(List.length p0:Int)then(ck (0<=a7.2∧a7.2<(List.length p0:Int)) (if(at' p0 a7.2)≠(0:Int)then(pO a7 ag6 (wI .i64 (a7.1+(1:Int))))else(pO a7 ag6 (a7.1))))else(sY  (a7.1))
def mX (U:Nat) (p0:bW):Option (Int):=
 bZ (nK p0) U ((0:Int),(0:Int))
theorem Hb:a_ Tryz.prog 164:=Tryz.call164
theorem yU (U:Nat) {p0:bW} (v0:Value) (r:Int) (h:mX U p0=some r):
  bJ Tryz.prog 164 #[v0] [Sl bT v0 p0] (fun x:Unit=>vI (r)) (fun x l=>l) (fun _ l=>l):=by
 refine bJ.of Tryz.func164 rfl Tryz.ntmps164 rfl fun c=>?_
 unfold mX at h
 refine aX<|aF rfl<|aP<|aX<|aF rfl<|aP<|aM<|kF (fun a2=>sY  a2=some r) (fun a2 b3=>[(3,vI (a2))]) (fun a2 b3=>[]) ?_ ?_
 ·refine aX<|aA rfl<|mS (aG.fact 0 rfl) rfl<|aA rfl<|aP<|aY<|hJ (nK p0) (fun a7 b8=>[(3,vI (a7.1)),(6,v0),(7,vI (List.length p0:Int)),(8,vI (a7.2))]) (fun a7 b8=>[]) ((0:Int),(0:Int)) () h SF (aT.refl _) ?_
  intro k9 a7 b8 h
  refine aX<|eD rfl<|aP<|aM ?_
  refine gP h rfl (fun h=>?_) fun h=>?_
  ·refine eL<|aM<|kF (fun a12=>pO a7 (bZ (nK p0) k9) a12=some r) (fun a12 b13=>[(3,vI (a12)),(6,v0),(7,vI (List.length p0:Int)),(8,vI (a7.2))]) (fun a12 b13=>[]) ?_ ?_
   ·refine aY<|aX<|eM h fun j14 h=>aE (bQ rfl rfl (aG.fact 0 rfl) rfl rfl j14) rfl<|aE (cF rfl (aG.fact 0 rfl) rfl rfl rfl dJ j14) rfl<|aF rfl<|aP<|aX<|aA rfl<|sD rfl<|aP ?_
    refine gP h rfl (fun h=>?_) fun h=>?_
    ·refine aS<|aA rfl<|eC rfl<|aF rfl<|fU<|qB ?_
     exact jO (wI .i64 (a7.1+(1:Int))) () h SF rfl
    refine f_<|qB ?_
    exact jO (a7.1) () h SF rfl
   intro a12 b13 h
   unfold pO at h
   refine aS<|eC rfl<|aA rfl<|aP ?_
   exact BF (a12,(wI .i64 (a7.2+(1:Int)))) () h SF rfl
  refine iV ?_
  exact jO (a7.1) () h SF rfl
 intro a2 b3 h
 unfold sY at h
 refine aX<|aA rfl<|aF rfl<|aP<|aW ?_
 cases h
 exact mN rfl
end
section
def lY  (a1:Unit):Option (Int):=
 some (-1:Int)
def eX (p0:bW) (g1:Int->Option Bool) (a5:Int) (ag4:(Int)->Option (Int)):Option (Int):=
 if a5<(List.length p0:Int)then(ck (0<=a5∧a5<(List.length p0:Int)) (Option.bind (g1 (at' p0 a5)) fun r10=>(if r10=true then(some (a5))else(ag4 (wI .i64 (a5+(1:Int)))))))else(lY  (()))
def kC (U:Nat) (p0:bW) (g1:Int->Option Bool):Option (Int):=
 bZ (eX p0 g1) U (0:Int)
theorem RD:a_ Tryz.prog 165:=Tryz.call165
theorem BB (U:Nat) {p0:bW} {g1:Int->Option Bool} (f1:FuncId) (cs1:eG) (Lf:List aU) (hb_g1:a_ Tryz.prog f1) (hm_g1:∀(y0:Int) (r:Bool),g1 y0=some r->bJ Tryz.prog f1 ([vI (y0)]++cs1).toArray Lf (fun _:Unit=>vB (r)) (fun _ l=>l) (fun _ l=>l)) (v0:Value) (r:Int) (h:kC U p0 g1=some r):
  bJ Tryz.prog 165 #[v0,Value.func (.func f1) #[] (cs1).toArray] ([Sl bT v0 p0]++Lf) (fun x:Unit=>vI (r)) (fun x l=>l) (fun _ l=>l):=by
 refine bJ.of Tryz.func165 rfl Tryz.ntmps165 rfl fun c=>?_
 unfold kC at h
 refine aX<|aF rfl<|aP<|aM<|pC (B:=Unit) (fun a1=>lY  a1=some r) (fun a1 b2=>[]) (fun a1 b2=>[]) (fun a1 b2=>([Sl bT v0 p0]++Lf)) ?_ ?_
 ·refine aX<|aA rfl<|mS (aG.fact 0 rfl) rfl<|aA rfl<|aP<|aY<|BJ (B:=Unit) (eX p0 g1) (fun a5 b6=>[(0,v0),(1,Value.func (.func f1) #[] (cs1).toArray),(7,vI (List.length p0:Int)),(8,vI (a5))]) (fun a5 b6=>[]) (fun a5 b6=>([Sl bT v0 p0]++Lf)) (0:Int) () h SF (aT.refl _) (aH.refl _ _) ?_
  intro k7 a5 b6 h
  refine aX<|eD rfl<|aP<|aM ?_
  refine gP h rfl (fun h=>?_) fun h=>?_
  ·refine eL<|aM<|aY<|aX<|aA rfl<|aF rfl<|aP<|aX<|aA rfl<|aA rfl<|aA rfl<|eM h fun j9 h=>aE (bQ rfl rfl (aG.fact 0 rfl) rfl rfl j9) rfl<|aE (cF rfl (aG.fact 0 rfl) rfl rfl rfl dJ j9) rfl<|gK h fun r10 w11 h=>aK (tE (vs:=[vI (at' p0 a5)]) (cs:=cs1) hb_g1 rfl (hm_g1 (at' p0 a5) r10 w11) rfl (aH.tail _) (fun _ _=>rfl)) rfl fun x12=>aP ?_
   refine AQ h rfl (fun _ h=>?_) fun _ h=>?_
   ·refine aX<|aA rfl<|aF rfl<|aP<|aW<|cA<|aL<|aL<|cA<|aL ?_
    cases h
    exact mN rfl
   refine f_<|qB<|aS<|eC rfl<|aA rfl<|aP ?_
   exact BF (wI .i64 (a5+(1:Int))) () h SF rfl
  refine iV ?_
  exact jO () (()) h SF rfl
 intro a1 b2 h
 unfold lY at h
 refine aX<|aF rfl<|aP<|aW ?_
 cases h
 exact mN rfl
end
section
def lN (U:Nat) (p0:Int):Option (Bool):=
 some (decide (p0≠(0:Int)))
theorem RE:a_ Tryz.prog 166:=Tryz.call166
theorem FI (U:Nat) {p0:Int} (r:Bool) (h:lN U p0=some r):
  bJ Tryz.prog 166 #[vI (p0)] [] (fun x:Unit=>vB (r)) (fun x l=>l) (fun _ l=>l):=by
 refine bJ.of Tryz.func166 rfl Tryz.ntmps166 rfl fun c=>?_
 unfold lN at h
 refine aX<|aF rfl<|aP<|aX<|aA rfl<|sD rfl<|aF rfl<|aP<|aW ?_
 cases h
 exact mN rfl
end
section
def pG  (a3:gC):Option iC:=
 some (a3.1,a3.2)
def lW (a9:Int×Int×Int) (ag8:(Int×Int×Int)->Option iC) (a15:gC):Option iC:=
 ag8 (a15.1,a15.2,(wI .i64 (a9.2.2+(1:Int))))
def pH (p0:bW) (a9:Int×Int×Int) (ag8:(Int×Int×Int)->Option iC):Option iC:=
 if a9.2.2<(List.length p0:Int)then(ck (0<=a9.2.2∧a9.2.2<(List.length p0:Int)) (if a9.1<(at' p0 a9.2.2)then(lW a9 ag8 ((at' p0 a9.2.2),a9.1))else(lW a9 ag8 (a9.1,(max a9.2.1 (at' p0 a9.2.2))))))else(pG  (a9.1,a9.2.1))
def mY (U:Nat) (p0:bW):Option iC:=
 bZ (pH p0) U ((-1073741824:Int),(-1073741824:Int),(0:Int))
theorem Lh:a_ Tryz.prog 167:=Tryz.call167
theorem vT (U:Nat) {p0:bW} (v0:Value) (r:gC) (h:mY U p0=some r):
  bJ Tryz.prog 167 #[v0] [Sl bT v0 p0] (fun x:Unit=>Value.tuple #[vI (r.1),vI (r.2)]) (fun x l=>l) (fun _ l=>l):=by
 refine bJ.of Tryz.func167 rfl Tryz.ntmps167 rfl fun c=>?_
 unfold mY at h
 refine aX<|aF rfl<|aF rfl<|aP<|aX<|aF rfl<|aF rfl<|aP<|aM<|kF (fun a3=>pG  a3=some r) (fun a3 b4=>[(2,vI (a3.1)),(3,vI (a3.2))]) (fun a3 b4=>[]) ?_ ?_
 ·refine aX<|aA rfl<|mS (aG.fact 0 rfl) rfl<|aA rfl<|aP<|aY<|hJ (pH p0) (fun a9 b10=>[(2,vI (a9.1)),(3,vI (a9.2.1)),(6,v0),(7,vI (List.length p0:Int)),(8,vI (a9.2.2))]) (fun a9 b10=>[]) ((-1073741824:Int),(-1073741824:Int),(0:Int)) () h SF (aT.refl _) ?_
  intro k11 a9 b10 h
  refine aX<|eD rfl<|aP<|aM ?_
  refine gP h rfl (fun h=>?_) fun h=>?_
  ·refine eL<|aM<|kF (fun a15=>lW a9 (bZ (pH p0) k11) a15=some r) (fun a15 b16=>[(2,vI (a15.1)),(3,vI (a15.2)),(6,v0),(7,vI (List.length p0:Int)),(8,vI (a9.2.2))]) (fun a15 b16=>[]) ?_ ?_
   ·refine aY<|aX<|eM h fun j17 h=>aE (bQ rfl rfl (aG.fact 0 rfl) rfl rfl j17) rfl<|aE (cF rfl (aG.fact 0 rfl) rfl rfl rfl dJ j17) rfl<|aF rfl<|aP<|aX<|aA rfl<|aA rfl<|aE (BO rfl rfl) rfl<|aP ?_
    refine gP h rfl (fun h=>?_) fun h=>?_
    ·refine aS<|aA rfl<|aA rfl<|aF rfl<|aF rfl<|fU<|qB ?_
     exact jO ((at' p0 a9.2.2),a9.1) () h SF rfl
    refine aS<|aA rfl<|aA rfl<|aE (En rfl rfl) rfl<|aF rfl<|fU<|qB ?_
    exact jO (a9.1,(max a9.2.1 (at' p0 a9.2.2))) () h SF rfl
   intro a15 b16 h
   unfold lW at h
   refine aS<|eC rfl<|aA rfl<|aP ?_
   exact BF (a15.1,a15.2,(wI .i64 (a9.2.2+(1:Int)))) () h SF rfl
  refine iV ?_
  exact jO (a9.1,a9.2.1) () h SF rfl
 intro a3 b4 h
 unfold pG at h
 refine aX<|aA rfl<|aA rfl<|aF rfl<|aF rfl<|aP<|aW ?_
 cases h
 exact iY () rfl rfl (RV.tmp rfl) (RV.tmp rfl) (aT.refl _) aH.nil
end
section
def qI  (a1:Unit):Option (Int):=
 some (-1:Int)
def iA (p0:bW) (p1:Int) (a5:Int) (ag4:(Int)->Option (Int)):Option (Int):=
 if a5<(List.length p0:Int)then(ck (0<=a5∧a5<(List.length p0:Int)) (if p1=(at' p0 a5)then(some (a5))else(ag4 (wI .i64 (a5+(1:Int))))))else(qI  (()))
def mL (U:Nat) (p0:bW) (p1:Int):Option (Int):=
 bZ (iA p0 p1) U (0:Int)
theorem RI:a_ Tryz.prog 178:=Tryz.call178
theorem Fi (U:Nat) {p0:bW} {p1:Int} (v0:Value) (r:Int) (h:mL U p0 p1=some r):
  bJ Tryz.prog 178 #[v0,vI (p1)] [Sl bT v0 p0] (fun x:Unit=>vI (r)) (fun x l=>l) (fun _ l=>l):=by
 refine bJ.of Tryz.func178 rfl Tryz.ntmps178 rfl fun c=>?_
 unfold mL at h
 refine aX<|aF rfl<|aP<|aM<|kF (fun a1=>qI  a1=some r) (fun a1 b2=>[]) (fun a1 b2=>[]) ?_ ?_
 ·refine aX<|aA rfl<|mS (aG.fact 0 rfl) rfl<|aA rfl<|aP<|aY<|hJ (iA p0 p1) (fun a5 b6=>[(0,v0),(1,vI (p1)),(7,vI (List.length p0:Int)),(8,vI (a5))]) (fun a5 b6=>[]) (0:Int) () h SF (aT.refl _) ?_
  intro k7 a5 b6 h
  refine aX<|eD rfl<|aP<|aM ?_
  refine gP h rfl (fun h=>?_) fun h=>?_
  ·refine eL<|aM<|aY<|aX<|aA rfl<|aF rfl<|aP<|aX<|aA rfl<|aA rfl<|aA rfl<|eM h fun j9 h=>aE (bQ rfl rfl (aG.fact 0 rfl) rfl rfl j9) rfl<|aE (cF rfl (aG.fact 0 rfl) rfl rfl rfl dJ j9) rfl<|dL rfl<|aP ?_
   refine gP h rfl (fun h=>?_) fun h=>?_
   ·refine aX<|aA rfl<|aF rfl<|aP<|aW<|cA<|aL<|aL<|cA<|aL ?_
    cases h
    exact mN rfl
   refine f_<|qB<|aS<|eC rfl<|aA rfl<|aP ?_
   exact BF (wI .i64 (a5+(1:Int))) () h SF rfl
  refine iV ?_
  exact jO () (()) h SF rfl
 intro a1 b2 h
 unfold qI at h
 refine aX<|aF rfl<|aP<|aW ?_
 cases h
 exact mN rfl
end
section
def nS (U:Nat) (p0:bW) (p1:Int):Option (Bool):=
 Option.bind (mL U p0 p1) fun r1=>(some (decide ((0:Int)<=r1)))
theorem RH:a_ Tryz.prog 174:=Tryz.call174
theorem Cs (U:Nat) {p0:bW} {p1:Int} (v0:Value) (r:Bool) (h:nS U p0 p1=some r):
  bJ Tryz.prog 174 #[v0,vI (p1)] [Sl bT v0 p0] (fun x:Unit=>vB (r)) (fun x l=>l) (fun _ l=>l):=by
 refine bJ.of Tryz.func174 rfl Tryz.ntmps174 rfl fun c=>?_
 refine aX<|aF rfl<|aP<|aX<|aA rfl<|aA rfl<|gK h fun r1 w2 h=>aK (aN.callQ RI (Fi U v0 r1 w2) rfl (pJ [0] rfl)) rfl fun x3=>aE (Dj rfl rfl) rfl<|aF rfl<|aP<|aW ?_
 cases h
 exact mN rfl
end
section
def wL  (a2:Int):Option (Int):=
 some (a2)
def tH (U:Nat) (p0:bW) (a6:Int) (ag5:(Int)->Option (Int)):Option (Int):=
 Option.bind (nS U p0 a6) fun r9=>(if r9=true then(ag5 (wI .i64 (a6+(1:Int))))else(wL  (a6)))
def vG (U:Nat) (p0:bW):Option (Int):=
 bZ (tH U p0) U (0:Int)
theorem RG:a_ Tryz.prog 168:=Tryz.call168
theorem KO (U:Nat) {p0:bW} (v0:Value) (r:Int) (h:vG U p0=some r):
  bJ Tryz.prog 168 #[v0] [Sl bT v0 p0] (fun x:Unit=>vI (r)) (fun x l=>l) (fun _ l=>l):=by
 refine bJ.of Tryz.func168 rfl Tryz.ntmps168 rfl fun c=>?_
 unfold vG at h
 refine aX<|aF rfl<|aP<|aX<|aF rfl<|aP<|aM<|kF (fun a2=>wL  a2=some r) (fun a2 b3=>[(3,vI (a2))]) (fun a2 b3=>[]) ?_ ?_
 ·refine aY<|hJ (tH U p0) (fun a6 b7=>[(0,v0),(3,vI (a6))]) (fun a6 b7=>[]) (0:Int) () h SF (aT.refl _) ?_
  intro k8 a6 b7 h
  refine aM<|aX<|aA rfl<|aA rfl<|gK h fun r9 w10 h=>aK (aN.callQ RH (Cs U v0 r9 w10) rfl (pJ [0] rfl)) rfl fun x11=>aP ?_
  refine AQ h rfl (fun _ h=>?_) fun _ h=>?_
  ·refine eL<|aY<|aS<|aA rfl<|eC rfl<|aF rfl<|fU<|qB ?_
   exact BF (wI .i64 (a6+(1:Int))) () h SF rfl
  refine iV ?_
  exact jO (a6) () h SF rfl
 intro a2 b3 h
 unfold wL at h
 refine aX<|aA rfl<|aF rfl<|aP<|aW ?_
 cases h
 exact mN rfl
end
section
def uF  (a25:Int):Option (Int):=
 some (a25)
def oQ (p1:bW) (a30:gC) (ag29:iC->Option (Int)):Option (Int):=
 if a30.2<(List.length p1:Int)then(ck (0<=a30.2∧a30.2<(List.length p1:Int)) (ag29 ((min a30.1 (at' p1 a30.2)),(wI .i64 (a30.2+(1:Int))))))else(uF  (a30.1))
def yG (U:Nat) (a41:Int):Option (Int):=
 Option.bind (gN U a41) fun r43=>(some (r43))
def oS (U:Nat) (p1:bW) (a49:gC) (ag48:iC->Option (Int)):Option (Int):=
 if a49.2<(List.length p1:Int)then(ck (0<=a49.2∧a49.2<(List.length p1:Int)) (ag48 ((wI .i64 (a49.1+(at' p1 a49.2))),(wI .i64 (a49.2+(1:Int))))))else(yG U (a49.1))
def wM (U:Nat) (p0:Int) (p1:bW):Option (Int):=
 if p0=(20:Int)then(Option.bind (mX U p1) fun r2=>(Option.bind (gA U (decide (r2=(List.length p1:Int)))) fun r5=>(some (r5))))else(if p0=(21:Int)then(Option.bind (mX U p1) fun r9=>(Option.bind (gA U (decide ((0:Int)<r9))) fun r12=>(some (r12))))else(if p0=(22:Int)then(Option.bind (mX U p1) fun r16=>(some (r16)))else(if p0=(23:Int)then(Option.bind (kC U p1 (fun y0=>lN U y0)) fun r20=>(some (r20)))else(if p0=(24:Int)then(bZ (oQ p1) U ((1073741824:Int),(0:Int)))else(if p0=(25:Int)then(Option.bind (mY U p1) fun r36=>(some (r36.1)))else(if p0=(26:Int)then(bZ (oS U p1) U ((0:Int),(0:Int)))else(if p0=(27:Int)then(Option.bind (vG U p1) fun r55=>(some (r55)))else(if p0=(28:Int)then(Option.bind (mY U p1) fun r59=>(some (r59.2)))else(if(List.length p1:Int)=(0:Int)then(some (0:Int))else(ck (0<=(0:Int)∧(0:Int)<(List.length p1:Int)) (some (at' p1 (0:Int)))))))))))))
theorem Ry:a_ Tryz.prog 150:=Tryz.call150
theorem Jk (U:Nat) {p0:Int} {p1:bW} (v0:Value) (r:Int) (h:wM U p0 p1=some r):
  bJ Tryz.prog 150 #[vI (p0),v0] [Sl bT v0 p1] (fun x:Unit=>vI (r)) (fun x l=>l) (fun _ l=>l):=by
 refine bJ.of Tryz.func150 rfl Tryz.ntmps150 rfl fun c=>?_
 refine aX<|aF rfl<|aP<|aM<|aX<|aA rfl<|aP<|aY<|aX<|dL rfl<|aF rfl<|aP ?_
 refine gP h rfl (fun h=>?_) fun h=>?_
 ·refine aX<|aA rfl<|gK h fun r2 w3 h=>aK (aN.callQ Hb (yU U v0 r2 w3) rfl (pJ [0] rfl)) rfl fun x4=>aA rfl<|mS (aG.fact 0 rfl) rfl<|dL rfl<|gK h fun r5 w6 h=>aK (aN.callQ sX (i_ U  r5 w6) rfl .nil) rfl fun x7=>aF rfl<|aP<|aW<|cA<|aL ?_
  cases h
  exact mN rfl
 refine aX<|dL rfl<|aF rfl<|aP ?_
 refine gP h rfl (fun h=>?_) fun h=>?_
 ·refine aX<|aA rfl<|gK h fun r9 w10 h=>aK (aN.callQ Hb (yU U v0 r9 w10) rfl (pJ [0] rfl)) rfl fun x11=>aE (BO rfl rfl) rfl<|gK h fun r12 w13 h=>aK (aN.callQ sX (i_ U  r12 w13) rfl .nil) rfl fun x14=>aF rfl<|aP<|aW<|cA<|aL ?_
  cases h
  exact mN rfl
 refine aX<|dL rfl<|aF rfl<|aP ?_
 refine gP h rfl (fun h=>?_) fun h=>?_
 ·refine aX<|aA rfl<|gK h fun r16 w17 h=>aK (aN.callQ Hb (yU U v0 r16 w17) rfl (pJ [0] rfl)) rfl fun x18=>aF rfl<|aP<|aW<|cA<|aL ?_
  cases h
  exact mN rfl
 refine aX<|dL rfl<|aF rfl<|aP ?_
 refine gP h rfl (fun h=>?_) fun h=>?_
 ·refine aX<|aA rfl<|gK h fun r20 w21 h=>aK (aN.callQ RD (BB U 166 [] [] RE (fun y0 r h=>FI U  r h) v0 r20 w21) rfl (pJ [0] rfl)) rfl fun x22=>aF rfl<|aP<|aW<|cA<|aL ?_
  cases h
  exact mN rfl
 refine aX<|dL rfl<|aF rfl<|aP ?_
 refine gP h rfl (fun h=>?_) fun h=>?_
 ·refine aX<|aF rfl<|aP<|aM<|kF (fun a25=>uF  a25=some r) (fun a25 b26=>[(5,vI (a25))]) (fun a25 b26=>[]) ?_ ?_
  ·refine aX<|aA rfl<|mS (aG.fact 0 rfl) rfl<|aA rfl<|aP<|aY<|hJ (oQ p1) (fun a30 b31=>[(5,vI (a30.1)),(40,v0),(41,vI (List.length p1:Int)),(42,vI (a30.2))]) (fun a30 b31=>[]) ((1073741824:Int),(0:Int)) () h SF (aT.refl _) ?_
   intro k32 a30 b31 h
   refine aX<|eD rfl<|aP<|aM ?_
   refine gP h rfl (fun h=>?_) fun h=>?_
   ·refine eL<|aM<|aY<|aX<|eM h fun j34 h=>aE (bQ rfl rfl (aG.fact 0 rfl) rfl rfl j34) rfl<|aE (cF rfl (aG.fact 0 rfl) rfl rfl rfl dJ j34) rfl<|aF rfl<|aP<|aS<|aA rfl<|aA rfl<|aE (NV rfl rfl) rfl<|aF rfl<|fU<|qB<|aS<|eC rfl<|aA rfl<|aP ?_
    exact BF ((min a30.1 (at' p1 a30.2)),(wI .i64 (a30.2+(1:Int)))) () h SF rfl
   refine iV ?_
   exact jO (a30.1) () h SF rfl
  intro a25 b26 h
  unfold uF at h
  refine aX<|aA rfl<|aF rfl<|aP<|aW<|cA<|aL ?_
  cases h
  exact mN rfl
 refine aX<|dL rfl<|aF rfl<|aP ?_
 refine gP h rfl (fun h=>?_) fun h=>?_
 ·refine aX<|aA rfl<|gK h fun r36 w37 h=>aK (aN.callQ Lh (vT U v0 r36 w37) rfl (pJ [0] rfl)) rfl fun x38=>aA rfl<|gB rfl<|gB rfl<|aF rfl<|aF rfl<|aP<|aX<|aA rfl<|aF rfl<|aP<|aW<|cA<|aL ?_
  cases h
  exact mN rfl
 refine aX<|dL rfl<|aF rfl<|aP ?_
 refine gP h rfl (fun h=>?_) fun h=>?_
 ·refine aX<|aF rfl<|aP<|aM<|kF (fun a41=>yG U a41=some r) (fun a41 b42=>[(10,vI (a41))]) (fun a41 b42=>[]) ?_ ?_
  ·refine aX<|aA rfl<|mS (aG.fact 0 rfl) rfl<|aA rfl<|aP<|aY<|hJ (oS U p1) (fun a49 b50=>[(10,vI (a49.1)),(61,v0),(62,vI (List.length p1:Int)),(63,vI (a49.2))]) (fun a49 b50=>[]) ((0:Int),(0:Int)) () h SF (aT.refl _) ?_
   intro k51 a49 b50 h
   refine aX<|eD rfl<|aP<|aM ?_
   refine gP h rfl (fun h=>?_) fun h=>?_
   ·refine eL<|aM<|aY<|aX<|eM h fun j53 h=>aE (bQ rfl rfl (aG.fact 0 rfl) rfl rfl j53) rfl<|aE (cF rfl (aG.fact 0 rfl) rfl rfl rfl dJ j53) rfl<|aF rfl<|aP<|aS<|aA rfl<|aA rfl<|eC rfl<|aF rfl<|fU<|qB<|aS<|eC rfl<|aA rfl<|aP ?_
    exact BF ((wI .i64 (a49.1+(at' p1 a49.2))),(wI .i64 (a49.2+(1:Int)))) () h SF rfl
   refine iV ?_
   exact jO (a49.1) () h SF rfl
  intro a41 b42 h
  refine aX<|aA rfl<|gK h fun r43 w44 h=>aK (aN.callQ Au (jW U  r43 w44) rfl .nil) rfl fun x45=>aF rfl<|aP<|aW<|cA<|aL ?_
  cases h
  exact mN rfl
 refine aX<|dL rfl<|aF rfl<|aP ?_
 refine gP h rfl (fun h=>?_) fun h=>?_
 ·refine aX<|aA rfl<|gK h fun r55 w56 h=>aK (aN.callQ RG (KO U v0 r55 w56) rfl (pJ [0] rfl)) rfl fun x57=>aF rfl<|aP<|aW<|cA<|aL ?_
  cases h
  exact mN rfl
 refine aX<|dL rfl<|aF rfl<|aP ?_
 refine gP h rfl (fun h=>?_) fun h=>?_
 ·refine aX<|aA rfl<|gK h fun r59 w60 h=>aK (aN.callQ Lh (vT U v0 r59 w60) rfl (pJ [0] rfl)) rfl fun x61=>aA rfl<|gB rfl<|gB rfl<|aF rfl<|aF rfl<|aP<|aX<|aA rfl<|aF rfl<|aP<|aW<|cA<|aL ?_
  cases h
  exact mN rfl
 refine f_<|qB<|aM<|aX<|aA rfl<|mS (aG.fact 0 rfl) rfl<|dL rfl<|aP ?_
 refine gP h rfl (fun h=>?_) fun h=>?_
 ·refine aX<|aF rfl<|aP<|aW<|aL ?_
  cases h
  exact mN rfl
 refine eL<|aX<|aA rfl<|eM h fun j63 h=>aE (bQ rfl rfl (aG.fact 0 rfl) rfl rfl j63) rfl<|aE (cF rfl (aG.fact 0 rfl) rfl rfl rfl dJ j63) rfl<|aF rfl<|aP<|aW ?_
 cases h
 exact mN rfl
end
section
def kI  (a17:gC):Option iC:=
 some (a17.1,a17.2)
def iI (U:Nat) (p0:HS) (p1:Int) (a23:Int×bW) (a26:Int):Option iC:=
 ck (0<=(List.length (at' p0.1.2.1.2 p0.2.2.1):Int)∧(List.length (at' p0.1.2.1.2 p0.2.2.1):Int)<=((24:Nat):Int)∧(List.length (at' p0.1.2.1.2 p0.2.2.1):Int)<=(List.length a23.2:Int)) (Option.bind (wM U ((at' p0.2.2.2 p1).1) (List.take (Int.toNat (List.length (at' p0.1.2.1.2 p0.2.2.1):Int)) a23.2)) fun r29=>(kI  (r29,a26)))
def nN (U:Nat) (p0:HS) (p1:Int) (a23:Int×bW):Option iC:=
 if(List.length (at' p0.1.2.1.2 p0.2.2.1):Int)=(0:Int)then(Option.bind (yL U p0.2.2.2 p1) fun r33=>(iI U p0 p1 a23 (r33)))else(iI U p0 p1 a23 (a23.1))
def iJ (U:Nat) (p0:HS) (p1:Int) (rc:SS->Int->Int->Option iC) (a40:Int×Int×bW) (ag39:(Int×Int×bW)->Option iC):Option iC:=
 if a40.2.1<(List.length (at' p0.1.2.1.2 p0.2.2.1):Int)then(Option.bind (rc ((((((p0.1.1.1,p0.1.1.2.1,p0.1.1.2.2)),((p0.1.2.1.1,p0.1.2.1.2)),p0.1.2.2.1,p0.1.2.2.2)),p0.2.1,p0.2.2.1,p0.2.2.2)) (wI .i64 (p1+(1:Int))) a40.2.1) fun r44=>(ck ((0<=a40.2.1∧a40.2.1<((24:Nat):Int))∧List.length a40.2.2=24) (ag39 (r44.2,(wI .i64 (a40.2.1+(1:Int))),(List.set a40.2.2 (Int.toNat a40.2.1) r44.1)))))else(nN U p0 p1 (a40.1,a40.2.2))
def cO (rc:SS->Int->Int->Option iC) (U:Nat) (p0:HS) (p1:Int) (p2:Int):Option iC:=
 ck (0<=p1∧p1<(List.length p0.2.2.2:Int)) (if((at' p0.2.2.2 p1).1)<=(17:Int)then(Option.bind (jR U ((((((p0.1.1.1,p0.1.1.2.1,p0.1.1.2.2)),((p0.1.2.1.1,p0.1.2.1.2)),p0.1.2.2.1,p0.1.2.2.2)),p0.2.1,p0.2.2.1,p0.2.2.2)) ((((at' p0.2.2.2 p1).1),((at' p0.2.2.2 p1).2))) p2) fun r4=>(some (r4,(wI .i64 (p1+(1:Int))))))else(if((at' p0.2.2.2 p1).1)<=(19:Int)then(Option.bind (rc ((((((p0.1.1.1,p0.1.1.2.1,p0.1.1.2.2)),((p0.1.2.1.1,p0.1.2.1.2)),p0.1.2.2.1,p0.1.2.2.2)),p0.2.1,p0.2.2.1,p0.2.2.2)) (wI .i64 (p1+(1:Int))) p2) fun r8=>(Option.bind (uG U ((at' p0.2.2.2 p1).1) r8.1) fun r11=>(some (r11,r8.2))))else(if((at' p0.2.2.2 p1).1)<=(29:Int)then(ck (0<=p0.2.2.1∧p0.2.2.1<(List.length p0.1.2.1.2:Int)) (bZ (iJ U p0 p1 rc) U ((0:Int),(0:Int),(List.replicate 24 (0:Int)))))else(if((at' p0.2.2.2 p1).1)<=(42:Int)then(Option.bind (rc ((((((p0.1.1.1,p0.1.1.2.1,p0.1.1.2.2)),((p0.1.2.1.1,p0.1.2.1.2)),p0.1.2.2.1,p0.1.2.2.2)),p0.2.1,p0.2.2.1,p0.2.2.2)) (wI .i64 (p1+(1:Int))) p2) fun r49=>(Option.bind (rc ((((((p0.1.1.1,p0.1.1.2.1,p0.1.1.2.2)),((p0.1.2.1.1,p0.1.2.1.2)),p0.1.2.2.1,p0.1.2.2.2)),p0.2.1,p0.2.2.1,p0.2.2.2)) r49.2 p2) fun r52=>(Option.bind (s_ U ((at' p0.2.2.2 p1).1) r49.1 r52.1) fun r55=>(some (r55,r52.2)))))else(Option.bind (rc ((((((p0.1.1.1,p0.1.1.2.1,p0.1.1.2.2)),((p0.1.2.1.1,p0.1.2.1.2)),p0.1.2.2.1,p0.1.2.2.2)),p0.2.1,p0.2.2.1,p0.2.2.2)) (wI .i64 (p1+(1:Int))) p2) fun r58=>(Option.bind (rc ((((((p0.1.1.1,p0.1.1.2.1,p0.1.1.2.2)),((p0.1.2.1.1,p0.1.2.1.2)),p0.1.2.2.1,p0.1.2.2.2)),p0.2.1,p0.2.2.1,p0.2.2.2)) r58.2 p2) fun r61=>(Option.bind (rc ((((((p0.1.1.1,p0.1.1.2.1,p0.1.1.2.2)),((p0.1.2.1.1,p0.1.2.1.2)),p0.1.2.2.1,p0.1.2.2.2)),p0.2.1,p0.2.2.1,p0.2.2.2)) r61.2 p2) fun r64=>(if r58.1≠(0:Int)then(some (r61.1,r64.2))else(some (r64.1,r64.2))))))))))
def bS:Nat->SS->Int->Int->Option iC
 |0,_,_,_=>none
 |U+1,p0,p1,p2=>cO (bS U) U p0 p1 p2
theorem wJ:a_ Tryz.prog 111:=Tryz.call111
theorem yT (rc:SS->Int->Int->Option iC) (U:Nat) (hrc:∀{p0:HS} {p1:Int} {p2:Int} (bx0:Nat)  (bx1:Nat)  (v2:Value)  (v3:Value)  (v4:Value)  (v5:Value)  (z6:oZ)  (v7:Value)  (z8:qU)  (v9:Value)  (z10:qU)  (v11:Value) (r:gC),rc p0 p1 p2=some r->bJ Tryz.prog 111 #[vP bx0,vI (p1),vI (p2)] [cR bx0 [vP bx1,v9,vI (p0.2.2.1),v11] 175,cR bx1 [vS (p0.1.1.1),v2,v3,v4,v5,vI (p0.1.2.2.1),v7] 161,Sl aD v2 p0.1.1.2.1,Sl aB v3 p0.1.1.2.2,Sl bT v4 p0.1.2.1.1,S2 bM v5 z6 p0.1.2.1.2,S2 bT v7 z8 p0.1.2.2.2,S2 bT v9 z10 p0.2.1,Sl bM v11 p0.2.2.2] (fun x:Unit=>Value.tuple #[vI (r.1),vI (r.2)]) (fun x l=>l) (fun _ l=>l)) {p0:HS} {p1:Int} {p2:Int} (bx0:Nat)  (bx1:Nat)  (v2:Value)  (v3:Value)  (v4:Value)  (v5:Value)  (z6:oZ)  (v7:Value)  (z8:qU)  (v9:Value)  (z10:qU)  (v11:Value) (r:gC) (h:cO rc U p0 p1 p2=some r):
  bJ Tryz.prog 111 #[vP bx0,vI (p1),vI (p2)] [cR bx0 [vP bx1,v9,vI (p0.2.2.1),v11] 175,cR bx1 [vS (p0.1.1.1),v2,v3,v4,v5,vI (p0.1.2.2.1),v7] 161,Sl aD v2 p0.1.1.2.1,Sl aB v3 p0.1.1.2.2,Sl bT v4 p0.1.2.1.1,S2 bM v5 z6 p0.1.2.1.2,S2 bT v7 z8 p0.1.2.2.2,S2 bT v9 z10 p0.2.1,Sl bM v11 p0.2.2.2] (fun x:Unit=>Value.tuple #[vI (r.1),vI (r.2)]) (fun x l=>l) (fun _ l=>l):=by
 refine bJ.of Tryz.func111 rfl Tryz.ntmps111 rfl fun c=>?_
 refine aX<|aF rfl<|aF rfl<|aP<|aX<|aA rfl<|aE (bO rfl) rfl<|cV rfl<|aE (dO rfl (aG.fact 0 rfl) rfl rfl rfl) rfl<|aA rfl<|eM h fun j1 h=>aE (bQ rfl rfl (aG.fact 8 rfl) rfl rfl j1) rfl<|aE (iR (cs:=[vI ((at' p0.2.2.2 p1).1),vI ((at' p0.2.2.2 p1).2)]) rfl (aG.fact 8 rfl) bN rfl rfl rfl rfl j1) rfl<|aK (aN.alloc (cs:=Qu) rfl rfl) rfl fun b2=>cL 0 (vs:=[vI ((at' p0.2.2.2 p1).1),vI ((at' p0.2.2.2 p1).2)]) rfl rfl rfl rfl rfl rfl<|aP<|aM<|aY<|aX<|cV rfl<|iF 0 rfl<|aE (BP rfl rfl) rfl<|aF rfl<|aP ?_
 refine gP h rfl (fun h=>?_) fun h=>?_
 ·refine aX<|aA rfl<|fH 0 rfl<|aA rfl<|gK h fun r4 w5 h=>aK (aN.callQ Rt (AW U bx0 bx1 v2 v3 v4 v5 z6 v7 z8 v9 z10 v11 r4 w5) rfl (pJ [0,1,2,3,4,5,6,7,8] rfl)) rfl fun x6=>aA rfl<|eC rfl<|aF rfl<|aF rfl<|aP<|aW<|cA<|aL ?_
  cases h
  exact iY () rfl rfl (RV.tmp rfl) (RV.tmp rfl) .nil aH.nil
 refine aX<|cV rfl<|iF 0 rfl<|aE (BP rfl rfl) rfl<|aF rfl<|aP ?_
 refine gP h rfl (fun h=>?_) fun h=>?_
 ·refine aX<|aA rfl<|aA rfl<|eC rfl<|aA rfl<|gK h fun r8 w9 h=>aK (aN.callQ wJ (hrc bx0 bx1 v2 v3 v4 v5 z6 v7 z8 v9 z10 v11 r8 w9) rfl (pJ [0,1,2,3,4,5,6,7,8] rfl)) rfl fun x10=>aA rfl<|gB rfl<|gB rfl<|aF rfl<|aF rfl<|aP<|aX<|cV rfl<|iF 0 rfl<|aA rfl<|gK h fun r11 w12 h=>aK (aN.callQ Ru (HN U  r11 w12) rfl .nil) rfl fun x13=>aA rfl<|aF rfl<|aF rfl<|aP<|aW<|cA<|aL ?_
  cases h
  exact iY () rfl rfl (RV.tmp rfl) (RV.tmp rfl) .nil aH.nil
 refine aX<|cV rfl<|iF 0 rfl<|aE (BP rfl rfl) rfl<|aF rfl<|aP ?_
 refine gP h rfl (fun h=>?_) fun h=>?_
 ·refine aX<|aA rfl<|cV rfl<|iF 0 rfl<|aA rfl<|GM (A:=gC) (B:=Unit) (vs:=[vP bx0,vI ((at' p0.2.2.2 p1).1),vI (p1)]) (fun a17=>kI  a17=some r) (fun a17 b18=>Value.tuple #[vI (a17.1),vI (a17.2)]) (fun a17 b18=>[]) (fun a17 b18=>[cR bx0 [vP bx1,v9,vI (p0.2.2.1),v11] 175,cR bx1 [vS (p0.1.1.1),v2,v3,v4,v5,vI (p0.1.2.2.1),v7] 161,Sl aD v2 p0.1.1.2.1,Sl aB v3 p0.1.1.2.2,Sl bT v4 p0.1.2.1.1,S2 bM v5 z6 p0.1.2.1.2,S2 bT v7 z8 p0.1.2.2.2,S2 bT v9 z10 p0.2.1,Sl bM v11 p0.2.2.2]) (yW.fn (show a_ Tryz.prog 138 from Tryz.call138) rfl) Tryz.func138 rfl Tryz.ntmps138 rfl rfl ?_ ?_
  ·refine aX<|aF rfl<|aF rfl<|aP<|aX ?_
   refine aK (aN.alloc (cs:=cellsOf cB (List.replicate 24 (0:Int))) rfl (by kernel_rfl)) rfl fun b19=>?_
   refine aP<|aM ?_
   refine JR.start [0,1,3,7,15,31,63,127,0,256,768,1792,4095,8191,16383,32767] 12 mixedOrders (by decide +kernel) ?_
   refine JR.open (by exact rfl) ?_
   refine bL rfl<|mP rfl (bO rfl)<|c_ rfl<|bY rfl .nil (q_ 0 rfl) (dO rfl (aG.fact 0 rfl) rfl rfl rfl) aI.z<|mP rfl (bO rfl)<|c_ rfl<|c_ rfl<|bY rfl .nil (q_ 1 rfl) (dO rfl (aG.fact 0 rfl) rfl rfl rfl) aI.z<|bL rfl<|mP rfl (bO rfl)<|c_ rfl<|bY rfl .nil (q_ 0 rfl) (dO rfl (aG.fact 0 rfl) rfl rfl rfl) aI.z<|cD 12 rfl rfl<|eM h fun j20 h=>aE (dK rfl rfl (aG.fact 5 rfl) rfl rfl j20) rfl<|aE (eI rfl (aG.fact 5 rfl) rfl rfl j20) rfl<|aE (kQ rfl (aG.el (aG.fact 5 rfl) j20.1 j20.2) rfl) rfl<|aF rfl<|aP<|aM<|kF (fun a23=>nN U p0 p1 a23=some r) (fun a23 b24=>[(0,vP bx0),(1,vI ((at' p0.2.2.2 p1).1)),(2,vI (p1)),(7,vI (a23.1)),(8,vP b19),(9,vI (List.length (at' p0.1.2.1.2 p0.2.2.1):Int))]) (fun a23 b24=>[cR b19 (cellsOf cB a23.2) 213]) ?_ ?_
   ·refine aX<|aA rfl<|aA rfl<|aP<|aY<|hJ (iJ U p0 p1 rc) (fun a40 b41=>[(0,vP bx0),(1,vI ((at' p0.2.2.2 p1).1)),(2,vI (p1)),(7,vI (a40.1)),(8,vP b19),(9,vI (List.length (at' p0.1.2.1.2 p0.2.2.1):Int)),(26,vI (List.length (at' p0.1.2.1.2 p0.2.2.1):Int)),(27,vI (a40.2.1))]) (fun a40 b41=>[cR b19 (cellsOf cB a40.2.2) 213]) ((0:Int),(0:Int),(List.replicate 24 (0:Int))) () h SF (aT.ix [0] rfl rfl) ?_
    intro k42 a40 b41 h
    refine aX<|eD rfl<|aP<|aM ?_
    refine gP h rfl (fun h=>?_) fun h=>?_
    ·refine eL<|aM<|aY<|aX<|aA rfl<|aF rfl<|aP<|aS<|aA rfl<|aA rfl<|aA rfl<|eC rfl<|aA rfl<|gK h fun r44 w45 h=>aK (aN.callQ wJ (hrc bx0 bx1 v2 v3 v4 v5 z6 v7 z8 v9 z10 v11 r44 w45) rfl (pJ [0,1,2,3,4,5,6,7,8] rfl)) rfl fun x46=>aA rfl<|gB rfl<|gB rfl<|eM h fun j47 h=>aE (lL rfl rfl rfl rfl rfl j47.1) rfl<|Ej 0 (e:=cB) r44.1 j47 rfl rfl rfl rfl rfl rfl rfl<|aF rfl<|fU<|qB<|aS<|eC rfl<|aA rfl<|aP ?_
     exact BF (r44.2,(wI .i64 (a40.2.1+(1:Int))),(List.set a40.2.2 (Int.toNat a40.2.1) r44.1)) () h SF rfl
    refine iV ?_
    exact jO (a40.1,a40.2.2) () h SF rfl
   intro a23 b24 h
   refine aM<|kF (fun a26=>iI U p0 p1 a23 a26=some r) (fun a26 b27=>[(1,vI ((at' p0.2.2.2 p1).1)),(7,vI (a26)),(8,vP b19),(9,vI (List.length (at' p0.1.2.1.2 p0.2.2.1):Int))]) (fun a26 b27=>[cR b19 (cellsOf cB a23.2) 213]) ?_ ?_
   ·refine aX<|aA rfl<|dL rfl<|aP ?_
    refine gP h rfl (fun h=>?_) fun h=>?_
    ·refine aS<|aA rfl<|aE (bO rfl) rfl<|cV rfl<|aE (dO rfl (aG.fact 0 rfl) rfl rfl rfl) rfl<|aA rfl<|gK h fun r33 w34 h=>aK (aN.callQ Up (KP U v11 r33 w34) rfl (pJ [8] rfl)) rfl fun x35=>aF rfl<|aP ?_
     exact jO (r33) () h SF rfl
    refine eL ?_
    exact jO (a23.1) () h SF rfl
   intro a26 b27 h
   refine aX<|aA rfl<|aA rfl<|eM h fun j28 h=>aE (Kd rfl rfl rfl rfl j28) rfl<|gK h fun r29 w30 h=>aK (aN.callQ Ry (Jk U (Value.slice (some ⟨b19,0,none⟩) (Int.toNat (List.length (at' p0.1.2.1.2 p0.2.2.1):Int)) 24) r29 w30) rfl (aH.cons (NJ (i:=0) rfl cU j28 (by decide)) .nil)) rfl fun x31=>?_
   refine aA rfl<|aF rfl<|aF rfl<|aP<|aW ?_
   exact Bj (r29,a26) () h (.inl rfl) (Nu.r2 rfl (RV.tmp rfl) (RV.tmp rfl)) rfl .nil (aH.refl _ _)
  intro a17 b18 h
  unfold kI at h
  refine gB rfl<|gB rfl<|aF rfl<|aF rfl<|aP<|aW<|cA<|aL ?_
  cases h
  exact iY () rfl rfl (RV.tmp rfl) (RV.tmp rfl) (aT.refl _) aH.nil
 refine aX<|cV rfl<|iF 0 rfl<|aE (BP rfl rfl) rfl<|aF rfl<|aP ?_
 refine gP h rfl (fun h=>?_) fun h=>?_
 ·refine aX<|aA rfl<|aA rfl<|eC rfl<|aA rfl<|gK h fun r49 w50 h=>aK (aN.callQ wJ (hrc bx0 bx1 v2 v3 v4 v5 z6 v7 z8 v9 z10 v11 r49 w50) rfl (pJ [0,1,2,3,4,5,6,7,8] rfl)) rfl fun x51=>aA rfl<|gB rfl<|gB rfl<|aF rfl<|aF rfl<|aP<|aX<|aA rfl<|aA rfl<|aA rfl<|gK h fun r52 w53 h=>aK (aN.callQ wJ (hrc bx0 bx1 v2 v3 v4 v5 z6 v7 z8 v9 z10 v11 r52 w53) rfl (pJ [0,1,2,3,4,5,6,7,8] rfl)) rfl fun x54=>aA rfl<|gB rfl<|gB rfl<|aF rfl<|aF rfl<|aP<|aX<|cV rfl<|iF 0 rfl<|aA rfl<|aA rfl<|gK h fun r55 w56 h=>aK (aN.callQ Rv (FH U  r55 w56) rfl .nil) rfl fun x57=>aA rfl<|aF rfl<|aF rfl<|aP<|aW<|cA<|aL ?_
  cases h
  exact iY () rfl rfl (RV.tmp rfl) (RV.tmp rfl) .nil aH.nil
 refine f_<|qB<|aX<|aA rfl<|aA rfl<|eC rfl<|aA rfl<|gK h fun r58 w59 h=>aK (aN.callQ wJ (hrc bx0 bx1 v2 v3 v4 v5 z6 v7 z8 v9 z10 v11 r58 w59) rfl (pJ [0,1,2,3,4,5,6,7,8] rfl)) rfl fun x60=>aA rfl<|gB rfl<|gB rfl<|aF rfl<|aF rfl<|aP<|aX<|aA rfl<|aA rfl<|aA rfl<|gK h fun r61 w62 h=>aK (aN.callQ wJ (hrc bx0 bx1 v2 v3 v4 v5 z6 v7 z8 v9 z10 v11 r61 w62) rfl (pJ [0,1,2,3,4,5,6,7,8] rfl)) rfl fun x63=>aA rfl<|gB rfl<|gB rfl<|aF rfl<|aF rfl<|aP<|aX<|aA rfl<|aA rfl<|aA rfl<|gK h fun r64 w65 h=>aK (aN.callQ wJ (hrc bx0 bx1 v2 v3 v4 v5 z6 v7 z8 v9 z10 v11 r64 w65) rfl (pJ [0,1,2,3,4,5,6,7,8] rfl)) rfl fun x66=>aA rfl<|gB rfl<|gB rfl<|aF rfl<|aF rfl<|aP<|aM<|aX<|aA rfl<|sD rfl<|aP ?_
 refine gP h rfl (fun h=>?_) fun h=>?_
 ·refine aX<|aA rfl<|aA rfl<|aF rfl<|aF rfl<|aP<|aW<|aL ?_
  cases h
  exact iY () rfl rfl (RV.tmp rfl) (RV.tmp rfl) .nil aH.nil
 refine eL<|aX<|aA rfl<|aA rfl<|aF rfl<|aF rfl<|aP<|aW ?_
 cases h
 exact iY () rfl rfl (RV.tmp rfl) (RV.tmp rfl) .nil aH.nil
theorem Ad (U:Nat):∀{p0:HS} {p1:Int} {p2:Int} (bx0:Nat)  (bx1:Nat)  (v2:Value)  (v3:Value)  (v4:Value)  (v5:Value)  (z6:oZ)  (v7:Value)  (z8:qU)  (v9:Value)  (z10:qU)  (v11:Value) (r:gC),bS U p0 p1 p2=some r->
  bJ Tryz.prog 111 #[vP bx0,vI (p1),vI (p2)] [cR bx0 [vP bx1,v9,vI (p0.2.2.1),v11] 175,cR bx1 [vS (p0.1.1.1),v2,v3,v4,v5,vI (p0.1.2.2.1),v7] 161,Sl aD v2 p0.1.1.2.1,Sl aB v3 p0.1.1.2.2,Sl bT v4 p0.1.2.1.1,S2 bM v5 z6 p0.1.2.1.2,S2 bT v7 z8 p0.1.2.2.2,S2 bT v9 z10 p0.2.1,Sl bM v11 p0.2.2.2] (fun x:Unit=>Value.tuple #[vI (r.1),vI (r.2)]) (fun x l=>l) (fun _ l=>l):=by
 induction U with
 |zero=>intros;rename_i h;cases h
 |succ U ih=>exact fun bx0 bx1 v2 v3 v4 v5 z6 v7 z8 v9 z10 v11 r h=>yT (bS U) U ih bx0 bx1 v2 v3 v4 v5 z6 v7 z8 v9 z10 v11 r h
end
end Go.Proofs.YtlciiihigmgaiaaGreat
end
section
namespace Go.Gx
open Go Go.Sx
noncomputable section
inductive GV where
 |int (k:IntKind) (n:Int)
 |bool (b:Bool)
 |str (n len:Nat)
 |ptr (h off:Nat)
 |pnil
 |sl (h off len sz:Nat)
 |snil
 |map (h:Nat)
 |fn (f:FuncId) (first caps:List GV)
 |fnil
 |inil
 |agg (cs:List GV)
 |tup (vs:List GV)
 |un
 |bad
 |opn (h:Nat)
inductive GO where
 |cells (cs:List GV)
 |mp (es:List (GV×GV))
inductive Tr (α:Type) where
 |lf
 |nd (a:Option α) (l r:Tr α)
def ob {α β:Type} (o:Option α) (f:α->Option β):Option β:=Option.casesOn (motive:=fun _=>Option β) o none f
def Tr.get {α:Type} (t:Tr α):Nat->Option α:=Tr.rec (motive:=fun _=>Nat->Option α) (fun _=>none) (fun a _ _ gl gr n=>Bool.casesOn (motive:=fun _=>Option α) (Nat.beq n 0) (Bool.casesOn (motive:=fun _=>Option α) (Nat.beq (Nat.mod n 2) 1) (gr (Nat.sub (Nat.div n 2) 1)) (gl (Nat.div n 2))) a) t
def x_ {α:Type} (x:Option α) (f:Nat):Nat->Tr α:=Nat.rec (motive:=fun _=>Nat->Tr α) (fun _=> .lf) (fun _ ih n=>bif Nat.beq n 0 then .nd x .lf .lf else bif Nat.beq (Nat.mod n 2) 1 then .nd none (ih (Nat.div n 2)) .lf else .nd none .lf (ih (Nat.sub (Nat.div n 2) 1))) f
def Tr.set {α:Type} (x:Option α) (t:Tr α):Nat->Tr α:=Tr.rec (motive:=fun _=>Nat->Tr α) (fun n=>x_ x (Nat.succ n) n) (fun a l r sl sr n=>Bool.casesOn (motive:=fun _=>Tr α) (Nat.beq n 0) (Bool.casesOn (motive:=fun _=>Tr α) (Nat.beq (Nat.mod n 2) 1) (.nd a l (sr (Nat.sub (Nat.div n 2) 1))) (.nd a (sl (Nat.div n 2)) r)) (.nd x l r)) t
def BN {α R:Type} (x:Option α) (f:Nat):Nat->(Tr α->R)->R:=Nat.rec (motive:=fun _=>Nat->(Tr α->R)->R) (fun _ k=>k .lf) (fun _ ih n k=>Bool.casesOn (motive:=fun _=>R) (Nat.beq n 0) (Bool.casesOn (motive:=fun _=>R) (Nat.beq (Nat.mod n 2) 1) (ih (Nat.sub (Nat.div n 2) 1) fun t=>k (.nd none .lf t)) (ih (Nat.div n 2) fun t=>k (.nd none t .lf))) (k (.nd x .lf .lf))) f
def Tr.setK {α R:Type} (x:Option α) (t:Tr α):Nat->(Tr α->R)->R:=Tr.rec (motive:=fun _=>Nat->(Tr α->R)->R) (fun n k=>BN x (Nat.succ n) n k) (fun a l r sl sr n k=>Bool.casesOn (motive:=fun _=>R) (Nat.beq n 0) (Bool.casesOn (motive:=fun _=>R) (Nat.beq (Nat.mod n 2) 1) (sr (Nat.sub (Nat.div n 2) 1) fun t=>k (.nd a l t)) (sl (Nat.div n 2) fun t=>k (.nd a t r))) (k (.nd x l r))) t
def sn {α:Type} (n:Nat) (f:Nat->α):α:=Nat.rec (motive:=fun _=>α) (f 0) (fun m _=>f (Nat.succ m)) n
def fi {α:Type} (z:Int) (f:Int->α):α:=Int.casesOn (motive:=fun _=>α) z (fun a=>sn a fun a=>f (.ofNat a)) (fun a=>sn a fun a=>f (.negSucc a))
def fb (b:Bool):Option GV:=Bool.casesOn (motive:=fun _=>Option GV) b (some (.bool false)) (some (.bool true))
structure GH where
 n:Nat
 t:Tr (Nat×GO)
def GH.get (H:GH) (h:Nat):Option GO:=ob (H.t.get h) fun p=>some p.2
def GH.ver (H:GH) (h:Nat):Option Nat:=ob (H.t.get h) fun p=>some p.1
def GH.set (H:GH) (h:Nat) (o:GO):GH:=⟨Nat.succ H.n,H.t.set (some (H.n,o)) h⟩
def GH.del (H:GH) (h:Nat):GH:=⟨H.n,H.t.set none h⟩
def GH.newK {α:Type} (H:GH) (o:GO) (f:Nat->GH->α):α:=sn H.n fun n=>H.t.setK (some (n,o)) n fun t=>sn (Nat.succ n) fun m=>f n ⟨m,t⟩
def GH.setK {α:Type} (H:GH) (h:Nat) (o:GO) (f:GH->α):α:=sn H.n fun n=>H.t.setK (some (n,o)) h fun t=>sn (Nat.succ n) fun m=>f ⟨m,t⟩
def GH.delK {α:Type} (H:GH) (h:Nat) (f:GH->α):α:=H.t.setK none h fun t=>f ⟨H.n,t⟩
def TK (o:GO):Option (List GV):=GO.casesOn (motive:=fun _=>Option (List GV)) o (fun cs=>some cs) (fun _=>none)
def GO.asM (o:GO):Option (List (GV×GV)):=GO.casesOn (motive:=fun _=>Option (List (GV×GV))) o (fun _=>none) (fun es=>some es)
def GH.cells (H:GH) (h:Nat):Option (List GV):=ob (H.get h) TK
abbrev GF:=List (Nat×GV)
def AT (σ:GF) (t:Nat):Option GV:=List.rec (motive:=fun _=>Option GV) none (fun p _ ih=>Bool.casesOn (motive:=fun _=>Option GV) (Nat.beq t p.1) ih (some p.2)) σ
def UR (a b:Int):Bool:=Int.casesOn (motive:=fun _=>Bool) a (fun a=>Int.casesOn (motive:=fun _=>Bool) b (fun b=>Nat.blt a b) (fun _=>false)) (fun a=>Int.casesOn (motive:=fun _=>Bool) b (fun _=>true) (fun b=>Nat.blt b a))
def Vq (a b:Int):Bool:=Int.casesOn (motive:=fun _=>Bool) a (fun a=>Int.casesOn (motive:=fun _=>Bool) b (fun b=>Nat.beq a b) (fun _=>false)) (fun a=>Int.casesOn (motive:=fun _=>Bool) b (fun _=>false) (fun b=>Nat.beq a b))
def TZ (a:Int):Option Nat:=Int.casesOn (motive:=fun _=>Option Nat) a (fun a=>some a) (fun _=>none)
def JF (a b:Nat×Nat):Bool:=bif Nat.beq a.2 b.2 then Nat.beq a.1 b.1 else false
def Ln (a b:Bool):Bool:=Bool.casesOn (motive:=fun _=>Bool) a (Bool.casesOn (motive:=fun _=>Bool) b true false) b
def CB {α:Type} (l:List α):Nat->Option α:=List.rec (motive:=fun _=>Nat->Option α) (fun _=>none) (fun x _ ih n=>Nat.casesOn (motive:=fun _=>Option α) n (some x) ih) l
def Sr {α:Type} (v:α) (l:List α):Nat->Option (List α):=List.rec (motive:=fun _=>Nat->Option (List α)) (fun _=>none) (fun x r ih n=>Nat.casesOn (motive:=fun _=>Option (List α)) n (some (v::r)) (fun n=>ob (ih n) fun r'=>some (x::r'))) l
def BV (vs:List GV):Nat->List GV->Option (List GV):=List.rec (motive:=fun _=>Nat->List GV->Option (List GV)) (fun _ cs=>some cs) (fun v _ ih o cs=>ob (Sr v cs o) fun cs'=>sn (Nat.succ o) fun o'=>ih o' cs') vs
def tk {α:Type} (l:List α):Nat->Option (List α):=List.rec (motive:=fun _=>Nat->Option (List α)) (fun n=>Nat.casesOn (motive:=fun _=>Option (List α)) n (some []) (fun _=>none)) (fun x _ ih n=>Nat.casesOn (motive:=fun _=>Option (List α)) n (some []) (fun n=>ob (ih n) fun r=>some (x::r))) l
def dp {α:Type} (l:List α):Nat->Option (List α):=List.rec (motive:=fun _=>Nat->Option (List α)) (fun n=>Nat.casesOn (motive:=fun _=>Option (List α)) n (some []) (fun _=>none)) (fun x r ih n=>Nat.casesOn (motive:=fun _=>Option (List α)) n (some (x::r)) ih) l
def Vx {α:Type} (l:List α) (o n:Nat):Option (List α):=ob (dp l o) fun r=>tk r n
def jH (l:List UInt8):Nat:=List.rec (motive:=fun _=>Nat) 0 (fun b _ ih=>Nat.add b.toNat (Nat.mul 256 ih)) l
def bD (s:ByteArray):List UInt8:=s.data.toList
def GV.asI (v:GV):Option (IntKind×Int):=GV.casesOn (motive_1:=fun _=>Option (IntKind×Int)) v (fun a0 a1=>some (a0,a1)) (fun _=>none) (fun _ _=>none) (fun _ _=>none) none (fun _ _ _ _=>none) none (fun _=>none) (fun _ _ _=>none) none none (fun _=>none) (fun _=>none) none none (fun _=>none)
def GV.asB (v:GV):Option (Bool):=GV.casesOn (motive_1:=fun _=>Option (Bool)) v (fun _ _=>none) (fun a0=>some a0) (fun _ _=>none) (fun _ _=>none) none (fun _ _ _ _=>none) none (fun _=>none) (fun _ _ _=>none) none none (fun _=>none) (fun _=>none) none none (fun _=>none)
def GV.asP (v:GV):Option fS:=GV.casesOn (motive_1:=fun _=>Option fS) v (fun _ _=>none) (fun _=>none) (fun _ _=>none) (fun a0 a1=>some (a0,a1)) none (fun _ _ _ _=>none) none (fun _=>none) (fun _ _ _=>none) none none (fun _=>none) (fun _=>none) none none (fun _=>none)
def GV.asS (v:GV):Option (Nat×Nat×Nat×Nat):=GV.casesOn (motive_1:=fun _=>Option (Nat×Nat×Nat×Nat)) v (fun _ _=>none) (fun _=>none) (fun _ _=>none) (fun _ _=>none) none (fun a0 a1 a2 a3=>some (a0,a1,a2,a3)) none (fun _=>none) (fun _ _ _=>none) none none (fun _=>none) (fun _=>none) none none (fun _=>none)
def GV.asF (v:GV):Option (Nat×List GV×List GV):=GV.casesOn (motive_1:=fun _=>Option (Nat×List GV×List GV)) v (fun _ _=>none) (fun _=>none) (fun _ _=>none) (fun _ _=>none) none (fun _ _ _ _=>none) none (fun _=>none) (fun a0 a1 a2=>some (a0,a1,a2)) none none (fun _=>none) (fun _=>none) none none (fun _=>none)
def GV.asT (v:GV):Option (List GV):=GV.casesOn (motive_1:=fun _=>Option (List GV)) v (fun _ _=>none) (fun _=>none) (fun _ _=>none) (fun _ _=>none) none (fun _ _ _ _=>none) none (fun _=>none) (fun _ _ _=>none) none none (fun _=>none) (fun a0=>some a0) none none (fun _=>none)
def GV.asStr (v:GV):Option fS:=GV.casesOn (motive_1:=fun _=>Option fS) v (fun _ _=>none) (fun _=>none) (fun a0 a1=>some (a0,a1)) (fun _ _=>none) none (fun _ _ _ _=>none) none (fun _=>none) (fun _ _ _=>none) none none (fun _=>none) (fun _=>none) none none (fun _=>none)
def GV.asM (v:GV):Option (Nat):=GV.casesOn (motive_1:=fun _=>Option (Nat)) v (fun _ _=>none) (fun _=>none) (fun _ _=>none) (fun _ _=>none) none (fun _ _ _ _=>none) none (fun a0=>some a0) (fun _ _ _=>none) none none (fun _=>none) (fun _=>none) none none (fun _=>none)
def GV.asA (v:GV):Option (List GV):=GV.casesOn (motive_1:=fun _=>Option (List GV)) v (fun _ _=>none) (fun _=>none) (fun _ _=>none) (fun _ _=>none) none (fun _ _ _ _=>none) none (fun _=>none) (fun _ _ _=>none) none none (fun a0=>some a0) (fun _=>none) none none (fun _=>none)
def GV.cells (v:GV):Option (List GV):=GV.casesOn (motive_1:=fun _=>Option (List GV)) v (fun a0 a1=>some [GV.int a0 a1]) (fun a0=>some [GV.bool a0]) (fun a0 a1=>some [GV.str a0 a1]) (fun a0 a1=>some [GV.ptr a0 a1]) (some [GV.pnil]) (fun a0 a1 a2 a3=>some [GV.sl a0 a1 a2 a3]) (some [GV.snil]) (fun a0=>some [GV.map a0]) (fun a0 a1 a2=>some [GV.fn a0 a1 a2]) (some [GV.fnil]) (some [GV.inil]) (fun a0=>some a0) (fun a0=>none) (none) (none) (fun a0=>none)
def GV.isSnil (v:GV):Bool:=GV.casesOn (motive_1:=fun _=>Bool) v (fun _ _=>false) (fun _=>false) (fun _ _=>false) (fun _ _=>false) (false) (fun _ _ _ _=>false) (true) (fun _=>false) (fun _ _ _=>false) (false) (false) (fun _=>false) (fun _=>false) (false) (false) (fun _=>false)
def GV.isInil (v:GV):Bool:=GV.casesOn (motive_1:=fun _=>Bool) v (fun _ _=>false) (fun _=>false) (fun _ _=>false) (fun _ _=>false) (false) (fun _ _ _ _=>false) (false) (fun _=>false) (fun _ _ _=>false) (false) (true) (fun _=>false) (fun _=>false) (false) (false) (fun _=>false)
def GV.nilck (v:GV):Option GV:=GV.casesOn (motive_1:=fun _=>Option GV) v (fun a0 a1=>none) (fun a0=>none) (fun a0 a1=>none) (fun a0 a1=>some (GV.ptr a0 a1)) (none) (fun a0 a1 a2 a3=>none) (none) (fun a0=>none) (fun a0 a1 a2=>some (GV.fn a0 a1 a2)) (none) (none) (fun a0=>none) (fun a0=>none) (none) (none) (fun a0=>none)
def tdE (d:TypeDesc):Bool:=TypeDesc.casesOn (motive:=fun _=>Bool) d false false (fun _=>false) (fun _=>false) (fun _=>false) false false (fun _=>false) (fun _=>false) (fun _ _=>false) (fun _ _=>false) (fun _ _=>false) (fun _=>false) (fun _ _ _=>false) (fun a0=>Nat.beq (Array.size a0) 0) (fun _=>false) (fun _ _=>false)
def QP (d:TypeDesc):Option TypeId:=TypeDesc.casesOn (motive:=fun _=>Option TypeId) d none none (fun _=>none) (fun _=>none) (fun _=>none) none none (fun _=>none) (fun a0=>some a0) (fun _ _=>none) (fun _ _=>none) (fun _ _=>none) (fun _=>none) (fun _ _ _=>none) (fun _=>none) (fun _=>none) (fun _ _=>none)
def Vl (d:TypeDesc):Option (Nat×TypeId):=TypeDesc.casesOn (motive:=fun _=>Option (Nat×TypeId)) d none none (fun _=>none) (fun _=>none) (fun _=>none) none none (fun _=>none) (fun _=>none) (fun a0 a1=>some (a0,a1)) (fun _ _=>none) (fun _ _=>none) (fun _=>none) (fun _ _ _=>none) (fun _=>none) (fun _=>none) (fun _ _=>none)
def WR (d:TypeDesc):Option (Array Field):=TypeDesc.casesOn (motive:=fun _=>Option (Array Field)) d none none (fun _=>none) (fun _=>none) (fun _=>none) none none (fun _=>none) (fun _=>none) (fun _ _=>none) (fun _ _=>none) (fun _ _=>none) (fun a0=>some a0) (fun _ _ _=>none) (fun _=>none) (fun _=>none) (fun _ _=>none)
def QO (d:TypeDesc):Option IntKind:=TypeDesc.casesOn (motive:=fun _=>Option IntKind) d none none (fun a0=>some a0) (fun _=>none) (fun _=>none) none none (fun _=>none) (fun _=>none) (fun _ _=>none) (fun _ _=>none) (fun _ _=>none) (fun _=>none) (fun _ _ _=>none) (fun _=>none) (fun _=>none) (fun _ _=>none)
def Du (d:TypeDesc):Bool:=TypeDesc.casesOn (motive:=fun _=>Bool) d false false (fun _=>false) (fun _=>false) (fun _=>false) (true) false (fun _=>false) (fun _=>false) (fun _ _=>false) (fun _ _=>false) (fun _ _=>false) (fun _=>false) (fun _ _ _=>false) (fun _=>false) (fun _=>false) (fun _ _=>false)
def WA (d:TypeDesc):Bool:=TypeDesc.casesOn (motive:=fun _=>Bool) d false (true) (fun _=>false) (fun _=>false) (fun _=>false) false false (fun _=>false) (fun _=>false) (fun _ _=>false) (fun _ _=>false) (fun _ _=>false) (fun _=>false) (fun _ _ _=>false) (fun _=>false) (fun _=>false) (fun _ _=>false)
def tdM (d:TypeDesc):Option (TypeId×TypeId):=TypeDesc.casesOn (motive:=fun _=>Option (TypeId×TypeId)) d none none (fun _=>none) (fun _=>none) (fun _=>none) none none (fun _=>none) (fun _=>none) (fun _ _=>none) (fun a0 a1=>some (a0,a1)) (fun _ _=>none) (fun _=>none) (fun _ _ _=>none) (fun _=>none) (fun _=>none) (fun _ _=>none)
def M_:Value->Option GV
 | .int k n=>some (.int k n)
 | .bool b=>some (.bool b)
 | .slice none 0 0=>some .snil
 | .pointer none=>some .pnil
 | .nilFunc=>some .fnil
 | .nilIface=>some .inil
 | .string s=>sn (jH (bD s)) fun n=>sn (bD s).length fun l=>some (.str n l)
 |_=>none
def Sw:eG->Option (List GV)
 | []=>some []
 |v::vs=>ob (M_ v) fun x=>ob (Sw vs) fun xs=>some (x::xs)
def Wm:Value->Option GV
 | .agg cs=>ob (Sw cs.toList) fun xs=>some (.agg xs)
 |v=>M_ v
def Dd (s:Sem Value):Option GV:=match s with
 | .pure v=>M_ v
 |_=>none
def OT (z:Int):Bool:=Int.casesOn (motive:=fun _=>Bool) z (fun a=>Nat.blt a 9223372036854775808) (fun a=>Nat.blt a 9223372036854775808)
def Tp (k:IntKind):Bool:=IntKind.casesOn (motive:=fun _=>Bool) k false false false true false false false false
def gw (k:IntKind) (z:Int):Option GV:=fi z fun z=>bif Tp k then(bif OT z then some (.int k z)else none)else fi (k.wrap z) fun z=>some (.int k z)
def Vr (a b:IntKind):Bool:=decide (a=b)
def VL (op:BinOp) (k:IntKind) (a b:Int):Option GV:=BinOp.casesOn (motive:=fun _=>Option GV) op (gw k (a+b)) (gw k (a - b)) (Dd (binOp .mul 0 (.int k a) (.int k b))) (Dd (binOp .quo 0 (.int k a) (.int k b))) (Dd (binOp .rem 0 (.int k a) (.int k b))) (Dd (binOp .and 0 (.int k a) (.int k b))) (Dd (binOp .or 0 (.int k a) (.int k b))) (Dd (binOp .xor 0 (.int k a) (.int k b))) (Dd (binOp .shl 0 (.int k a) (.int k b))) (Dd (binOp .shr 0 (.int k a) (.int k b))) (Dd (binOp .andNot 0 (.int k a) (.int k b))) (fb (Vq a b)) (fb (!Vq a b)) (fb (UR a b)) (fb (!UR b a)) (fb (UR b a)) (fb (!UR a b))
def DY (op:BinOp):Bool:=BinOp.casesOn (motive:=fun _=>Bool) op false false false false false false false false true true false false false false false false false
def Uu (a b:Nat×Nat):Option GV:=bif Nat.blt (Nat.add a.2 b.2) 16777216 then sn (Nat.add a.1 (Nat.mul (Nat.pow 2 (Nat.mul 8 a.2)) b.1)) fun n=>sn (Nat.add a.2 b.2) fun l=>some (.str n l)else none
def XZ (op:BinOp) (a b:Nat×Nat):Option GV:=BinOp.casesOn (motive:=fun _=>Option GV) op (Uu a b) none none none none none none none none none none (fb (JF a b)) (fb (!JF a b)) none none none none
def XY (op:BinOp):Option GV:=BinOp.casesOn (motive:=fun _=>Option GV) op none none none none none none none none none none none (some (.bool true)) (some (.bool false)) none none none none
def Rf (op:BinOp) (a b:Bool):Option GV:=BinOp.casesOn (motive:=fun _=>Option GV) op none none none none none none none none none none none (fb (Ln a b)) (fb (!Ln a b)) none none none none
def iG (σ:GF) (o:Operand):Option GV:=Operand.casesOn (motive:=fun _=>Option GV) o (fun t=>AT σ t) Wm (fun _=>none) (fun f=>some (.fn f [] []))
def Bv (σ:GF) (l:List Operand):Option (List GV):=List.rec (motive:=fun _=>Option (List GV)) (some []) (fun x _ ih=>ob (iG σ x) fun v=>ob ih fun vs=>some (v::vs)) l
def pI (σ:GF) (l:List (Nat×Operand)):Option (List (Nat×GV)):=List.rec (motive:=fun _=>Option (List (Nat×GV))) (some []) (fun p _ ih=>ob (iG σ p.2) fun v=>ob ih fun vs=>some ((p.1,v)::vs)) l
abbrev TB:=Nat->Option Ty
def uY (tb:TB) (T:TypeId):Option (TypeId×Ty):=ob (tb T) fun t=>ob (QP t.desc) fun e=>ob (tb e) fun te=>some (e,te)
def HL (tb:TB) (l:List Field):Option (List (Nat×Nat)):=List.rec (motive:=fun _=>Option (List (Nat×Nat))) (some []) (fun f _ ih=>ob (tb f.type) fun t=>ob ih fun r=>some ((f.offset,t.size)::r)) l
def nA (tb:TB) (T:TypeId):Option (List Field):=ob (tb T) fun t=>ob (WR t.desc) fun fs=>some fs.toList
def IS (tb:TB) (T:TypeId):Option (List (Nat×Nat)):=ob (nA tb T) fun fs=>HL tb fs
abbrev OR:=Option (GV×GH)
def cQ (c a b:GV):Option GV:=ob c.asB fun q=>Bool.casesOn (motive:=fun _=>Option GV) q (some b) (some a)
def Se (v:GV):Option Nat:=bif v.isSnil then some 0 else ob v.asS fun s=>some s.2.2.1
def KA (t:Ty) (a b:GV):Option Bool:=Option.casesOn (motive:=fun _=>Option Bool) a.asI (Option.casesOn (motive:=fun _=>Option Bool) a.asStr (ob a.asB fun x=>ob b.asB fun y=>bif WA t.desc then some (Ln x y)else none) fun x=>ob b.asStr fun y=>bif Du t.desc then some (JF x y)else none) fun x=>ob b.asI fun y=>ob (QO t.desc) fun _=>bif Vr x.1 y.1 then some (Vq x.2 y.2)else none
def RQ (tb:TB) (cs ds:List GV) (fs:List Field):Option Bool:=List.rec (motive:=fun _=>Option Bool) (some true) (fun f _ ih=>ob (tb f.type) fun t=>ob (CB cs f.offset) fun a=>ob (CB ds f.offset) fun b=>ob (KA t a b) fun q=>bif q then ih else some false) fs
def Bb (t:Ty):Bool:=bif WA t.desc then true else bif Du t.desc then true else Option.casesOn (motive:=fun _=>Bool) (QO t.desc) false fun _=>true
def rQ (tb:TB) (fs:List Field):Bool:=List.rec (motive:=fun _=>Bool) true (fun f _ ih=>Option.casesOn (motive:=fun _=>Bool) (tb f.type) false fun t=>bif Bb t then ih else false) fs
def Gb (T:Nat):Bool:=bif Nat.blt 31 T then Nat.blt T 512 else false
def Qq (tb:TB) (op:BinOp) (T:TypeId) (v u:GV):Option GV:=Option.casesOn (motive:=fun _=>Option GV) v.asA (bif u.isSnil then ob (Se v) fun _=>ob (tb T) fun t=>ob (QP t.desc) fun _=>Rf op v.isSnil true else none) fun cs=>ob u.asA fun ds=>bif Gb T then ob (nA tb T) fun fs=>bif rQ tb fs then ob (RQ tb cs ds fs) fun q=>Rf op q true else none else none
def gS (tb:TB) (op:BinOp) (T:TypeId) (v u:GV):Option GV:=
 Option.casesOn (motive:=fun _=>Option GV) v.asI
  (Option.casesOn (motive:=fun _=>Option GV) v.asStr (Option.casesOn (motive:=fun _=>Option GV) v.asB (bif v.isInil then(bif u.isInil then ob (tb T) fun t=>bif tdE t.desc then XY op else none else none)else Qq tb op T v u) fun a=>ob u.asB fun b=>ob (tb T) fun t=>bif WA t.desc then Rf op a b else none) fun a=>ob u.asStr fun b=>XZ op a b)
  fun a=>ob u.asI fun b=>bif DY op then Dd (binOp op 0 (.int a.1 a.2) (.int b.1 b.2))else bif Vr a.1 b.1 then VL op a.1 a.2 b.2 else none
def wB (op:UnOp) (v:GV):Option GV:=UnOp.casesOn (motive:=fun _=>Option GV) op (ob v.asI fun a=>gw a.1 (0 - a.2)) none (ob v.asB fun b=>fb (!b)) none
def Mc (tb:TB) (S D:TypeId) (v:GV):Option GV:=ob v.asI fun a=>ob (tb S) fun s=>ob (QO s.desc) fun _=>ob (tb D) fun t=>ob (QO t.desc) fun k=>fi (k.wrap a.2) fun z=>some (.int k z)
def vB (o:Option GV) (d:Nat):Option Nat:=Option.casesOn (motive:=fun _=>Option Nat) o (some d) fun v=>ob v.asI fun a=>TZ a.2
def Tb (s:Nat×Nat) (l h:Nat):Option GV:=bif Nat.ble l h then(bif Nat.ble h s.2 then sn (Nat.mod (Nat.shiftRight s.1 (Nat.mul 8 l)) (Nat.pow 2 (Nat.mul 8 (Nat.sub h l)))) fun n=>sn (Nat.sub h l) fun k=>some (.str n k)else none)else none
def S_ (s:Nat×Nat×Nat×Nat) (sz l h:Nat):Option GV:=bif Nat.beq sz s.2.2.2 then(bif Nat.ble l h then(bif Nat.ble h s.2.2.1 then sn (Nat.add s.2.1 (Nat.mul l sz)) fun o=>sn (Nat.sub h l) fun k=>some (.sl s.1 o k sz)else none)else none)else none
def Ta (p:Nat×Nat) (n sz l h:Nat):Option GV:=bif Nat.ble l h then(bif Nat.ble h n then(bif Nat.beq sz 0 then none else sn (Nat.add p.2 (Nat.mul l sz)) fun o=>sn (Nat.sub h l) fun k=>some (.sl p.1 o k sz))else none)else none
def pN (tb:TB) (T:TypeId) (v:GV) (lo hi:Option GV) (H:GH):Option GV:=ob (vB lo 0) fun l=>ob (tb T) fun t=>
 Option.casesOn (motive:=fun _=>Option GV) v.asStr
  (Option.casesOn (motive:=fun _=>Option GV) v.asS
   (Bool.casesOn (motive:=fun _=>Option GV) v.isSnil (ob v.asP fun p=>ob (Vl t.desc) fun e=>ob (tb e.2) fun te=>ob (vB hi e.1) fun h=>ob (H.cells p.1) fun cs=>bif Nat.ble (Nat.add p.2 (Nat.mul e.1 te.size)) cs.length then Ta p e.1 te.size l h else none) (ob (QP t.desc) fun e=>ob (tb e) fun te=>ob (vB hi 0) fun h=>bif Nat.beq l 0 then(bif Nat.beq h 0 then some .snil else none)else none))
   fun s=>ob (QP t.desc) fun e=>ob (tb e) fun te=>ob (vB hi s.2.2.1) fun h=>S_ s te.size l h)
  fun s=>ob (vB hi s.2) fun h=>bif Du t.desc then Tb s l h else none
def dG (tb:TB) (T:TypeId) (f:Nat) (v:GV):Option GV:=ob v.asP fun p=>ob (nA tb T) fun fs=>ob (CB fs f) fun q=>ob (tb q.type) fun tq=>bif Nat.beq tq.size 0 then none else sn (Nat.add p.2 q.offset) fun o=>some (.ptr p.1 o)
def wO (t:Ty) (cs:List GV) (o:Nat):Option GV:=bif tR t.desc then ob (Vx cs o t.size) fun r=>some (.agg r)else CB cs o
def Qy (tb:TB) (T:TypeId) (f:Nat) (v:GV):Option GV:=ob v.asA fun cs=>ob (nA tb T) fun fs=>ob (CB fs f) fun q=>ob (tb q.type) fun tq=>wO tq cs q.offset
def SY (tb:TB) (T:TypeId) (s:Nat×Nat×Nat×Nat) (i:Nat):Option GV:=ob (uY tb T) fun te=>bif Nat.blt i s.2.2.1 then sn (Nat.add s.2.1 (Nat.mul i te.2.size)) fun o=>some (.ptr s.1 o)else none
def SX (tb:TB) (T:TypeId) (p:Nat×Nat) (i:Nat):Option GV:=ob (tb T) fun t=>ob (Vl t.desc) fun e=>ob (tb e.2) fun te=>bif Nat.blt i e.1 then sn (Nat.add p.2 (Nat.mul i te.size)) fun o=>some (.ptr p.1 o)else none
def BE (tb:TB) (T:TypeId) (v w:GV):Option GV:=ob w.asI fun n=>ob (TZ n.2) fun n=>Option.casesOn (motive:=fun _=>Option GV) v.asP (ob v.asS fun s=>SY tb T s n) fun p=>SX tb T p n
def KU (tb:TB) (T:TypeId) (v w:GV):Option GV:=ob v.asStr fun s=>ob w.asI fun n=>ob (TZ n.2) fun n=>ob (tb T) fun t=>bif Du t.desc then(bif Nat.blt n s.2 then sn (Nat.mod (Nat.shiftRight s.1 (Nat.mul 8 n)) 256) fun b=>some (.int .u8 (.ofNat b))else none)else none
def Vn (i:Nat) (v:GV):Option GV:=ob v.asT fun vs=>CB vs i
def Ku (ps:List (Nat×Nat)) (l:List (Nat×GV)):List GV->Option (List GV):=List.rec (motive:=fun _=>List GV->Option (List GV)) (fun cs=>some cs) (fun p _ ih cs=>ob (CB ps p.1) fun q=>ob p.2.cells fun cc=>bif Nat.beq cc.length q.2 then(bif Nat.beq q.2 0 then none else ob (BV cc q.1 cs) ih)else none) l
def CV (sz:Nat) (l:List (Nat×GV)):List GV->Option (List GV):=List.rec (motive:=fun _=>List GV->Option (List GV)) (fun cs=>some cs) (fun p _ ih cs=>ob p.2.cells fun cc=>bif Nat.beq cc.length sz then(bif Nat.beq sz 0 then none else ob (BV cc (Nat.mul p.1 sz) cs) ih)else none) l
def xB (tb:TB) (T:TypeId):Option (List GV):=ob (tb T) fun t=>ob (Wm t.zero) fun z=>z.cells
def KV (tb:TB) (T:TypeId) (vs:List (Nat×GV)):Option GV:=ob (tb T) fun t=>ob (xB tb T) fun zc=>Option.casesOn (motive:=fun _=>Option GV) (WR t.desc) (ob (Vl t.desc) fun e=>ob (tb e.2) fun te=>ob (CV te.size vs zc) fun cs=>some (.agg cs)) fun _=>ob (IS tb T) fun pl=>ob (Ku pl vs zc) fun cs=>some (.agg cs)
def tW (tb:TB) (T:TypeId) (v:GV):Option GV:=ob (tb T) fun t=>Option.casesOn (motive:=fun _=>Option GV) v.asStr (ob (QP t.desc) fun _=>ob (Se v) fun n=>some (.int .i64 (.ofNat n))) fun s=>bif Du t.desc then some (.int .i64 (.ofNat s.2))else none
def Np (tb:TB) (T:TypeId) (v:GV):Option GV:=ob (tb T) fun t=>ob (QP t.desc) fun _=>bif v.isSnil then some (.int .i64 (.ofNat 0))else none
def Qx (v u:GV):Option GV:=ob v.asI fun a=>ob u.asI fun b=>bif Vr a.1 b.1 then(bif UR a.2 b.2 then some u else some v)else none
def SZ (v u:GV):Option GV:=ob v.asI fun a=>ob u.asI fun b=>bif Vr a.1 b.1 then(bif UR b.2 a.2 then some u else some v)else none
def b_ (tb:TB) (T:TypeId) (v:GV) (H:GH):Option GV:=ob v.asP fun p=>ob (H.cells p.1) fun cs=>ob (tb T) fun t=>wO t cs p.2
def aZ (tb:TB) (T:TypeId) (v u:GV) (H:GH):OR:=ob v.asP fun p=>ob (H.cells p.1) fun cs=>ob (tb T) fun t=>ob u.cells fun uc=>bif Nat.beq uc.length t.size then bif Nat.beq t.size 0 then none else ob (BV uc p.2 cs) fun cs'=>H.setK p.1 (.cells cs') fun H'=>some (.un,H')else none
def mO (v:GV) (H:GH):OR:=ob v.cells fun vc=>H.newK (.cells vc) fun h H'=>some (.ptr h 0,H')
def cJ (tb:TB) (T:TypeId) (H:GH):OR:=ob (xB tb T) fun zc=>H.newK (.cells zc) fun h H'=>some (.ptr h 0,H')
def JH (z:List GV) (n:Nat):List GV:=Nat.rec (motive:=fun _=>List GV) [] (fun _ ih=>z++ih) n
def fc {R:Type} (a:List GV):(List GV->R)->R:=List.rec (motive:=fun _=>(List GV->R)->R) (fun k=>k []) (fun x _ ih k=>ih fun r=>k (x::r)) a
def dX (tb:TB) (T:TypeId) (n:Nat) (vs:List (Nat×GV)) (H:GH):OR:=ob (uY tb T) fun te=>ob (xB tb te.1) fun zc=>bif Nat.beq zc.length te.2.size then(bif Nat.blt (Nat.mul n te.2.size) 16777216 then(bif Nat.beq te.2.size 0 then none else ob (CV te.2.size vs (JH zc n)) fun cs=>H.newK (.cells cs) fun h H'=>some (.sl h 0 n te.2.size,H'))else none)else none
def Fq (tb:TB) (T:TypeId) (v u:GV) (H:GH):OR:=ob (uY tb T) fun te=>ob (xB tb te.1) fun zc=>ob v.asI fun k=>ob u.asI fun c=>bif Vq k.2 c.2 then ob (TZ k.2) fun k=>(bif Nat.beq zc.length te.2.size then(bif Nat.blt (Nat.mul k te.2.bytes) 16777216 then(bif Nat.blt k 16777216 then(bif Nat.beq te.2.size 0 then none else fc (JH zc k) fun l=>H.newK (.cells l) fun h H'=>some (.sl h 0 k te.2.size,H'))else none)else none)else none)else none
def lap {R:Type} (a b:List GV):(List GV->R)->R:=List.rec (motive:=fun _=>(List GV->R)->R) (fun k=>k b) (fun x _ ih k=>ih fun r=>k (x::r)) a
def oP (H:GH) (sz:Nat) (v:GV):Option (Nat×List GV):=bif v.isSnil then some (0,[])else ob v.asS fun s=>bif Nat.beq s.2.2.2 sz then ob (H.cells s.1) fun cs=>ob (Vx cs s.2.1 (Nat.mul s.2.2.1 sz)) fun r=>some (s.2.2.1,r)else none
def Kp (H:GH) (v:GV):GH:=Option.casesOn (motive:=fun _=>GH) v.asS H fun s=>H.del s.1
def Oy (H:GH) (v:GV) (f:GH->OR):OR:=Option.casesOn (motive:=fun _=>OR) v.asS (f H) fun s=>H.delK s.1 f
def Qn (tb:TB) (T T':TypeId) (v u:GV) (H:GH):OR:=bif v.isSnil then ob (uY tb T) fun te=>ob (tb T') fun t'=>ob (QO t'.desc) fun _=>ob (xB tb te.1) fun zc=>ob u.asI fun k=>ob (TZ k.2) fun n=>bif Nat.beq zc.length te.2.size then(bif Nat.blt (Nat.mul n (Nat.add te.2.bytes 1)) 16777216 then(bif Nat.beq te.2.size 0 then none else(bif Nat.beq n 0 then none else fc (JH zc n) fun l=>H.newK (.cells l) fun h H'=>some (.sl h 0 n te.2.size,H')))else none)else none else none
def tV (tb:TB) (T T':TypeId) (v u:GV) (H:GH):OR:=bif Nat.beq T T' then ob (uY tb T) fun te=>bif Nat.beq te.2.size 0 then none else ob (xB tb te.1) fun zc=>bif Nat.beq zc.length te.2.size then ob (oP H te.2.size v) fun p=>ob (oP H te.2.size u) fun q=>Nat.casesOn (motive:=fun _=>OR) q.1 (some (v,H)) (fun _=>sn (Nat.add p.1 q.1) fun n=>bif Nat.blt (Nat.mul n (Nat.add te.2.bytes 1)) 16777216 then lap p.2 q.2 fun l=>Oy H v fun H1=>H1.newK (.cells l) fun h H'=>some (.sl h 0 n te.2.size,H')else none)else none else Qn tb T T' v u H
def Qs (tb:TB) (T:TypeId) (v u:GV) (H:GH):OR:=ob v.asS fun s=>ob u.asS fun r=>ob (uY tb T) fun te=>bif Nat.beq s.2.2.2 te.2.size then(bif Nat.beq r.2.2.2 te.2.size then(bif Nat.beq r.2.2.1 s.2.2.1 then ob (H.cells r.1) fun cs=>ob (Vx cs r.2.1 (Nat.mul r.2.2.1 te.2.size)) fun xs=>ob (H.cells s.1) fun ds=>List.casesOn (motive:=fun _=>OR) xs none (fun _ _=>ob (BV xs s.2.1 ds) fun ds'=>H.setK s.1 (.cells ds') fun H'=>some (.int .i64 (.ofNat r.2.2.1),H'))else none)else none)else none
def wA (H:GH):OR:=H.newK (.mp []) fun h H'=>some (.map h,H')
def Lv (a b:GV):Option Bool:=Option.casesOn (motive:=fun _=>Option Bool) a.asI (ob a.asStr fun x=>ob b.asStr fun y=>some (JF x y)) fun x=>ob b.asI fun y=>bif Vr x.1 y.1 then some (Vq x.2 y.2)else none
def IG (k:GV) (es:List (GV×GV)):Option (Option GV):=List.rec (motive:=fun _=>Option (Option GV)) (some none) (fun e _ ih=>ob (Lv k e.1) fun b=>bif b then some (some e.2)else ih) es
def EM (t:Ty) (k:GV):Bool:=Option.casesOn (motive:=fun _=>Bool) k.asI (Option.casesOn (motive:=fun _=>Bool) k.asStr false (fun _=>Du t.desc)) (fun x=>Option.casesOn (motive:=fun _=>Bool) (QO t.desc) false (fun _=>true))
def Pj (tb:TB) (T:TypeId):Option (Ty×Ty):=ob (tb T) fun t=>ob (tdM t.desc) fun kv=>ob (tb kv.1) fun tk=>ob (tb kv.2) fun tv=>some (tk,tv)
def Jt (tb:TB) (T:TypeId) (ok:Bool) (v k:GV) (H:GH):Option GV:=ob v.asM fun h=>ob (H.get h) fun o=>ob o.asM fun es=>ob (Pj tb T) fun t=>bif EM t.1 k then ob (IG k es) fun r=>ob (Wm t.2.zero) fun z=>Option.casesOn (motive:=fun _=>Option GV) r (bif ok then some (.tup [z,.bool false])else some z) (fun g=>bif ok then some (.tup [g,.bool true])else some g)else none
def Ft (tb:TB) (T:TypeId) (v k u:GV) (H:GH):OR:=ob v.asM fun h=>ob (H.get h) fun o=>ob o.asM fun es=>ob (Pj tb T) fun t=>bif EM t.1 k then ob (IG k es) fun r=>Option.casesOn (motive:=fun _=>OR) r (H.setK h (.mp (es++[(k,u)])) fun H'=>some (.un,H')) (fun _=>none)else none
section
variable {R:Type}
abbrev KT (R:Type):=GF->GH->(GV->GH->Option R)->Option R
def k1 (x:Operand) (f:GV->Option GV):KT R:=fun σ H k=>ob (some x) fun x=>ob (iG σ x) fun v=>ob (f v) fun g=>k g H
def k2 (x y:Operand) (f:GV->GV->Option GV):KT R:=fun σ H k=>ob (some x) fun x=>ob (iG σ x) fun v=>ob (iG σ y) fun u=>ob (f v u) fun g=>k g H
def k3 (x y z:Operand) (f:GV->GV->GV->Option GV):KT R:=fun σ H k=>ob (some x) fun x=>ob (iG σ x) fun v=>ob (iG σ y) fun u=>ob (iG σ z) fun t=>ob (f v u t) fun g=>k g H
def Do (x:Operand):KT R:=fun σ H k=>ob (some x) fun x=>ob (iG σ x) fun v=>k v H
def kFn (fn:Fn) (first caps:Array Operand):KT R:=match fn with
 | .func f=>fun σ H k=>ob (Bv σ first.toList) fun us=>ob (Bv σ caps.toList) fun vs=>k (.fn f us vs) H
 |_=>fun _ _ _=>none
def CQ (σ:GF) (o:Option Operand):Option (Option GV):=Option.casesOn (motive:=fun _=>Option (Option GV)) o (some none) fun x=>ob (iG σ x) fun v=>some (some v)
def UO (tb:TB) (T:TypeId) (x:Operand) (lo hi mx:Option Operand):KT R:=Option.casesOn (motive:=fun _=>KT R) mx (fun σ H k=>ob (some x) fun x=>ob (iG σ x) fun v=>ob (CQ σ lo) fun l=>ob (CQ σ hi) fun h=>ob (pN tb T v l h H) fun g=>k g H) (fun _ _ _ _=>none)
def UN (tb:TB) (T:TypeId) (ps:List (Nat×Operand)):KT R:=fun σ H k=>ob (pI σ ps) fun vs=>ob (KV tb T vs) fun g=>k g H
def aO (r:OR) (k:GV->GH->Option R):Option R:=ob r fun p=>Prod.casesOn (motive:=fun _=>Option R) p fun g h=>k g h
def Ls (tb:TB) (T:TypeId) (x:Operand):KT R:=fun σ H k=>ob (some x) fun x=>ob (iG σ x) fun v=>ob (b_ tb T v H) fun g=>k g H
def Hs (tb:TB) (T:TypeId) (x y:Operand):KT R:=fun σ H k=>ob (some x) fun x=>ob (iG σ x) fun v=>ob (iG σ y) fun u=>aO (aZ tb T v u H) k
def Si (x:Operand):KT R:=fun σ H k=>ob (some x) fun x=>ob (iG σ x) fun v=>aO (mO v H) k
def UM (tb:TB) (T:TypeId):KT R:=fun σ H k=>aO (cJ tb T H) k
def Sk (tb:TB) (T:TypeId) (n:Nat) (ps:List (Nat×Operand)):KT R:=fun σ H k=>ob (pI σ ps) fun vs=>aO (dX tb T n vs H) k
def Lu (tb:TB) (T:TypeId) (x y:Operand):KT R:=fun σ H k=>ob (some x) fun x=>ob (iG σ x) fun v=>ob (iG σ y) fun u=>aO (Fq tb T v u H) k
def OZ (r:Option Operand):KT R:=Option.casesOn (motive:=fun _=>KT R) r (fun σ H k=>aO (wA H) k) (fun _ _ _ _=>none)
def Lt (tb:TB) (T:TypeId) (x y:Operand) (ok:Bool):KT R:=fun σ H k=>ob (some x) fun x=>ob (iG σ x) fun v=>ob (iG σ y) fun u=>ob (Jt tb T ok v u H) fun g=>k g H
def Hr (tb:TB) (T:TypeId) (x y z:Operand):KT R:=fun σ H k=>ob (some x) fun x=>ob (iG σ x) fun v=>ob (iG σ y) fun u=>ob (iG σ z) fun t=>aO (Ft tb T v u t H) k
def EL (xs:List Operand) (f:Operand->KT R):KT R:=List.casesOn (motive:=fun _=>KT R) xs (fun _ _ _=>none) fun x r=>List.casesOn (motive:=fun _=>KT R) r (f x) (fun _ _ _ _ _=>none)
def zY (xs:List Operand) (f:Operand->Operand->KT R):KT R:=List.casesOn (motive:=fun _=>KT R) xs (fun _ _ _=>none) fun x r=>List.casesOn (motive:=fun _=>KT R) r (fun _ _ _=>none) fun y r=>List.casesOn (motive:=fun _=>KT R) r (f x y) (fun _ _ _ _ _=>none)
def OX (tb:TB) (ts:List TypeId) (x y:Operand):KT R:=fun σ H k=>ob (CB ts 0) fun T=>ob (CB ts 1) fun T'=>ob (iG σ x) fun v=>ob (iG σ y) fun u=>aO (tV tb T T' v u H) k
def IB (tb:TB) (ts:List TypeId) (x y:Operand):KT R:=fun σ H k=>ob (CB ts 0) fun T=>ob (iG σ x) fun v=>ob (iG σ y) fun u=>aO (Qs tb T v u H) k
def MU (tb:TB) (ts:List TypeId) (x:Operand):KT R:=fun σ H k=>ob (CB ts 0) fun T=>ob (iG σ x) fun v=>ob (Np tb T v) fun g=>k g H
def MV (tb:TB) (ts:List TypeId) (x:Operand):KT R:=fun σ H k=>ob (CB ts 0) fun T=>ob (iG σ x) fun v=>ob (tW tb T v) fun g=>k g H
def Ky (tb:TB) (xs:Array Operand) (ts:Array TypeId):Builtin->KT R
 | .len=>EL xs.toList (MV tb ts.toList)
 | .max=>zY xs.toList fun x y=>k2 x y Qx
 | .min=>zY xs.toList fun x y=>k2 x y SZ
 | .append=>zY xs.toList (OX tb ts.toList)
 | .copy=>zY xs.toList (IB tb ts.toList)
 | .cap=>EL xs.toList (MU tb ts.toList)
 |_=>fun _ _ _=>none
abbrev CH:=Nat->List GV->GH->OR
def OY (ih:CH) (xs:Array Operand) (f:Operand):KT R:=fun σ H k=>ob (iG σ f) fun v=>ob v.asF fun g=>ob (Bv σ xs.toList) fun us=>aO (ih g.1 (g.2.1++us++g.2.2) H) k
def We (tb:TB) (ih:CH) (c:Call):KT R:=Callee.casesOn (motive:=fun _=>KT R) c.callee (OY ih c.args) (fun _ _ _ _ _=>none) (Ky tb c.args c.argTypes)
end
def HU {R:Type} (tb:TB) (ih:CH) (o:Op):KT R:=Op.casesOn (motive:=fun _=>KT R) o (fun a0=>Do a0) (fun a0=>Do a0) (fun a0 a1 a2=>k3 a0 a1 a2 cQ) (fun a0=>UM tb a0) (fun _ a1=>Si a1) (fun a0 a1=>UN tb a0 a1.toList) (fun a0 a1 a2=>Sk tb a0 a1 a2.toList) (fun _ _ _ _=>fun _ _ _=>none) (fun a0 a1=>Ls tb a0 a1) (fun a0 a1 a2=>Hs tb a0 a1 a2) (fun _=>fun _ _ _=>none) (fun _=>fun _ _ _=>none) (fun a0=>k1 a0 GV.nilck) (fun a0 a1 a2 a3 _=>k2 a2 a3 (gS tb a0 a1)) (fun a0 _ a2=>k1 a2 (wB a0)) (fun a0 a1 a2=>k1 a2 (Mc tb a0 a1)) (fun _ _=>fun _ _ _=>none) (fun _ _=>fun _ _ _=>none) (fun a0 a1 a2=>kFn a0 a1 a2) (fun _ a1=>OZ a1) (fun _ _=>fun _ _ _=>none) (fun a0 a1 a2=>Lu tb a0 a1 a2) (fun a0 a1 a2 a3 a4=>UO tb a0 a1 a2 a3 a4) (fun a0 a1 a2=>k1 a1 (dG tb a0 a2)) (fun a0 a1 a2=>k1 a1 (Qy tb a0 a2)) (fun a0 a1 a2=>k2 a1 a2 (BE tb a0)) (fun a0 a1 a2=>k2 a1 a2 (KU tb a0)) (fun a0 a1 a2 a3=>Lt tb a0 a1 a2 a3) (fun a0 a1 a2 a3=>Hr tb a0 a1 a2 a3) (fun _ _ _=>fun _ _ _=>none) (fun _ _ _ _=>fun _ _ _=>none) (fun _ _=>fun _ _ _=>none) (fun _ _=>fun _ _ _=>none) (fun _=>fun _ _ _=>none) (fun _ _ _ _=>fun _ _ _=>none) (fun a0 a1=>k1 a0 (Vn a1)) (fun a0=>We tb ih a0) (fun _=>fun _ _ _=>none) (fun _=>fun _ _ _=>none) (fun _=>fun _ _ _=>none) (fun _ _=>fun _ _ _=>none) (fun _ _ _=>fun _ _ _=>none) (fun _ _=>fun _ _ _=>none)
def WG (x:Operand):Nat:=Operand.casesOn (motive:=fun _=>Nat) x (fun t=>Nat.shiftLeft 1 t) (fun _=>0) (fun _=>0) (fun _=>0)
def WF (all:List Oper) (o:Oper):Nat:=Nat.lor (o.op.operands.toList.foldl (fun m x=>Nat.lor m (WG x)) 0) (match o.guard with
 |none=>0
 |some g=>match CB all g.1 with
  |some oj=>(match oj.dst with|some d=>Nat.shiftLeft 1 d|none=>0)
  |none=>0)
def Yj (m:Nat) (d:Option Nat):Nat:=match d with
 |none=>m
 |some d=>bif Nat.testBit m d then Nat.sub m (Nat.shiftLeft 1 d)else m
def Sp (all:List Oper) (l:List Oper) (m:Nat):Nat:=l.foldr (fun o m=>Nat.lor (Yj m o.dst) (WF all o)) m
structure Cx where
 res:List ResultVar
 retm:Nat
 env:List (Nat×Nat)
def wW (e:List (Nat×Nat)) (id:Nat):Nat:=List.rec (motive:=fun _=>Nat) 0 (fun p _ ih=>bif Nat.beq p.1 id then p.2 else ih) e
def Wj (c:Code) (retm:Nat):Nat->List (Nat×Nat)->Nat:=Code.rec (motive:=fun _=>Nat->List (Nat×Nat)->Nat)
 (fun m _=>m) (fun _ ops _ m _=>Sp ops.toList ops.toList m) (fun _ _ la lb m e=>la (lb m e) e) (fun x _ _ la lb m e=>Nat.lor (WG x) (Nat.lor (la m e) (lb m e))) (fun id _ lb m e=>lb m ((id,m)::e))
 (fun _ lb _ e=>Nat.lor (lb 0 e) (lb (lb 0 e) e)) (fun _ _ _ _ _ _ _ _=>0) (fun id _ e=>wW e id) (fun _ _ _ _=>0) (fun _ _ _=>0) (fun _ _ _=>0) (fun _ _=>retm) (fun _ _ _=>0) c
def live (c:Code) (m:Nat) (cx:Cx):Nat:=Wj c cx.retm m cx.env
def Wg (f m:Nat):Nat->List Nat:=Nat.rec (motive:=fun _=>Nat->List Nat) (fun _=>[]) (fun _ ih i=>bif Nat.testBit m i then i::ih (Nat.succ i)else ih (Nat.succ i)) f
def jE (m:Nat):List Nat:=Wg (Nat.succ (Nat.log2 m)) m 0
def xQ (σ:GF) (ks:List Nat):List GV:=List.rec (motive:=fun _=>List GV) [] (fun k _ ih=>Option.casesOn (motive:=fun _=>GV) (AT σ k) .bad (fun v=>v)::ih) ks
def gX {R:Type} (ks:List Nat):List GV->(GF->Option R)->Option R:=List.rec (motive:=fun _=>List GV->(GF->Option R)->Option R) (fun vs k=>List.casesOn (motive:=fun _=>Option R) vs (k []) fun _ _=>none) (fun key _ ih vs k=>List.casesOn (motive:=fun _=>Option R) vs none fun v r=>ih r fun σ=>k ((key,v)::σ)) ks
inductive Ex where
 |normal
 |exit (id:Nat)
 |ret
inductive TR where
 |fn (f:Nat)
 |loop (b:Code) (cx:Cx)
structure GS where
 σ:GF
 H:GH
structure Ib where
 e:Ex
 vs:List GV
 H:GH
abbrev RS:=Option Ib
abbrev QH0:=List GV->GH->RS
abbrev QH:=Nat->List GV->GH->RS
abbrev IH:=TR->List GV->GH->RS
def Vf (tb:TB) (s:GS) (r:ResultVar):Option GV:=ResultVar.casesOn (motive:=fun _=>Option GV) r (fun t=>AT s.σ t) fun a T=>ob (AT s.σ a) fun v=>b_ tb T v s.H
def Jc (tb:TB) (s:GS) (l:List ResultVar):Option (List GV):=List.rec (motive:=fun _=>Option (List GV)) (some []) (fun r _ ih=>ob (Vf tb s r) fun v=>ob ih fun vs=>some (v::vs)) l
def Ed (l:List ResultVar):Nat:=List.rec (motive:=fun _=>Nat) 0 (fun r _ ih=>Nat.lor (ResultVar.casesOn (motive:=fun _=>Nat) r (fun t=>Nat.shiftLeft 1 t) (fun a _=>Nat.shiftLeft 1 a)) ih) l
def Na (vs:List GV):GV:=List.casesOn (motive:=fun _=>GV) vs (.tup []) (fun v r=>List.casesOn (motive:=fun _=>GV) r v (fun _ _=> .tup vs))
def putD (d:Option Nat) (v:GV) (σ:GF):GF:=Option.casesOn (motive:=fun _=>GF) d σ fun d=>(d,v)::σ
def Cf (ks:List Nat) (s:GS):RS:=some ⟨.normal,xQ s.σ ks,s.H⟩
def KJ (tb:TB) (cx:Cx) (s:GS):RS:=ob (Jc tb s cx.res) fun vs=>some ⟨.ret,vs,s.H⟩
def Tq (ks:List Nat) (k:GS->RS) (r:RS):RS:=ob r fun o=>Ex.casesOn (motive:=fun _=>RS) o.e (gX ks o.vs fun σ=>k ⟨σ,o.H⟩) (fun _=>some o) (some o)
def nB (id:Nat) (r:RS):RS:=ob r fun o=>Ex.casesOn (motive:=fun _=>RS) o.e (some o) (fun i=>Bool.casesOn (motive:=fun _=>RS) (Nat.beq i id) (some o) (some ⟨.normal,o.vs,o.H⟩)) (some o)
def tO (g:GV) (H:GH):OR:=some (g,H)
def WQ (d:Option Nat) (s:GS) (k:GS->RS) (g:GV) (H:GH):RS:=k ⟨putD d g s.σ,H⟩
def Vs (tb:TB) (ih:CH) (o:Oper) (s:GS) (b:Bool) (v:GV):OR:=GV.casesOn (motive_1:=fun _=>OR) v (fun _ _=>none) (fun q=>Bool.casesOn (motive:=fun _=>OR) (Ln q b) (some (.un,s.H)) (HU tb ih o.op s.σ s.H tO)) (fun _ _=>none) (fun _ _=>none) none (fun _ _ _ _=>none) none (fun _=>none) (fun _ _ _=>none) none none (fun _=>none) (fun _=>none) (some (.un,s.H)) none (fun _=>none)
def EC (tb:TB) (ih:CH) (all:List Oper) (o:Oper) (k:GS->RS) (s:GS):RS:=Option.casesOn (motive:=fun _=>RS) o.guard (HU tb ih o.op s.σ s.H (WQ o.dst s k)) fun g=>ob (CB all g.1) fun oj=>ob oj.dst fun dj=>ob (AT s.σ dj) fun v=>aO (Vs tb ih o s g.2 v) (WQ o.dst s k)
def Ba (tb:TB) (ih:CH) (all:List Oper) (k:GS->RS) (l:List Oper):GS->RS:=List.rec (motive:=fun _=>GS->RS) k (fun o _ ihl s=>EC tb ih all o ihl s) l
def kT:Op->Bool
 | .load .. => true
 |_=>false
def Hn:Op->Bool
 | .lookup .. => true
 |_=>false
def Sm (σ:GF):Op->Option Nat
 | .load _ x=>ob (some x) fun x=>ob (iG σ x) fun v=>ob v.asP fun p=>some p.1
 |_=>none
def TI {α:Type} (H:GH) (h v:Nat) (k:Option α):Option α:=ob (H.ver h) fun u=>Bool.casesOn (motive:=fun _=>Option α) (Nat.beq u v) none k
def AD (H:GH) (e:Option (Nat×Nat)) (k:Option Unit):Option Unit:=Option.casesOn (motive:=fun _=>Option Unit) e k fun p=>TI H p.1 p.2 k
def Eu (m:List Nat) (i:Nat) (H:GH) (pr:List (Nat×Option (Nat×Nat))):Option Unit:=List.rec (motive:=fun _=>Option Unit) (some ()) (fun p _ ih=>Bool.casesOn (motive:=fun _=>Option Unit) (before m i p.1) (AD H p.2 ih) ih) pr
def Ev (m:List Nat) (i h v:Nat) (hs:List (Nat×GH)):Option (Option (Nat×Nat)):=List.rec (motive:=fun _=>Option (Option (Nat×Nat))) (some (some (h,v))) (fun q _ ih=>Bool.casesOn (motive:=fun _=>Option (Option (Nat×Nat))) (before m i q.1) (TI q.2 h v ih) ih) hs
def ldV (m:List Nat) (i:Nat) (hs:List (Nat×GH)) (H:GH) (l:Option Nat):Option (Option (Nat×Nat)):=Option.casesOn (motive:=fun _=>Option (Option (Nat×Nat))) l (some none) fun h=>ob (H.ver h) fun v=>Ev m i h v hs
abbrev WT:=Nat->List (Nat×Option (Nat×Nat))->List (Nat×GH)->GS->RS
def OH (tb:TB) (ch:CH) (all:List Oper) (m:List Nat) (o:Oper) (K:WT):WT:=fun i pr hs s=>
 Bool.casesOn (motive:=fun _=>RS) (dU o.op)
  (Bool.casesOn (motive:=fun _=>RS) (kT o.op) (EC tb ch all o (K (Nat.succ i) pr hs) s)
   (EC tb ch all o (fun s'=>ob (ldV m i hs s.H (Sm s.σ o.op)) fun e=>K (Nat.succ i) ((i,e)::pr) hs s') s))
  (EC tb ch all o (fun s'=>ob (Eu m i s'.H pr) fun _=>K (Nat.succ i) pr ((i,s.H)::hs) s') s)
def Vt (tb:TB) (ch:CH) (all:List Oper) (m:List Nat) (k:GS->RS) (l:List Oper):WT:=List.rec (motive:=fun _=>WT) (fun _ _ _ s=>k s) (fun o _ ih=>OH tb ch all m o ih) l
def AC (l:List Oper) (p:Op->Bool):Bool:=(List.range l.length).all fun i=>match l[i]? with
 |none=>true
 |some o=> !p o.op||(List.range l.length).all fun j=>match l[j]? with
  |none=>true
  |some oj=> !dU oj.op||before (lR l) i j||before (lR l) j i
def Vo (dr:Bool) (l:List Oper):Bool:=Bool.casesOn (motive:=fun _=>Bool) dr false (!AC l kT)
def Gs (r:RS):OR:=ob r fun o=>Ex.casesOn (motive:=fun _=>OR) o.e none (fun _=>none) (some (Na o.vs,o.H))
structure GP where
 tab:TB
 cat:Nat
 ext:Nat->List GV->GH->Option (GV×GH)
 exn:Nat->List GV->Option GV
def rZ:GV:= .int .i64 (.ofNat 0)
def VP (ih:CH) (us:List GV) (H:GH):OR:=List.casesOn (motive:=fun _=>OR) us none fun u r=>List.casesOn (motive:=fun _=>OR) r (ob u.asF fun g=>H.newK (.cells [rZ]) fun h1 H1=>H1.newK (.cells [rZ]) fun h2 H2=>ob (ih g.1 (g.2.1++g.2.2) H2) fun x=>ob (x.2.cells h1) fun c1=>ob (x.2.cells h2) fun c2=>
 bif Nat.beq c1.length 1 then(bif Nat.beq c2.length 1 then x.2.setK h1 (.cells [rZ]) fun H3=>H3.setK h2 (.cells [rZ]) fun H4=>H4.delK h1 fun H5=>H5.delK h2 fun H6=>some (.tup [rZ,rZ],H6)else none)else none) (fun _ _=>none)
def VO (ih:IH):CH:=fun f us H=>Gs (ih (.fn f) us H)
def callQ (G:GP) (q:QH):CH:=fun f us H=>Bool.casesOn (motive:=fun _=>OR) (Nat.beq f G.cat) (Option.casesOn (motive:=fun _=>OR) (G.ext f us H) (Option.casesOn (motive:=fun _=>OR) (G.exn f us) (Gs (q f us H)) fun g=>some (g,H)) fun r=>some r) (VP (fun f us H=>Gs (q f us H)) us H)
def zR (G:GP) (ih:IH):CH:=callQ G fun f us H=>ih (.fn f) us H
abbrev ET:=Nat->Cx->(GS->RS)->GS->RS
abbrev LH:=Code->Cx->QH0
def RR (tb:TB) (ch:CH) (lp:LH) (c:Code):ET:=Code.rec (motive:=fun _=>ET)
 (fun _ _ k s=>k s)
 (fun _ ops dr _ _ k s=>Bool.casesOn (motive:=fun _=>RS) (Vo dr ops.toList) (Ba tb ch ops.toList k ops.toList s) (Vt tb ch ops.toList (lR ops.toList) k ops.toList 0 [] [] s))
 (fun _ b ea eb m cx k s=>ea (live b m cx) cx (eb m cx k) s)
 (fun x _ _ ea eb m cx k s=>ob (iG s.σ x) fun v=>ob v.asB fun q=>Tq (jE m) k (Bool.casesOn (motive:=fun _=>RS) q (eb m cx (Cf (jE m)) s) (ea m cx (Cf (jE m)) s)))
 (fun id _ eb m cx k s=>Tq (jE m) k (nB id (eb m ⟨cx.res,cx.retm,(id,m)::cx.env⟩ (Cf (jE m)) s)))
 (fun b _ _ cx _ s=>lp b cx (xQ s.σ (jE (live (.loop b) 0 cx))) s.H)
 (fun _ _ _ _ _ _ _ _ _ _=>none)
 (fun id _ cx _ s=>some ⟨.exit id,xQ s.σ (jE (wW cx.env id)),s.H⟩)
 (fun _ _ _ _ _ _=>none) (fun _ _ _ _ _=>none) (fun _ _ _ _ _=>none)
 (fun _ cx _ s=>KJ tb cx s)
 (fun _ _ _ _ _=>none) c
def RX (tb:TB) (ch:CH) (lp:LH) (fn:Func) (us:List GV) (H:GH):RS:=ob fn.body fun body=>gX (List.range (Nat.add fn.params.size fn.nfree)) us fun σ=>RR tb ch lp body (Ed fn.results.toList) ⟨fn.results.toList,Ed fn.results.toList,[]⟩ (KJ tb ⟨fn.results.toList,Ed fn.results.toList,[]⟩) ⟨σ,H⟩
def WJ (tb:TB) (ch:CH) (lp:LH) (b:Code) (cx:Cx) (us:List GV) (H:GH):RS:=gX (jE (live (.loop b) 0 cx)) us fun σ=>ob (RR tb ch lp b (live (.loop b) 0 cx) cx (Cf (jE (live (.loop b) 0 cx))) ⟨σ,H⟩) fun o=>Ex.casesOn (motive:=fun _=>RS) o.e (lp b cx o.vs o.H) (fun _=>some o) (some o)
abbrev FT:=Nat->Option Func
def step (G:GP) (Fs:FT) (ih:IH) (t:TR):List GV->GH->RS:=TR.casesOn (motive:=fun _=>List GV->GH->RS) t (fun f us H=>ob (Fs f) fun fn=>RX G.tab (zR G ih) (fun b cx=>ih (.loop b cx)) fn us H) (WJ G.tab (zR G ih) fun b cx=>ih (.loop b cx))
def run (G:GP) (Fs:FT) (fuel:Nat):IH:=Nat.rec (motive:=fun _=>IH) (fun _ _ _=>none) (fun _ ih=>step G Fs ih) fuel
def Li (G:GP) (Fs:FT) (fuel:Nat) (f:FuncId) (args:List GV) (H:GH):OR:=zR G (run G Fs fuel) f args H
def H0:GH:=⟨0,.lf⟩
end
end Go.Gx
end
