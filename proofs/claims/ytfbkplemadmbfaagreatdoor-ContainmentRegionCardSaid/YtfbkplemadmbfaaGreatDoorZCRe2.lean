/- Models of functions with their proofs, by program (gen/xt.py), and plain laws, in one text. Conditions: none. -/
import Derived.Test.YtfbkplemadmbfaaGreatDoorZCRe1
import Derived.KernelRfl
set_option linter.unusedVariables false
set_option linter.unusedSimpArgs false
set_option maxHeartbeats 4000000
set_option maxRecDepth 20000
section
set_option linter.unusedSectionVars false
namespace Go.Sx
open Go.RowKit Go.ChangeMaps
def It (b m len:Nat) (seen:List Nat):Fact where
 p w F:=F b∧w.heap[b]? = some (.mapIter (some m) len seen.toArray len)
 mono:=fun⟨h1,h2⟩ h=>by
  obtain⟨h3,h4⟩:=h b h1 (Array.getElem?_eq_some_iff.1 h2).1
  exact⟨h3,by rw[h4];exact h2⟩
section
variable {κ ν:Type} [DecidableEq κ] {ek:κ->Value} {ev:ν->Value} {R:Type}
theorem mpL_mem (ek:κ->Value) (ev:ν->Value):∀(k:Nat) (l:List (κ×ν)) (e:MapEntry),e∈mpL ek ev k l->∃i kv,l[i]? = some kv∧e=⟨ek kv.1,ev kv.2,k+i⟩
 |_,[],e,h=>by simp[mpL]at h
 | k, x :: xs, e, h => by
  rcases List.mem_cons.1 h with rfl|h
  ·exact⟨0,x,rfl,rfl⟩
  ·obtain⟨i,kv,h1,h2⟩:=mpL_mem ek ev (k+1) xs e h
   exact⟨i+1,kv,h1,by rw[h2,show k+1+i=k+(i+1) by omega]⟩
theorem mem_mpL (ek:κ->Value) (ev:ν->Value):∀(k:Nat) (l:List (κ×ν)) (i:Nat) (kv:κ×ν),l[i]? = some kv->(⟨ek kv.1,ev kv.2,k+i⟩:MapEntry)∈mpL ek ev k l
 |_,[],i,kv,h=>by simp at h
 |k,x::xs,0,kv,h=>by simp at h;subst h;exact List.mem_cons_self
 |k,x::xs,i+1,kv,h=>by
  have:=mem_mpL ek ev (k+1) xs i kv (by simpa using h)
  rw[show k+1+i=k+(i+1) by omega]at this
  exact List.mem_cons_of_mem _ this
theorem mpL_born (ek:κ->Value) (ev:ν->Value):∀(k:Nat) (l:List (κ×ν)),(mpL ek ev k l).map (·.born)=List.range' k l.length
 |_,[]=>rfl
 |k,x::xs=>by simp[mpL,mpL_born ek ev (k+1) xs,List.range'_succ]
def mrun (step:κ×ν->Option R->Option R) (K:Option R) (l:List (κ×ν)):Option R:=l.foldr step K
def rem (l:List (κ×ν)) (seen:List Nat):List (κ×ν):=((List.range l.length).filter (fun i=> !seen.contains i)).filterMap (fun i=>l[i]?)
theorem range_get:∀l:List (κ×ν),(List.range l.length).filterMap (fun i=>l[i]?)=l
 | []=>rfl
 |x::xs=>by
  rw[List.length_cons,List.range_succ_eq_map,List.filterMap_cons]
  simp only[List.getElem?_cons_zero,List.filterMap_map]
  congr 1
  have:=range_get xs
  simpa [Function.comp_def]using this
theorem rem_nil (l:List (κ×ν)):rem l []=l:=by
 unfold rem
 rw[List.filter_eq_self.2 (by simp),range_get]
theorem rem_pick {l:List (κ×ν)} {seen:List Nat} {i:Nat} {kv:κ×ν} (hi:l[i]? = some kv) (hs:i∉seen):∃l1 l2,rem l seen=l1++kv::l2∧rem l (seen++[i])=l1++l2:=by
 have hlt:=getElem?_lt hi
 have hmem:i∈(List.range l.length).filter (fun i=> !seen.contains i):=by simp[hlt,hs]
 obtain⟨A,B,hAB⟩:=List.append_of_mem hmem
 have hnd:((List.range l.length).filter (fun i=> !seen.contains i)).Nodup:=List.Pairwise.filter _ List.nodup_range
 rw[hAB]at hnd
 have hA:i∉A:=fun h=>by
  have:=(List.nodup_append.1 hnd).2.2 i h i List.mem_cons_self
  exact this rfl
 have hB:i∉B:=fun h=>by
  have:=(List.nodup_cons.1 (List.nodup_append.1 hnd).2.1).1
  exact this h
 refine⟨A.filterMap (fun i=>l[i]?),B.filterMap (fun i=>l[i]?),?_,?_⟩
 ·unfold rem
  rw[hAB,List.filterMap_append,List.filterMap_cons,hi]
 ·unfold rem
  have e:(List.range l.length).filter (fun j=> !(seen++[i]).contains j)=((List.range l.length).filter (fun j=> !seen.contains j)).filter (fun j=>decide (j≠i)):=by
   rw[List.filter_filter]
   apply List.filter_congr
   intro j _
   rw[Bool.eq_iff_iff]
   simp[and_comm]
  rw[e,hAB,List.filter_append,List.filter_cons]
  have fA:A.filter (fun j=>decide (j≠i))=A:=List.filter_eq_self.2 (fun j hj=>by simp;rintro rfl;exact hA hj)
  have fB:B.filter (fun j=>decide (j≠i))=B:=List.filter_eq_self.2 (fun j hj=>by simp;rintro rfl;exact hB hj)
  rw[fA,fB,List.filterMap_append.symm]
  simp
theorem mrun_pick {step:κ×ν->Option R->Option R} (hc:∀a b x,step a (step b x)=step b (step a x)) (K:Option R) (kv:κ×ν) (l2:List (κ×ν)):∀l1:List (κ×ν),mrun step K (l1++kv::l2)=step kv (mrun step K (l1++l2))
 | []=>rfl
 |x::xs=>by
  have:=mrun_pick hc K kv l2 xs
  unfold mrun at this ⊢
  rw[List.cons_append,List.cons_append,List.foldr_cons,List.foldr_cons,this,hc]
end
section
variable {P:Program} {rd:Option Nat} {c:Ctx} {n:Sz} {σ σ':Fr} {M L M' L':List Fact} {Q:Exit->Act->World->Prop} {ops:Array Oper} {rest:List Oper}
variable {d:Option Tmp} {ty:TypeId} {pos:String} {aft:Array Edge} {g:Option (Nat×Bool)}
variable {κ ν:Type} [DecidableEq κ] {ek:κ->Value} {ev:ν->Value} {R:Type}
theorem Loud.range [Tab P] (j:Nat) {T kt vt:TypeId} {s1 s2:Nat} {z:Value} {x:Operand} {m:Nat} {l:List (κ×ν)} (hx:Go.Sx.ev σ x=some (.map (some m))) (hf:M[j]? = some (Mp ek ev m l)) (hT:Tab.tab P T=some ⟨.map kt vt,s1,s2,z⟩):
  Loud P c n σ M L ⟨d,.range T x,ty,pos,aft,g⟩ (fun b:Nat=> .pointer (some ⟨b,0,none⟩)) (fun b=>It b m l.length []::M) (fun _=>L):=fun a w s t=>by
 obtain⟨F,hF⟩:=t.res hf
 have hrun:(execOp a.eval ⟨d,.range T x,ty,pos,aft,g⟩).run P w = .ok (.value (.pointer (some ⟨w.heap.size,0,none⟩))) (w.alloc (.mapIter (some m) l.length #[] l.length)):=by
  simp[execOp,s.eval hx,run_range_map w T kt vt m _ _ (Tab.ok hT).und hF.2]
 simp only[Oper.wp,hrun,Oper.upon]
 exact⟨w.heap.size,rfl,t.push _ ⟨rfl,heap_alloc_new w _⟩⟩
def nextVal (ek:κ->Value) (ev:ν->Value) (l:List (κ×ν)):Option Nat->Value
 |none=> .tuple #[.bool false]
 |some i=>match l[i]? with
  |some kv=> .tuple #[.bool true,ek kv.1,ev kv.2]
  |none=>undef
def nextIs (len:Nat) (seen:List Nat):Option Nat->Prop
 |none=>∀i,i<len->i∈seen
 |some i=>i<len∧i∉seen
def nextM (M:List Fact) (ji b m len:Nat) (seen:List Nat):Option Nat->List Fact
 |none=>M
 |some i=>M.set ji (It b m len (seen++[i]))
theorem St.pureL {w:World} {p:Prop} (hp:p) (t:St c M L w):St c M (Pure p::L) w:=by
 obtain⟨ho,F,hF,hL⟩:=t
 refine⟨ho,F,hF,fun f hf=> ?_⟩
 rcases List.mem_cons.1 hf with rfl|hf
 ·exact hp
 ·exact hL f hf
theorem Loud.next (jm ji:Nat) {x:Operand} {b m:Nat} {l:List (κ×ν)} {seen:List Nat} (hx:Go.Sx.ev σ x=some (.pointer (some ⟨b,0,none⟩))) (hf:M[jm]? = some (Mp ek ev m l)) (hi:M[ji]? = some (It b m l.length seen)):
  Loud P c n σ M L ⟨d,.next x false,ty,pos,aft,g⟩ (nextVal ek ev l) (nextM M ji b m l.length seen) (fun o=>Pure (nextIs l.length seen o)::L):=fun a w s t=>by
 obtain⟨F,hF⟩:=t.res hf
 obtain⟨G,hG⟩:=t.res hi
 have hold:∀e∈(mpL ek ev 0 l).toArray.toList,e.born<l.length:=fun e he=>by
  obtain⟨i,kv,h1,h2⟩:=mpL_mem ek ev 0 l e (by simpa using he)
  rw[h2];have:=getElem?_lt h1;simp;omega
 rcases run_next_at (P:=P) w ty b m l.length l.length seen.toArray (mpL ek ev 0 l).toArray l.length hG.2 hF.2 hold (Nat.le_refl _)with⟨h0,hr⟩|⟨e,he,w1,hw1,hr⟩
 ·have hrun:(execOp a.eval ⟨d,.next x false,ty,pos,aft,g⟩).run P w = .ok (.value (.tuple #[.bool false])) w:=by
   simp[execOp,s.eval hx,hr]
  simp only[Oper.wp,hrun,Oper.upon]
  refine⟨none,rfl,t.pureL fun i hi'=> ?_⟩
  obtain⟨kv,hkv⟩:∃kv,l[i]? = some kv:=⟨_,List.getElem?_eq_getElem hi'⟩
  have:=all_seen _ _ h0 _ (by simpa using mem_mpL ek ev 0 l i kv hkv)
  simpa using this
 ·have hml:=_root_.Go.mem_left he
  obtain⟨i,kv,h1,h2⟩:=mpL_mem ek ev 0 l e (by simpa using hml.1)
  subst h2
  rw[Nat.zero_add]at hr hml
  have hrun:(execOp a.eval ⟨d,.next x false,ty,pos,aft,g⟩).run P w = .ok (.value (.tuple #[.bool true,ek kv.1,ev kv.2])) (setBlock w1 b (.mapIter (some m) l.length (seen.toArray.push i) l.length)):=by
   simp[execOp,s.eval hx,hr]
  simp only[Oper.wp,hrun,Oper.upon]
  have t1:St c M L w1:=by
   rcases hw1 with rfl|rfl
   ·exact t
   ·exact t.ext ((Below.refl _ _).drew)
  refine⟨some i,by simp[nextVal,h1],St.pureL ⟨getElem?_lt h1,by simpa using hml.2⟩ ?_⟩
  refine t1.upd hi rfl rfl rfl (by simp[setBlock]) fun F hF _=>⟨fun k _ hk=> ?_,F,⟨hF.1,?_⟩,fun _ h=> .inl h⟩
  ·simp only[setBlock]
   rw[Array.getElem?_setIfInBounds_ne (fun e=>hk (by subst e;exact hF.1))]
  ·simp only[setBlock]
   rw[Array.getElem?_setIfInBounds_self_of_lt (Array.getElem?_eq_some_iff.1 hF.2).1]
   simp
theorem Loud.entry (jm ji:Nat) {x:Operand} {b m i:Nat} {l:List (κ×ν)} {seen:List Nat} {kv:κ×ν} (hkv:l[i]? = some kv) (hx:Go.Sx.ev σ x=some (.pointer (some ⟨b,0,none⟩))) (hf:M[jm]? = some (Mp ek ev m l)) (hi:M[ji]? = some (It b m l.length (seen++[i]))):
  Loud P c n σ M L ⟨d,.entry x,ty,pos,aft,g⟩ (fun _:Unit=> .tuple #[ek kv.1,ev kv.2]) (fun _=>M) (fun _=>L):=fun a w s t=>by
 obtain⟨F,hF⟩:=t.res hf
 obtain⟨G,hG⟩:=t.res hi
 have he:=mem_mpL ek ev 0 l i kv hkv
 rw[Nat.zero_add]at he
 have hn:((mpL ek ev 0 l).toArray.toList.map (·.born)).Nodup:=by
  simp only[mpL_born];exact List.nodup_range'
 have hr:=run_entry_at (P:=P) w b m l.length seen.toArray (mpL ek ev 0 l).toArray l.length ⟨ek kv.1,ev kv.2,i⟩ (by rw[hG.2];simp) hF.2 (by simpa using he) hn
 have hrun:(execOp a.eval ⟨d,.entry x,ty,pos,aft,g⟩).run P w = .ok (.value (.tuple #[ek kv.1,ev kv.2])) w:=by
  simp[execOp,s.eval hx,hr]
 simp only[Oper.wp,hrun,Oper.upon]
 exact⟨(),by first|rfl|trivial,t⟩
theorem J.weakE {G:Act->World->Prop} (σ':Fr) (M' L':List Fact) (hs:SubF σ σ') (hM:SubM M M') (hL:LentAll [] L L') (h:J c n σ' M' L' G):J c n σ M L G:=fun a w s t=>h a w (s.weak hs) (t.weakE hM hL)
theorem KeyOk.deep {kt:TypeId} {d:TypeDesc} (hu:P.underlying kt=some d) (chk:∀b k w,(Instr.checkKey b 10000 kt (ek k)).run P w = .ok () w) (now:∀a b,Instr.sameNow d (ek a) (ek b)=none)
  (eq:∀a b w,(Op.equal kt (ek a) (ek b)).run P w = .ok (decide (a=b)) w) (same:∀k,Instr.sameBits 10000 (ek k) (ek k)=true):KeyOk P kt ek:=by
 refine⟨chk,fun {ν'} ev' k l w=> ?_,same⟩
 have ask:∀(l:List (κ×ν')) (i:Nat),(Instr.findAsking kt (ek k) (mpL ek ev' i l) i).run P w = .ok (fnd ev' k i l) w:=by
  intro l
  induction l with
  |nil=>intro i;simp[mpL,fnd,Instr.findAsking]
  |cons x xs ih=>
   intro i
   simp only[mpL,fnd,Instr.findAsking]
   simp[eq]
   by_cases h:k=x.1
   ·simp[h]
   ·simp[h,ih]
 unfold Instr.findKey
 cases l with
 |nil=>simp[mpL,fnd,Instr.findNow,run_underlying hu w]
 |cons x xs=>
  have h1:Instr.findNow d (ek k) (mpL ek ev' 0 (x::xs)) 0=none:=by simp[mpL,Instr.findNow,now]
  simp[run_underlying hu w,h1,ask]
def MapInv {R:Type} (c:Ctx) (n:Sz) (σ:Fr) (M L:List Fact) (x:Option R) (r:R) (a:Act) (w:World):Prop:=x=some r∧Sub n σ a∧St c M L w
theorem J.mapAgain {R:Type} {x:Option R} {r:R} (h:x=some r) (hs:SubF σ' σ) (hM:SubM M' M) (hL:LentAll [] L' L):J c n σ' M' L' (MapInv c n σ M L x r):=fun _ _ s t=>⟨h,s.weak hs,t.weakE hM hL⟩
theorem J.loopMap (step:κ×ν->Option R->Option R) {K:Option R} {r:R} (jm ji:Nat) {b m:Nat} {l:List (κ×ν)} (hc:∀a b x,step a (step b x)=step b (step a x)) (h:mrun step K l=some r)
  (hf:M[jm]? = some (Mp ek ev m l)) (hi:M[ji]? = some (It b m l.length [])) (hne:Nat.beq ji jm=false) {t0 t1 t2:Tmp} (hx:lk σ t0=some (.pointer (some ⟨b,0,none⟩))) (hd1:Nat.blt t1 n.sz=true) (hd2:Nat.blt t2 n.sz=true)
  {id ex:Nat} {y1 y2:TypeId} {q1 q2:String} {f1 f2:Array Edge} {body:Code}
  (round:∀(kv:κ×ν) (i:Nat) (seen:List Nat) (x:Option R),l[i]? = some kv->step kv x=some r->
   J c n ((t2,.bool true)::(t1,.tuple #[.bool true,ek kv.1,ev kv.2])::σ) (M.set ji (It b m l.length (seen++[i]))) L (body.wpr rd P (Exit.then (MapInv c n σ (M.set ji (It b m l.length (seen++[i]))) L x r) Q)))
  (fin:∀seen,K=some r->J c n ((t2,.bool false)::(t1,.tuple #[.bool false])::σ) (M.set ji (It b m l.length seen)) L (Q (.exit ex))):
  J c n σ M L ((Code.loop (Code.seq (Code.region id [⟨some t1,.next (.tmp t0) false,y1,q1,f1,none⟩,⟨some t2,.extract (.tmp t1) 0,y2,q2,f2,none⟩].toArray false) (Code.seq (Code.cond (.tmp t2) .skip (.exit ex)) body))).wpr rd P Q):=by
 have hjlt:=getElem?_lt hi
 have hjm:jm≠ji:=fun e=>by subst e;simp at hne
 have hset:M.set ji (It b m l.length [])=M:=by
  apply List.ext_getElem?
  intro q
  by_cases eq:q=ji
  ·subst eq;rw[List.getElem?_set_self hjlt,hi]
  ·rw[List.getElem?_set_ne (Ne.symm eq)]
 refine J.loop (X:=List Nat) (fun seen=>seen.Nodup∧(∀i∈seen,i<l.length)∧mrun step K (rem l seen)=some r) (fun _=>σ) (fun seen=>M.set ji (It b m l.length seen)) (fun _=>L) (fun seen=>l.length - seen.length) [] ⟨List.nodup_nil,by simp,by rw[rem_nil];exact h⟩ (SubF.refl _) (by rw[hset];exact SubM.refl _) (fun _ h=>h) ?_
 rintro seen ⟨hnd,hlt,hrun⟩
 have hf':(M.set ji (It b m l.length seen))[jm]? = some (Mp ek ev m l):=by rw[List.getElem?_set_ne (Ne.symm hjm)];exact hf
 have hi':(M.set ji (It b m l.length seen))[ji]? = some (It b m l.length seen):=List.getElem?_set_self hjlt
 refine J.seq (J.region (J.loud (Loud.next jm ji (x:= .tmp t0) hx hf' hi') hd1 fun o=> ?_))
 refine J.pure List.mem_cons_self fun ho=> ?_
 refine J.weak (M':=nextM (M.set ji (It b m l.length seen)) ji b m l.length seen o) (L':=L) ?_ (SubF.refl _) (SubM.refl _) (fun f hf=>List.mem_cons_of_mem _ hf)
 cases o with
 | none =>
  refine J.quiet (Y.extract (vs:=[.bool false]) (by simp[nextVal,lk,Go.Sx.ev]) rfl) hd2 (J.done (J.thenN (J.seq (J.condF (by simp[lk,Go.Sx.ev]) (J.exit (J.thenX (J.thenX ?_)))))))
  refine fin seen ?_
  have:rem l seen=[]:=by
   unfold rem
   rw[List.filter_eq_nil_iff.2 (fun i hi=>by simpa using ho i (by simpa using hi))]
   rfl
  rw[this]at hrun
  exact hrun
 | some i =>
  obtain⟨h1,h2⟩:=ho
  obtain⟨kv,hkv⟩:∃kv,l[i]? = some kv:=⟨_,List.getElem?_eq_getElem h1⟩
  have hval:nextVal ek ev l (some i) = .tuple #[.bool true,ek kv.1,ev kv.2]:=by simp[nextVal,hkv]
  obtain⟨l1,l2,e1,e2⟩:=rem_pick hkv h2
  have hstep:step kv (mrun step K (rem l (seen++[i])))=some r:=by
   rw[e2,<-mrun_pick hc K kv l2 l1,<-e1];exact hrun
  have hMs:nextM (M.set ji (It b m l.length seen)) ji b m l.length seen (some i)=M.set ji (It b m l.length (seen++[i])):=by simp[nextM]
  rw[hval,hMs]
  refine J.quiet (Y.extract (vs:=[.bool true,ek kv.1,ev kv.2]) (by simp[lk,Go.Sx.ev]) rfl) hd2 (J.done (J.thenN (J.seq (J.condT (by simp[lk,Go.Sx.ev]) (J.skip (J.thenN ?_))))))
  refine J.mono (round kv i seen _ hkv hstep) fun a w hw=>wpr_mono (fun e a' w' q=> ?_) hw
  cases e with
  | normal =>
   obtain⟨hx',hs',ht'⟩:=q
   refine⟨seen++[i],⟨?_,?_,hx'⟩,?_,hs',ht'⟩
   ·rw[List.nodup_append];exact⟨hnd,by simp,fun a ha b hb=>by simp at hb;subst hb;rintro rfl;exact h2 ha⟩
   ·intro j hj
    rcases List.mem_append.1 hj with hj|hj
    ·exact hlt j hj
    ·simp at hj;subst hj;exact h1
   ·have:seen.length<l.length:=by
     have hsub:(seen++[i]).length<=(List.range l.length).length:=by
      apply List.Nodup.length_le_of_subset
      ·rw[List.nodup_append];exact⟨hnd,by simp,fun a ha b hb=>by simp at hb;subst hb;rintro rfl;exact h2 ha⟩
      ·intro j hj
       rcases List.mem_append.1 hj with hj|hj
       ·simpa using hlt j hj
       ·simp at hj;subst hj;simpa using h1
     simp at hsub;omega
    simp;omega
  |exit id=>exact q
  |goto l=>exact q
  |ret=>exact q
  |panic ch=>exact q
  |outgrown=>exact q
end
end Go.Sx
end
section
namespace Go.Sx
open Go.RowKit
section
variable {P:Program} {rd:Option Nat} {c:Ctx} {n:Sz} {σ σ':Fr} {M L M' L':List Fact} {Q:Exit->Act->World->Prop} {ops:Array Oper} {rest:List Oper} {K:Act->World->Prop} {G:Act->World->Prop}
variable {d:Option Tmp} {D:Nat} {ty:TypeId} {pos:String} {aft:Array Edge} {g:Option (Nat×Bool)}
variable {α β:Type} {e:Enc α} {r:Rep α}


def MeetsM (P:Program) (f:FuncId) (args:Array Value) (Min L:List Fact) {A:Type} (ret:A->Value) (MO:A->List Fact->List Fact):Prop:=
 ∀c:Ctx,St c Min L c.w0->Calls P f args c.w0 fun e w'=>∃x:A,e = .returned (ret x)∧St c (MO x []) [] w'
theorem MeetsM.of {A:Type} {ret:A->Value} {MO:A->List Fact->List Fact} {f:FuncId} {fn:Func} {code:Code} {vs:List Value} {m:Nat} {Min:List Fact}
  (hf:P.funcs[f]? = some fn) (hb:fn.body=some code) (hn:fn.ntmps=m) (hm:Nat.ble vs.length m=true)
  (h:∀c:Ctx,J c ⟨m,[]⟩ (frame0 0 vs) Min L (code.wpr none P (bodyPost P fn (Post c ret MO (fun _ l=>l))))):MeetsM P f vs.toArray Min L ret MO:=fun c t=>by
 have hle:vs.length<=m:=by simpa using hm
 refine calls_of_wpr hf hb (h c _ _ ⟨rfl,by simp[hn,hle],?_⟩ t)
 intro t v hv
 obtain⟨_,h2⟩:=frame0_slot vs 0 t v hv
 rw[Nat.sub_zero]at h2
 have hlt:t<vs.length:=by
  rcases Nat.lt_or_ge t vs.length with h'|h'
  ·exact h'
  ·rw[List.getElem?_eq_none h']at h2;cases h2
 rw[Array.getElem?_append_left (by simpa using hlt)]
 simpa using h2
theorem St.callM {w w':World} {Min Mr M1:List Fact} {F:Nat->Nat->Prop} {U:Nat->Prop} (ho:Kept c.O c.w0 w) (hF:Own c w (Min++Mr) F) (hL:∀f∈L,f.p w (Free c F))
  (t:St ⟨w,U,fun k=>∃i,i<Min.length∧F i k⟩ M1 [] w'):St c (M1++Mr) L w':=by
 obtain⟨ho',F',hF',_⟩:=t
 have hsz:=ho'.size
 have hbl:∀k,k<w.heap.size->(∀i,i<Min.length->¬F i k)->w'.heap[k]? = w.heap[k]? := fun k hk hn=>ho'.block k hk (fun⟨i,hi,hF⟩=>hn i hi hF)
 have hmine:∀i k,F' i k->w.heap.size<=k∨∃j,j<Min.length∧F j k:=fun i k hk=>(hF'.rng i k hk).1
 refine⟨⟨ho'.os.trans ho.os,ho'.tape.trans ho.tape,ho'.output.trans ho.output,Nat.le_trans ho.size hsz,fun k hk hO=> ?_⟩,
  fun i k=>(i<M1.length∧F' i k)∨(M1.length<=i∧F (i - M1.length+Min.length) k),⟨?_,?_,?_⟩,fun f hf=> ?_⟩
 ·refine(hbl k (Nat.lt_of_lt_of_le hk ho.size) (fun i _ hFi=> ?_)).trans (ho.block k hk hO)
  rcases(hF.rng i k hFi).1 with h|h
  ·omega
  ·exact hO h
 ·intro i m hm
  by_cases hi:i<M1.length
  ·rw[List.getElem?_append_left hi]at hm
   exact Fact.same (hF'.res i m hm) (fun k hk=> .inl ⟨hi,hk⟩) (fun _ _ _=>rfl)
  ·rw[List.getElem?_append_right (by omega)]at hm
   have hm':(Min++Mr)[i - M1.length+Min.length]? = some m:=by
    rw[List.getElem?_append_right (by omega),Nat.add_sub_cancel];exact hm
   exact Fact.same (hF.res _ m hm') (fun k hk=> .inr ⟨by omega,hk⟩) (fun k hk hl=>hbl k hl (fun j hj hFj=>by have:=hF.dis _ _ k hFj hk;omega))
 ·rintro i k (⟨_,hk⟩|⟨_,hk⟩)
  ·refine⟨?_,(hF'.rng i k hk).2⟩
   rcases hmine i k hk with h|⟨j,_,h⟩
   ·exact .inl (Nat.le_trans ho.size h)
   ·exact(hF.rng j k h).1
  ·exact⟨(hF.rng _ k hk).1,Nat.lt_of_lt_of_le (hF.rng _ k hk).2 hsz⟩
 ·rintro i j k (⟨hi,h1⟩|⟨hi,h1⟩) (⟨hj,h2⟩|⟨hj,h2⟩)
  ·exact hF'.dis i j k h1 h2
  ·rcases hmine i k h1 with h|⟨q,hq,h⟩
   ·have:=(hF.rng _ k h2).2;omega
   ·have:=hF.dis _ _ k h h2;omega
  ·rcases hmine j k h2 with h|⟨q,hq,h⟩
   ·have:=(hF.rng _ k h1).2;omega
   ·have:=hF.dis _ _ k h h1;omega
  ·have:=hF.dis _ _ k h1 h2;omega
 ·refine f.mono (hL f hf) fun k hk hl=>⟨⟨hk.1,?_⟩,hbl k hl (fun i _=>hk.2 i)⟩
  rintro i (⟨_,h⟩|⟨_,h⟩)
  ·rcases hmine i k h with h'|⟨q,_,h'⟩
   ·omega
   ·exact hk.2 q h'
  ·exact hk.2 _ h
theorem St.enterM {w:World} {Min Mr L0:List Fact} {F:Nat->Nat->Prop} (hF:Own c w (Min++Mr) F) (hL:∀f∈L,f.p w (Free c F)) (hl:LentAll Mr L L0):
  St ⟨w,fun k=>∀i,i<Min.length->¬F i k,fun k=>∃i,i<Min.length∧F i k⟩ Min L0 w:=by
 refine⟨Kept.refl _,fun i k=>i<Min.length∧F i k,⟨fun i m hm=> ?_,fun i k hk=>⟨.inr ⟨i,hk⟩,(hF.rng i k hk.2).2⟩,fun i j k h1 h2=>hF.dis i j k h1.2 h2.2⟩,fun f hf=> ?_⟩
 ·have hi:i<Min.length:=by
   rcases Nat.lt_or_ge i Min.length with h'|h'
   ·exact h'
   ·rw[List.getElem?_eq_none h']at hm;cases hm
  exact Fact.same (hF.res i m (by rw[List.getElem?_append_left hi];exact hm)) (fun k hk=>⟨hi,hk⟩) (fun _ _ _=>rfl)
 ·refine hl f hf w (Free c F) (fun j k=>F (j+Min.length) k) _ hL (fun j m hj=> ?_) (fun k hk=> ?_) (fun j k hk=> ?_)
  ·exact hF.res _ m (by rw[List.getElem?_append_right (by omega),Nat.add_sub_cancel];exact hj)
  ·exact⟨.inl fun i _=>hk.2 i,fun i hi=>hk.2 i hi.2⟩
  ·exact⟨.inl fun i hi h=>by have:=hF.dis _ _ k h hk;omega,fun i hi=>by have:=hF.dis _ _ k hi.2 hk;omega⟩
theorem Loud.callM {A:Type} {ret:A->Value} {MO:A->List Fact->List Fact} {f:FuncId} {xs:List Operand} {vs:List Value} {ats:Array TypeId} {L0 Min Mr:List Fact} (hb:HasBody P f)
  (hs:MeetsM P f vs.toArray Min L0 ret MO) (hx:xs.map (ev σ)=vs.map some) (hM:SubM M (Min++Mr)) (hL:LentAll Mr L L0) (hMO:∀x l,MO x l=MO x []++l):
  Loud P c n σ M L ⟨d,.call ⟨.value (.func f),xs.toArray,ats⟩,ty,pos,aft,g⟩ ret (fun x=>MO x Mr) (fun _=>L):=fun a w s t=>by
 have hrun:(execOp a.eval ⟨d,.call ⟨.value (.func f),xs.toArray,ats⟩,ty,pos,aft,g⟩).run P w = .ok (.enter f vs.toArray) w:=by
  have e:=evs s hx
  simp[execOp,resolve,Act.eval,Deferred.ofValue,invoke,hb _ w,e]
 simp only[Oper.wp,hrun,Oper.upon]
 obtain⟨ho,F,hF,hLF⟩:=t.weak (L':=L) hM (fun _ h=>h)
 refine(hs _ (St.enterM hF hLF hL)).mono ?_
 rintro e w' ⟨x,rfl,ht⟩
 refine⟨x,rfl,?_⟩
 rw[hMO]
 exact St.callM ho hF hLF ht

def MidR {A B:Type} (c:Ctx) (C:A->Prop) (val:A->B->Value) (MI LI:A->B->List Fact) (e:Ending) (w:World):Prop:=∃x y,C x∧e = .returned (val x y)∧St c (MI x y) (LI x y) w
theorem frame0_sub {fn:Func} {vs:List Value} {m:Nat} (hn:fn.ntmps=m) (hm:Nat.ble vs.length m=true):Sub ⟨m,[]⟩ (frame0 0 vs) {tmps:=vs.toArray++Array.replicate (fn.ntmps - vs.toArray.size) undef,defers:=[]}:=by
 have hle:vs.length<=m:=by simpa using hm
 refine⟨rfl,by simp[hn,hle],?_⟩
 intro t v hv
 obtain⟨_,h2⟩:=frame0_slot vs 0 t v hv
 rw[Nat.sub_zero]at h2
 have hlt:t<vs.length:=by
  rcases Nat.lt_or_ge t vs.length with h'|h'
  ·exact h'
  ·rw[List.getElem?_eq_none h']at h2;cases h2
 rw[Array.getElem?_append_left (by simpa using hlt)]
 simpa using h2
structure Enter (P:Program) (c:Ctx) (n:Sz) (σ:Fr) (M L:List Fact) (o:Oper) (f:FuncId) (vs:List Value):Prop where
 run:∀a w,Sub n σ a->St c M L w->(execOp a.eval o).run P w = .ok (.enter f vs.toArray) w
theorem Enter.fn {f:FuncId} {xs:List Operand} {vs:List Value} {ats:Array TypeId} (hb:HasBody P f) (hx:xs.map (ev σ)=vs.map some):Enter P c n σ M L ⟨d,.call ⟨.value (.func f),xs.toArray,ats⟩,ty,pos,aft,g⟩ f vs:=⟨fun a w s _=>by
 have e:=evs s hx
 simp[execOp,resolve,Act.eval,Deferred.ofValue,invoke,hb _ w,e]⟩

def Res (P:Program) (c:Ctx) (n:Sz) (σ:Fr) (M L:List Fact) (fn:Func) (v:Value):Prop:=∀a w,Sub n σ a->St c M L w->(results fn a.tmps).run P w = .ok v w
variable {fn:Func}
theorem Res.r0 (hres:fn.results = #[]):Res P c n σ M L fn (.tuple #[]):=fun a w _ _=>by simp[results,hres]
theorem Res.r1 {r1:ResultVar} {v1:Value} (hres:fn.results = #[r1]) (h1:RV P c n σ M L r1 v1):Res P c n σ M L fn v1:=fun a w s t=>by
 have:=h1 a w s t
 simp only[results_rv,hres]
 simp[this]
theorem J.retM {A B:Type} {m:Sz} {v:Value} {ex:Exit} {C:A->Prop} {val:A->B->Value} {MI LI:A->B->List Fact} (x:A) (y:B) (hC:C x) (hex:ex = .ret∨ex = .normal) (hr:Res P c m σ' M L fn v) (hv:v=val x y) (hM:SubM M (MI x y)) (hL:LentAll [] L (LI x y)) (hds:m.ds=[]:=by rfl):
  J c m σ' M L (bodyPost P fn (MidR c C val MI LI) ex):=fun a w s t=>by
 exact body_end hex (s.defers.trans hds) (hr a w s t) ⟨x,y,hC,by rw[hv],t.weakE hM hL⟩
end
end Go.Sx
end
section
namespace Go.Sx
open Go.RowKit
section
variable {P:Program} {rd:Option Nat} {c:Ctx} {n:Sz} {σ σ':Fr} {M L M' L':List Fact} {Q:Exit->Act->World->Prop} {ops:Array Oper} {rest:List Oper} {K:Act->World->Prop} {G:Act->World->Prop}
variable {d:Option Tmp} {D:Nat} {ty:TypeId} {pos:String} {aft:Array Edge} {g:Option (Nat×Bool)}
variable {α β:Type} {e:Enc α} {r:Rep α}

theorem at_set_ne {α:Type} [Inhabited α] (l:List α) {j k:Int} (y:α) (h:j.toNat≠k.toNat):at' (l.set j.toNat y) k=at' l k:=by
 rw[at',at',List.getD_eq_getElem?_getD,List.getD_eq_getElem?_getD,List.getElem?_set_ne h]
theorem Loud.appendRow2 [Tab P] (i:Nat) {r:Rep α} (hfit:e.Fits r) {x y:Operand} {u u0:Value} {k j:Int} {vs:List Value} {xss:List (List α)} {ys ys0:List α} {T E:TypeId} {s1 s2 s3 s4:Nat} {z z':Value} {dE:TypeDesc} (hx:ev σ x=some (at' vs k)) (hy:ev σ y=some u) (hf:M[i]? = some (Rws e (vs.set j.toNat u0) (xss.set j.toNat ys0))) (hg:Lent M L (Sl r u ys))
  (hT:Tab.tab P T=some ⟨.slice E,s1,s2,z⟩) (hE:Tab.tab P E=some ⟨dE,s3,s4,z'⟩) (h3:e.sz=s3) (h4:Nat.ble s4 1024=true) (h0:0<=k∧k<xss.length) (hl:((at' xss k).length:Int)+ys.length<=1099511627) (hz:z'.cells.size=s3) (hne:j.toNat≠k.toNat):
  Loud P c n σ M L ⟨d,.call ⟨.builtin .append,#[x,y],#[T,T]⟩,ty,pos,aft,g⟩ (fun v':Value=>v') (fun v'=>M.set i (Rws e ((vs.set j.toNat u0).set k.toNat v') ((xss.set j.toNat ys0).set k.toNat (at' xss k++ys)))) (fun _=>L):=by
 have ex:at' (xss.set j.toNat ys0) k=at' xss k:=at_set_ne _ _ hne
 have:=Loud.appendRowL (P:=P) (c:=c) (n:=n) (σ:=σ) (M:=M) (L:=L) (d:=d) (ty:=ty) (pos:=pos) (aft:=aft) (g:=g) (x:=x) (y:=y) (u:=u) (k:=k) (vs:=vs.set j.toNat u0) (xss:=xss.set j.toNat ys0) (ys:=ys) i hfit (by rw[at_set_ne _ _ hne];exact hx) hy hf hg hT hE h3 h4 (by simpa using h0) (by rw[ex];exact hl) hz
 rwa[ex]at this
theorem Know.oneRow2 (q:Nat) {vs:List Value} {xss:List (List α)} {k j:Int} {u u2:Value} (hr:M[q]? = some (Rws e ((vs.set k.toNat u).set j.toNat u2) xss)) (hne:k.toNat≠j.toNat) (h:0<=k∧k<xss.length):∀c w,St c M L w->Go.Sx.one u=true:=fun c w t=>by
 obtain⟨S,hl,G',g1,_⟩:=t.res hr
 have hlt:k.toNat<vs.length:=by simp at hl;omega
 obtain⟨_,_,hh⟩:=g1 k.toNat u _ (by rw[List.getElem?_set_ne (Ne.symm hne),List.getElem?_set_self hlt]) (List.getElem?_eq_getElem (by omega))
 rcases hh with⟨hu,_⟩|⟨b,off,cap,T,cur,hu,_⟩<;>(rw[hu];rfl)

end
end Go.Sx
end
section
namespace Go.Sx
open Go.RowKit
section
variable {P:Program} {rd:Option Nat} {c:Ctx} {n:Sz} {σ σ':Fr} {M L M' L':List Fact} {Q:Exit->Act->World->Prop} {ops:Array Oper} {rest:List Oper} {K:Act->World->Prop} {G:Act->World->Prop}
variable {d:Option Tmp} {D:Nat} {ty:TypeId} {pos:String} {aft:Array Edge} {g:Option (Nat×Bool)}
variable {α β:Type} {e:Enc α} {r:Rep α}
theorem Loud.storeA [Tab P] (j:Nat) {T:TypeId} {s2:Nat} {z:Value} {dT:TypeDesc} {x y:Operand} {v u:Value} {i:Int} {xs:List α} (yv:α) (hx:ev σ x=some (elq v (i.toNat*1))) (hy:ev σ y=some u) (hu:e.enc yv=[u]) (h1u:one u=true)
  (hf:M[j]? = some (Ar e v xs)) (hT:Tab.tab P T=some ⟨dT,1,s2,z⟩) (hq:e.sz=1) (h0:0<=i) (h1:i<xs.length):
  Loud P c n σ M L ⟨none,.store T x y,ty,pos,aft,none⟩ (fun _:Unit=>undef) (fun _=>M.set j (Ar e v (xs.set i.toNat yv))) (fun _=>L):=fun a w s t=>by
 obtain⟨F,hF⟩:=t.res hf
 have hi:i.toNat<xs.length:=by omega
 have hget:xs[i.toNat]? = some xs[i.toNat]:=List.getElem?_eq_getElem hi
 have hne:xs≠[]:=by intro e;subst e;simp at hi
 obtain⟨p,hp⟩:∃p,e.enc xs[i.toNat]=[p]:=List.length_eq_one_iff.1 ((e.len _).trans hq)
 have hcell:=ArR.cell hF hget (j:=0) (u:=p) (by rw[hp];rfl)
 rw[hq,Nat.add_zero,Nat.mul_one]at hcell
 rw[Nat.mul_one]at hx
 have hfree:=ArR.free hF hne i.toNat
 have hrun:(execOp a.eval ⟨none,.store T x y,ty,pos,aft,none⟩).run P w = .ok .skip (w.setCell (elA v i.toNat) u):=by
  simp only[execOp,s.eval hx,s.eval hy,elq]
  simp[run_store1 (Tab.ok hT) rfl h1u hcell hfree]
 simp only[Oper.wp,hrun,Oper.upon]
 refine⟨(),trivial,t.upd hf rfl rfl rfl (by simp[World.setCell]) fun F hF _=> ?_⟩
 obtain⟨hl,h1,hh⟩:=hF
 rcases hh with⟨_,hh⟩|⟨b,off,cap,T',cur,hv,hFb,hb,hk,hc,ht⟩
 ·exact absurd hh hne
 ·subst hv
  have ha:elA (.slice (some ⟨b,off,none⟩) xs.length cap) i.toNat=⟨b,off+i.toNat,none⟩:=by simp[elA,add_none]
  rw[ha]
  refine⟨fun k _ hk'=>Below.heap_setCell _ _ _ _ (fun e=>hk' (by simp only at e;subst e;exact hFb)),F,⟨by simpa using hl,?_,.inr ⟨b,off,cap,T',cur.setIfInBounds (off+i.toNat) u,by simp,hFb,?_,by simpa using hk,by simpa using hc,?_⟩⟩,fun _ h=> .inl h⟩
  ·rw[cellsOf_set1 hq hu,List.all_eq_true]
   intro q hq'
   rcases List.mem_or_eq_of_mem_set hq' with h'|h'
   ·exact List.all_eq_true.1 h1 q h'
   ·rw[h'];exact h1u
  ·simp[World.setCell,Array.getElem?_modify,hb]
  ·rw[cellsOf_set1 hq hu,<-ht,Array.toList_setIfInBounds,List.length_set,<-take_set]
   congr 1
   rw[List.drop_set,if_neg (by omega),Nat.add_sub_cancel_left]
theorem Loud.storeRow [Tab P] (j q:Nat) {T:TypeId} {s2:Nat} {z:Value} {dT:TypeDesc} {x y:Operand} {v u:Value} {i:Int} {vs vs':List Value} {xss:List (List α)} (h:0<=i∧i<xss.length) (hx:ev σ x=some (elq v (i.toNat*1))) (hy:ev σ y=some u)
  (hf:M[j]? = some (Ar Enc.raw v vs)) (hr:M[q]? = some (Rws e vs' xss)) (hl:vs'.length=vs.length) (h1u:one u=true) (hT:Tab.tab P T=some ⟨dT,1,s2,z⟩):
  Loud P c n σ M L ⟨none,.store T x y,ty,pos,aft,none⟩ (fun _:Unit=>undef) (fun _=>M.set j (Ar Enc.raw v (vs.set i.toNat u))) (fun _=>L):=fun a w s t=>by
 have hlen:vs'.length=xss.length:=by obtain⟨_,h⟩:=t.res hr;exact h.1
 exact Loud.storeA j u hx hy rfl h1u hf hT rfl h.1 (by omega) a w s t
section
variable {l:List Oper} {m:List Nat} {k0:Nat} {H Bs:List (Nat×List Fact×List Fact)} {rs:List Nat}
theorem JR.loud0 {A:Type} {val:A->Value} {M' L':A->List Fact} {i:Nat} {op:Op}
  (hi:l[i]? = some ⟨none,op,ty,pos,aft,none⟩) (hk:Nat.blt i k0=true) (hl:loudOp op=true) (ho:Loud P c n σ M L ⟨none,op,ty,pos,aft,none⟩ val M' L')
  (hB:∀x,BsOk (before m i) (M' x) (L' x) Bs) (h:∀x,JR c n σ (M' x) (L' x) ((i,M,L)::H) Bs (RW P l.toArray Q (before m) (louds l) k0 rs)):
  JR c n σ M L H Bs (RW P l.toArray Q (before m) (louds l) k0 (i::rs)):=fun a w X Y s t hX hY=>by
 have hi':l.toArray[i]? = some ⟨none,op,ty,pos,aft,none⟩:=by simpa using hi
 simp only[RW,hi']
 rw[if_pos (by simp[Region.wanted])]
 refine .inr (.inr ⟨by simpa [Nat.blt_eq]using hk,by simp[louds,hi,hl],nwp_mono ?_ (ho a w s t)⟩)
 rintro a' w' ⟨x,rfl,ht⟩
 exact⟨(hB x).use ht hY,h x _ w' _ Y s ht ⟨rfl,t,hX⟩ hY⟩
end

theorem Loud.inlM {A B:Type} {f:FuncId} {fn:Func} {code:Code} {vs:List Value} {m:Nat} {op:Op} (C:A->Prop) (val:A->B->Value) (MI LI:A->B->List Fact) (he:Enter P c n σ M L ⟨d,op,ty,pos,aft,g⟩ f vs) (hf:P.funcs[f]? = some fn) (hb:fn.body=some code) (hn:fn.ntmps=m) (hm:Nat.ble vs.length m=true)
  (h1:J c ⟨m,[]⟩ (frame0 0 vs) M L (code.wpr none P (bodyPost P fn (MidR c C val MI LI)))):
  Loud P c n σ M L ⟨d,op,ty,pos,aft,g⟩ (fun x:{p:A×B // C p.1}=>val x.1.1 x.1.2) (fun x=>MI x.1.1 x.1.2) (fun x=>LI x.1.1 x.1.2):=fun a w s t=>by
 have hrun:=he.run a w s t
 simp only[Oper.wp,hrun,Oper.upon]
 refine(calls_of_wpr hf hb (h1 _ w (frame0_sub hn hm) t)).mono ?_
 rintro e w' ⟨x,y,hC,rfl,ht⟩
 exact⟨⟨(x,y),hC⟩,rfl,ht⟩
theorem J.inlC {A B:Type} {f:FuncId} {fn:Func} {code:Code} {vs:List Value} {m:Nat} {op:Op} (C:A->Prop) (val:A->B->Value) (MI LI:A->B->List Fact) (he:Enter P c n σ M L ⟨some D,op,ty,pos,aft,none⟩ f vs) (hf:P.funcs[f]? = some fn) (hb:fn.body=some code) (hn:fn.ntmps=m) (hm:Nat.ble vs.length m=true) (hD:Nat.blt D n.sz=true)
  (h1:J c ⟨m,[]⟩ (frame0 0 vs) M L (code.wpr none P (bodyPost P fn (MidR c C val MI LI)))) (h2:∀a b,C a->J c n ((D,val a b)::σ) (MI a b) (LI a b) (wpList P ops Q rest)):J c n σ M L (wpList P ops Q (⟨some D,op,ty,pos,aft,none⟩::rest)):=
 J.loud (Loud.inlM C val MI LI he hf hb hn hm h1) hD fun⟨⟨a,b⟩,hC⟩=>h2 a b hC
section
variable {l:List Oper} {mm:List Nat} {k0:Nat} {H Bs:List (Nat×List Fact×List Fact)} {rs:List Nat}
end


end
end Go.Sx
end
section
namespace Go.Sx
open Go.RowKit
def Dfr (D:Nat):Fact where
 p w F:=F D∧w.heap[D]? = some (.deferred (some []))
 mono:=fun⟨h1,h2⟩ h=>by
  obtain⟨h3,h4⟩:=h D h1 (Array.getElem?_eq_some_iff.1 h2).1
  exact⟨h3,by rw[h4];exact h2⟩
structure Rec where
 n:Nat
 σ:Fr
 ps:Array Tmp
 assign:Code
 body:Code
 D:Nat
def Lp (l:Nat) (R:Rec) (st:LoopState) (pend:Option Code):Fact where
 p w F:=F l∧∃(fn:FuncId) (tmps:Array Value),tmps.size=R.n∧(∀t v,lk R.σ t=some v->tmps[t]? = some v)∧
  w.heap[l]? = some (.loop {state:=st,pending:=pend,fn:=fn,tmps:=tmps,params:=R.ps,assign:=R.assign,body:=R.body,defers:=R.D})
 mono:=fun⟨h1,fn,tmps,h2,h3,h4⟩ h=>by
  obtain⟨h5,h6⟩:=h l h1 (Array.getElem?_eq_some_iff.1 h4).1
  exact⟨h5,fn,tmps,h2,h3,by rw[h6];exact h4⟩
def mark (D:Nat):Deferred:={target:= .collected D,args:= #[]}
def yieldV (l:Nat):Value:= .func (.yield l) #[] #[]
section
variable {P:Program} {rd:Option Nat} {c:Ctx} {n m:Sz} {σ σ':Fr} {M L:List Fact} {Q:Exit->Act->World->Prop} {K G:Act->World->Prop}
theorem St.putLp {w:World} {l i:Nat} {R:Rec} {st st':LoopState} {pend pend':Option Code} (t:St c M L w) (hi:M[i]? = some (Lp l R st pend)) {r:Loop} (hr:w.heap[l]? = some (.loop r)):
  St c (M.set i (Lp l R st' pend')) L (w.putObj l (.loop {r with state:=st',pending:=pend'})):=by
 refine t.upd hi rfl rfl rfl (by simp) fun F hF _=>⟨fun k _ hk=> ?_,F,?_,fun _ h=> .inl h⟩
 ·exact World.putObj_heap_other (fun e=>hk (by subst e;exact hF.1))
 ·obtain⟨h1,fn,tmps,h2,h3,h4⟩:=hF
  rw[h4]at hr
  cases hr
  exact⟨h1,fn,tmps,h2,h3,World.putObj_heap_same (Array.getElem?_eq_some_iff.1 h4).1⟩
def RetF (P:Program) (n:Sz) (σ:Fr) (l D:Nat) (Q:Exit->Act->World->Prop) (e:Ending) (w:World):Prop:=
 ∀a,Sub ⟨n.sz,mark D::n.ds⟩ σ a->rangePost (FR none) 0 P l Q a e w
theorem J.rangeFunc {g:Operand} {ps:Array Tmp} {assign body:Code} {f:FuncId} {fn:Func} {code:Code} {cs:List Value} {k:Nat} (hb:HasBody P f) (hx:ev σ g=some (.func (.func f) #[] cs.toArray)) (hf:P.funcs[f]? = some fn) (hbd:fn.body=some code) (hn:fn.ntmps=k) (hm:Nat.ble (cs.length+1) k=true)
  (h:∀l D,J c ⟨k,[]⟩ (frame0 0 (yieldV l::cs)) (Lp l ⟨n.sz,σ,ps,assign,body,D⟩ .ready none::Dfr D::M) L (code.wpr none P (bodyPost P fn (RetF P n σ l D Q)))):
  J c n σ M L ((Code.rangeFunc g ps assign body).wpr none P Q):=fun a w s t=>by
 refine wpIn_rangeFunc fun fn' _=> ?_
 have hev:a.eval g = .func (.func f) #[] cs.toArray:=s.eval hx
 let W:World:=(w.alloc (.deferred (some []))).alloc (.loop {state:= .ready,pending:=none,fn:=fn',tmps:=a.tmps,params:=ps,assign:=assign,body:=body,defers:=w.heap.size})
 refine⟨_,_,_,{target:= .fn (.func f) cs.toArray,args:= #[yieldV (w.heap.size+1)]},W,f,(yieldV (w.heap.size+1)::cs).toArray,W,run_enterLoop_outer fn' a.tmps ps assign body,?_,fun _ _=>trivial,?_,(fun hc=>by cases hc),?_⟩
 ·have hc:∀v,a.eval (.const v)=v:=fun _=>rfl
  simp[resolve,hev,hc,Deferred.ofValue,yieldV,W]
 ·simp[invoke,hb _ _,yieldV]
 ·have t1:St c (Dfr w.heap.size::M) L (w.alloc (.deferred (some []))):=t.push _ ⟨rfl,heap_alloc_new w _⟩
  have t2:St c (Lp (w.heap.size+1) ⟨n.sz,σ,ps,assign,body,w.heap.size⟩ .ready none::Dfr w.heap.size::M) L ((w.alloc (.deferred (some []))).alloc (.loop {state:= .ready,pending:=none,fn:=fn',tmps:=a.tmps,params:=ps,assign:=assign,body:=body,defers:=w.heap.size})):=by
   have:=t1.push (.loop {state:= .ready,pending:=none,fn:=fn',tmps:=a.tmps,params:=ps,assign:=assign,body:=body,defers:=w.heap.size}) (m:=Lp (w.heap.size+1) ⟨n.sz,σ,ps,assign,body,w.heap.size⟩ .ready none)
    ⟨by simp,fn',a.tmps,s.size,s.slot,by rw[<-World.size_alloc w (.deferred (some []))];exact heap_alloc_new _ _⟩
   exact this
  refine callsFR ((calls_of_wpr hf hbd (h (w.heap.size+1) w.heap.size _ _ (frame0_sub hn (by simpa using hm)) t2)).mono ?_)
  intro e w' he
  exact he _ ⟨by simp[mark,s.defers],s.size,s.slot⟩
theorem J.retF {fn:Func} {ex:Exit} {v:Value} {l D i:Nat} {R:Rec} (hex:ex = .ret∨ex = .normal) (hi:M[i]? = some (Lp l R .ready none)) (hr:Res P c m σ' M L fn v) (h:J c ⟨n.sz,mark D::n.ds⟩ σ (M.set i (Lp l R .exhausted none)) L (Q .normal)) (hds:m.ds=[]:=by rfl):
  J c m σ' M L (bodyPost P fn (RetF P n σ l D Q) ex):=fun a w s t=>by
 refine body_end hex (s.defers.trans hds) (hr a w s t) fun a' s'=> ?_
 obtain⟨F,h1,fn',tmps,h2,h3,h4⟩:=t.res hi
 exact⟨none,_,run_endLoop h4 (by simp),h a' _ s' (t.putLp hi h4)⟩
theorem J.retFR {fn:Func} {ex:Exit} {v:Value} {l D i:Nat} {R:Rec} (hex:ex = .ret∨ex = .normal) (hi:M[i]? = some (Lp l R .done (some .ret))) (hr:Res P c m σ' M L fn v) (h:J c ⟨n.sz,mark D::n.ds⟩ σ (M.set i (Lp l R .exhausted (some .ret))) L (Q .ret)) (hds:m.ds=[]:=by rfl):
  J c m σ' M L (bodyPost P fn (RetF P n σ l D Q) ex):=fun a w s t=>by
 refine body_end hex (s.defers.trans hds) (hr a w s t) fun a' s'=> ?_
 obtain⟨F,h1,fn',tmps,h2,h3,h4⟩:=t.res hi
 exact⟨some .ret,_,run_endLoop h4 (by simp),wpIn_ret (h a' _ s' (t.putLp hi h4))⟩
def Begin (P:Program) (l:Nat) (G:Act->World->Prop) (a:Act) (w:World):Prop:=∃w',(Instr.beginRound l).run P w = .ok () w'∧G a w'
theorem J.begin {l i:Nat} {R:Rec} {pend:Option Code} (hi:M[i]? = some (Lp l R .ready pend)) (h:J c n σ (M.set i (Lp l R .busy pend)) L G):J c n σ M L (Begin P l G):=fun a w s t=>by
 obtain⟨F,h1,fn',tmps,h2,h3,h4⟩:=t.res hi
 exact⟨_,run_beginRound h4 rfl,h a _ s (t.putLp hi h4)⟩
def RetY (n:Sz) (σ:Fr) (d:Nat) (K:Act->World->Prop) (e:Ending) (w:World):Prop:=∃v,e = .returned v∧∀a,Sub n ((d,v)::σ) a->K a w
theorem J.roundN {l i d:Nat} {R:Rec} {pend:Option Code} (hi:M[i]? = some (Lp l R .busy pend)) (h:J c m ((d,.bool true)::σ') (M.set i (Lp l R .ready none)) L K):J c n σ M L (roundPost P l (RetY m σ' d K) .normal):=fun a w s t=>by
 obtain⟨F,h1,fn',tmps,h2,h3,h4⟩:=t.res hi
 exact⟨_,_,run_endRound none h4,_,rfl,fun a' s'=>h a' _ s' (t.putLp hi h4)⟩
theorem J.roundR {l i d:Nat} {R:Rec} {pend:Option Code} (hi:M[i]? = some (Lp l R .busy pend)) (h:J c m ((d,.bool false)::σ') (M.set i (Lp l R .done (some .ret))) L K):J c n σ M L (roundPost P l (RetY m σ' d K) .ret):=fun a w s t=>by
 obtain⟨F,h1,fn',tmps,h2,h3,h4⟩:=t.res hi
 exact⟨_,_,run_endRound (some .ret) h4,_,rfl,fun a' s'=>h a' _ s' (t.putLp hi h4)⟩
def putAll:List Tmp->List Value->Fr->Fr
 |t::ts,v::vs,σ=>putAll ts vs ((t,v)::σ)
 |_,_,σ=>σ
theorem fold_slots:∀(ps:List Tmp) (vs:List Value) (tmps:Array Value) (σ:Fr) (k:Nat),tmps.size=k->ps.all (fun t=>Nat.blt t k)=true->(∀t v,lk σ t=some v->tmps[t]? = some v)->
  ((ps.zip vs).foldl (fun tmps (x:Tmp×Value)=>tmps.setIfInBounds x.1 x.2) tmps).size=k∧∀t v,lk (putAll ps vs σ) t=some v->((ps.zip vs).foldl (fun tmps (x:Tmp×Value)=>tmps.setIfInBounds x.1 x.2) tmps)[t]? = some v
 | [],_,tmps,σ,k,h1,_,h3=>by simpa [putAll]using ⟨h1,h3⟩
 |_::_,[],tmps,σ,k,h1,_,h3=>by simpa [putAll]using ⟨h1,h3⟩
 | p :: ps, x :: vs, tmps, σ, k, h1, h2, h3 => by
  simp only[List.all_cons,Bool.and_eq_true]at h2
  have hp:p<k:=by simpa [Nat.blt_eq]using h2.1
  simp only[List.zip_cons_cons,List.foldl_cons,putAll]
  refine fold_slots ps vs _ _ k (by simp[h1]) h2.2 fun t v hv=> ?_
  simp only[lk]at hv
  by_cases e:t=p
  ·subst e
   simp at hv
   subst hv
   simp[h1,hp]
  ·rw[beq_ne e]at hv
   simp only[cond_false]at hv
   rw[Array.getElem?_setIfInBounds_ne (Ne.symm e)]
   exact h3 t v hv
theorem J.yield {ops:Array Oper} {rest:List Oper} {t:Tmp} {xs:List Operand} {us:List Value} {ats:Array TypeId} {d:Nat} {ty:TypeId} {pos:String} {aft:Array Edge} {l i:Nat} {R:Rec} {ps:List Tmp} (ht:lk σ t=some (yieldV l)) (hx:xs.map (ev σ)=us.map some) (hi:M[i]? = some (Lp l R .ready none)) (hps:R.ps=ps.toArray) (hlen:us.length=ps.length) (hall:ps.all (fun t=>Nat.blt t R.n)=true) (hd:Nat.blt d n.sz=true)
  (h:J c ⟨R.n,[]⟩ (putAll ps us R.σ) M L (R.assign.wpr (some l) P (Exit.then (Begin P l (R.body.wpr (some l) P (roundPost P l (RetY n σ d (wpList P ops Q rest))))) (fun _ _ _=>False)))):
  J c n σ M L (wpList P ops Q (⟨some d,.call ⟨.value (.tmp t),xs.toArray,ats⟩,ty,pos,aft,none⟩::rest)):=fun a w s tt=>by
 obtain⟨F,h1,fn',tmps,h2,h3,h4⟩:=tt.res hi
 have e:=evs s hx
 have e2:a.eval (.tmp t)=yieldV l:=s.eval (x:= .tmp t) ht
 have hy:=run_yield (P:=P) (args:=us.toArray) h4 (by simp[hps,hlen])
 have hrun:(execOp a.eval ⟨some d,.call ⟨.value (.tmp t),xs.toArray,ats⟩,ty,pos,aft,none⟩).run P w=(Instr.yield l us.toArray).run P w:=by
  simp[execOp,resolve,e2,yieldV,Deferred.ofValue,invoke,e]
 unfold wpList
 rw[if_pos (show Region.wanted _ _=true from rfl)]
 refine .inr ⟨_,_,_,_,_,_,hrun.trans hy,?_⟩
 refine RoundIn.mono (R:=RetY n σ d (wpList P ops Q rest)) (roundIn_of_wpIn (F:=FR none) trivial ?_) ?_
 ·obtain⟨f1,f2⟩:=fold_slots ps us tmps R.σ R.n h2 hall h3
  have:=h {tmps:=(ps.zip us).foldl (fun tmps (x:Tmp×Value)=>tmps.setIfInBounds x.1 x.2) tmps,defers:=[]} w ⟨rfl,f1,f2⟩ tt
  simp only[hps,List.zip_toArray,List.foldl_toArray]
  exact this
 ·rintro e w'' ⟨v,rfl,hv⟩
  exact⟨v,rfl,hv _ (s.put d v hd)⟩
theorem J.rangeFuncR {g:Operand} {ps:Array Tmp} {assign body:Code} {f:FuncId} {fn:Func} {code:Code} {cs:List Value} {k:Nat} (hb:HasBody P f) (hx:ev σ g=some (.func (.func f) #[] cs.toArray)) (hf:P.funcs[f]? = some fn) (hbd:fn.body=some code) (hn:fn.ntmps=k) (hm:Nat.ble (cs.length+1) k=true)
  (h:∀(l D:Nat) (R:Rec),R.n=n.sz∧R.σ=σ∧R.ps=ps∧R.assign=assign∧R.body=body->J c ⟨k,[]⟩ (frame0 0 (yieldV l::cs)) (Lp l R .ready none::Dfr D::M) L (code.wpr none P (bodyPost P fn (RetF P n σ l D Q)))):
  J c n σ M L ((Code.rangeFunc g ps assign body).wpr none P Q):=J.rangeFunc hb hx hf hbd hn hm fun l D=>h l D _ ⟨rfl,rfl,rfl,rfl,rfl⟩
theorem J.yieldR {ops:Array Oper} {rest:List Oper} {t:Tmp} {xs:List Operand} {us:List Value} {ats:Array TypeId} {d:Nat} {ty:TypeId} {pos:String} {aft:Array Edge} {l i k:Nat} {R:Rec} {ps:List Tmp} {σR:Fr} {assign body:Code} (hR:R.n=k∧R.σ=σR∧R.ps=ps.toArray∧R.assign=assign∧R.body=body) (ht:lk σ t=some (yieldV l)) (hx:xs.map (ev σ)=us.map some) (hi:M[i]? = some (Lp l R .ready none)) (hlen:us.length=ps.length) (hall:ps.all (fun t=>Nat.blt t k)=true) (hd:Nat.blt d n.sz=true)
  (h:J c ⟨k,[]⟩ (putAll ps us σR) M L (assign.wpr (some l) P (Exit.then (Begin P l (body.wpr (some l) P (roundPost P l (RetY n σ d (wpList P ops Q rest))))) (fun _ _ _=>False)))):
  J c n σ M L (wpList P ops Q (⟨some d,.call ⟨.value (.tmp t),xs.toArray,ats⟩,ty,pos,aft,none⟩::rest)):=by
 obtain⟨rfl,rfl,h3,rfl,rfl⟩:=hR
 exact J.yield ht hx hi h3 hlen hall hd h
end
end Go.Sx
end
section
namespace Go.Sx
open Go.RowKit
def marks (Ds:List Nat):List Deferred:=Ds.map mark
def Dfs (Ds:List Nat):Fact where
 p w F:=Ds.Nodup∧∀D∈Ds,F D∧w.heap[D]? = some (.deferred (some []))
 mono:=fun⟨h1,h2⟩ h=>⟨h1,fun D hD=>by
  obtain⟨h3,h4⟩:=h D (h2 D hD).1 (Array.getElem?_eq_some_iff.1 (h2 D hD).2).1
  exact⟨h3,by rw[h4];exact(h2 D hD).2⟩⟩
section
variable {P:Program} {rd:Option Nat} {c:Ctx} {n m:Sz} {σ σ':Fr} {M L:List Fact} {Q:Exit->Act->World->Prop} {K G:Act->World->Prop}
theorem Stp.dfs0:Stp M L (Dfs []::M) L:=Stp.add fun _=>⟨List.nodup_nil,by simp⟩
theorem Stp.dfsCons (i j:Nat) {D:Nat} {Ds:List Nat} (hij:i≠j) (hf:M[i]? = some (Dfs Ds)) (hg:M[j]? = some (Dfr D)):Stp M L ((M.set i (Dfs (D::Ds))).eraseIdx j) L:=fun c w t=>
 t.merge i j hij hf hg (by
  rintro w F1 F2 ⟨h1,h2⟩ ⟨h3,h4⟩ hd
  refine⟨List.nodup_cons.2 ⟨fun hm=>hd D (h2 D hm).1 h3,h1⟩,fun E hE=> ?_⟩
  rcases List.mem_cons.1 hE with rfl|hE
  ·exact⟨.inr h3,h4⟩
  ·exact⟨.inl (h2 E hE).1,(h2 E hE).2⟩)
theorem J.rangeFuncD {g:Operand} {ps:Array Tmp} {assign body:Code} {f:FuncId} {fn:Func} {code:Code} {cs:List Value} {k i s:Nat} (Ds:List Nat) (hi:M[i]? = some (Dfs Ds)) (hb:HasBody P f) (hx:ev σ g=some (.func (.func f) #[] cs.toArray)) (hf:P.funcs[f]? = some fn) (hbd:fn.body=some code) (hn:fn.ntmps=k) (hm:Nat.ble (cs.length+1) k=true)
  (h:∀(l D:Nat) (R:Rec),R.n=s∧R.σ=σ∧R.ps=ps∧R.assign=assign∧R.body=body->J c ⟨k,[]⟩ (frame0 0 (yieldV l::cs)) (Lp l R .ready none::M.set i (Dfs (D::Ds))) L (code.wpr none P (bodyPost P fn (RetF P ⟨s,marks Ds⟩ σ l D Q)))):
  J c ⟨s,marks Ds⟩ σ M L ((Code.rangeFunc g ps assign body).wpr none P Q):=J.rangeFuncR hb hx hf hbd hn hm fun l D R hR=>
 J.stp (Stp.dfsCons (i+2) 1 (by omega) hi rfl) (h l D R hR)
theorem J.unmarkAll {fn:Func} {R:Ending->World->Prop} {ex:Exit} {i k:Nat} (hex:ex = .ret∨ex = .normal):∀{Ds:List Nat} {M:List Fact},M[i]? = some (Dfs Ds)->J c ⟨k,[]⟩ σ (M.set i (Dfs [])) L (bodyPost P fn R ex)->J c ⟨k,marks Ds⟩ σ M L (bodyPost P fn R ex)
 | [], M, hi, h => by
  have:M.set i (Dfs [])=M:=by
   apply List.ext_getElem?
   intro j
   by_cases e:i=j
   ·subst e
    rw[hi]
    simp[(List.getElem?_eq_some_iff.1 hi).1]
   ·simp[List.getElem?_set_ne e]
  rw[this]at h
  exact h
 | D :: Ds, M, hi, h => fun a w s t => by
  obtain⟨F,h1,h2⟩:=t.res hi
  have t':St c (M.set i (Dfs Ds)) L (w.putObj D (.deferred none)):=by
   refine t.upd hi rfl rfl rfl (by simp) fun F hF _=>⟨fun k _ hk=> ?_,F,?_,fun _ h=> .inl h⟩
   ·exact World.putObj_heap_other (fun e=>hk (e▸(hF.2 D (by simp)).1))
   ·obtain⟨hn,hF⟩:=hF
    refine⟨(List.nodup_cons.1 hn).2,fun E hE=>⟨(hF E (by simp[hE])).1,?_⟩⟩
    rw[World.putObj_heap_other (fun e=>(List.nodup_cons.1 hn).1 (by subst e;exact hE))]
    exact(hF E (by simp[hE])).2
  refine body_endM hex s.defers (h2 D (by simp)).2 ?_
  have hi':(M.set i (Dfs Ds))[i]? = some (Dfs Ds):=by simp[(List.getElem?_eq_some_iff.1 hi).1]
  have:=J.unmarkAll hex hi' (by rw[List.set_set];exact h) {tmps:=a.tmps,defers:=marks Ds} _ ⟨rfl,s.size,s.slot⟩ t'
  rcases hex with rfl|rfl<;>exact this
def MidN {A B:Type} (c:Ctx) (nI:A->B->Sz) (C:A->Prop) (σI:A->B->Fr) (MI LI:A->B->List Fact) (a:Act) (w:World):Prop:=∃x y,C x∧Sub (nI x y) (σI x y) a∧St c (MI x y) (LI x y) w
theorem J.midN {A B:Type} {x:Code} (nI:A->B->Sz) (C:A->Prop) (σI:A->B->Fr) (MI LI:A->B->List Fact) (h1:J c n σ M L (x.wpr rd P (Exit.then (MidN c nI C σI MI LI) Q))) (h2:∀a b,C a->J c (nI a b) (σI a b) (MI a b) (LI a b) K):
  J c n σ M L (x.wpr rd P (Exit.then K Q)):=fun a w s t=>wpr_mono (fun e a' w' q=>by
 cases e with
 |normal=>obtain⟨z,y,hC,hs,ht⟩:=q;exact h2 z y hC a' w' hs ht
 |exit id=>exact q
 |goto l=>exact q
 |ret=>exact q
 |panic ch=>exact q
 |outgrown=>exact q) (h1 a w s t)
theorem J.meetN {A B:Type} {nI:A->B->Sz} {C:A->Prop} {σI:A->B->Fr} {MI LI:A->B->List Fact} (x:A) (y:B) (hn:n=nI x y) (hC:C x) (hs:SubF σ (σI x y)) (hM:SubM M (MI x y)) (hL:LentAll [] L (LI x y)):J c n σ M L (MidN c nI C σI MI LI):=
 fun _ _ s t=>⟨x,y,hC,hn▸s.weak hs,t.weakE hM hL⟩
end
end Go.Sx
end
section
namespace Go.Sx
open Go.RowKit
def Gb (b:Nat) (cs:List Value):Fact where
 p w S:=S b∧∃T,w.heap[b]? = some (.cells cs.toArray T (0,0))
 mono:=fun⟨h1,T,h2⟩ h=>by
  obtain⟨h3,h4⟩:=h b h1 (Array.getElem?_eq_some_iff.1 h2).1
  exact⟨h3,T,by rw[h4];exact h2⟩
section
variable {P:Program} {c:Ctx} {n:Sz} {σ:Fr} {M L:List Fact} {d:Option Tmp} {ty:TypeId} {pos:String} {aft:Array Edge} {g:Option (Nat×Bool)} {α:Type} {e:Enc α}
theorem Y.indexArrK [Tab P] {T E:TypeId} {ki:IntKind} {k s1 s2 s3 s4:Nat} {z z':Value} {dE:TypeDesc} {x y:Operand} {b:Nat} {i:Int} (hx:ev σ x=some (.pointer (some ⟨b,0,none⟩))) (hy:ev σ y=some (.int ki i))
  (hT:Tab.tab P T=some ⟨.array k E,s1,s2,z⟩) (hE:Tab.tab P E=some ⟨dE,s3,s4,z'⟩) (h3:(s3==0)=false) (h:0<=i∧i<(k:Int)):
  Y P c n σ M L ⟨d,.indexAddr T x y,ty,pos,aft,g⟩ (.pointer (some ⟨b,i.toNat*s3,none⟩)):=fun a w s t=>by
 have hne:s3≠0:=by simpa using h3
 simp[execOp,s.eval hx,s.eval hy,Instr.indexAt,asIntOf,(Tab.ok hT).run_und w,h,Instr.sureAddr,(Tab.ok hE).run_size w,hne,add_none]
theorem Y.loadGlb [Tab P] [Inhabited α] {T:TypeId} {s2:Nat} {z:Value} {dT:TypeDesc} {x:Operand} {b k:Nat} {i:Int} {xs:List α} {u:Value} (hx:ev σ x=some (.pointer (some ⟨b,i.toNat*1,none⟩)))
  (hM:Lent M L (Gb b (cellsOf e xs))) (hT:Tab.tab P T=some ⟨dT,1,s2,z⟩) (hd:aggD dT=false) (hq:e.sz=1) (hu:(e.enc (at' xs i))=[u]) (h:(0<=i∧i<(k:Int))∧xs.length=k):
  Y P c n σ M L ⟨d,.load T x,ty,pos,aft,g⟩ u:=fun a w s t=>by
 obtain⟨F,hF1,T',hF2⟩:=hM.st t
 have hF:(Blk b (cellsOf e xs) T').p w F:=⟨hF1,hF2⟩
 have hg:=cellsOf_get e xs i.toNat (at' xs i) (at'_some h.1.1 (by omega)) 0 u (by rw[hu];rfl)
 rw[hq,Nat.add_zero]at hg
 rw[Nat.mul_one]at hx hg
 simp[execOp,s.eval hx,run_load1 (Tab.ok hT) hd (Blk.cell hF hg)]
end
end Go.Sx
end
section
namespace Go.Proofs.YtfbkplemadmbfaaGreatDoor
open Go.Sx
def tab0:List Int:=[0,1,28,2,29,14,24,3,30,22,20,15,25,17,4,8,31,27,13,23,21,19,16,7,26,12,18,6,11,5,10,9]
abbrev EU8:Enc Int:=Enc.int .u8
abbrev EI64:Enc Int:=Enc.int .i64
abbrev RI64:Rep Int:=Rep.int .i64
theorem FI64:EI64.Fits RI64:=Enc.int_fits .i64
theorem RI64c0:RI64.Cell 0 (fun x=> .int .i64 x):=Rep.int_cell .i64
abbrev EBo:Enc Bool:=Enc.bool
abbrev EI64I64p:Enc (Int×Int):=Enc.pair EI64 (EI64)
abbrev RI64I64p:Rep (Int×Int):=Rep.pair RI64 (RI64)
theorem FI64I64p:EI64I64p.Fits RI64I64p:=Enc.pair_fits FI64 (FI64)
theorem RI64I64pc0:RI64I64p.Cell 0 (fun x=> .int .i64 x.1):=Rep.pair_cell1 (RI64c0)
theorem RI64I64pc1:RI64I64p.Cell 1 (fun x=> .int .i64 x.2):=Rep.pair_cell2 (RI64c0)
abbrev RU32:Rep Int:=Rep.int .u32
theorem RU32c0:RU32.Cell 0 (fun x=> .int .u32 x):=Rep.int_cell .u32
def vI64 (x:Int):Value:=Value.int .i64 (x)
def vI64I64p (x:Int×Int):Value:=Value.agg #[Value.int .i64 (x.1),Value.int .i64 (x.2)]
theorem key_T123 (x y:Int×Int) (m:Nat) (w:World):(Op.equalIn (m+2) 123 (.agg #[.int .i64 x.1,.int .i64 x.2]) (.agg #[.int .i64 y.1,.int .i64 y.2])).run Tryz.prog w = .ok (decide (x=y)) w:=by
 have h3:∀a b:Int,(Op.equalIn (m+1) 3 (.int .i64 a) (.int .i64 b)).run Tryz.prog w = .ok (a==b) w:=by
  intro a b
  simp[Op.equalIn]
 unfold Op.equalIn
 simp[show List.range' 0 2=[0,1]from rfl,part,isAgg,h3]
 obtain⟨a0,a1⟩:=x
 obtain⟨c0,c1⟩:=y
 by_cases e0:a0=c0<;>by_cases e1:a1=c1<;>simp[e0,e1,h3]
theorem chk_T123 (b:Bool) (k:Int×Int) (w:World):(Instr.checkKey b 10000 123 (vI64I64p k)).run Tryz.prog w = .ok () w:=by
 have key:∀m:Nat,(Instr.checkKey b (m+2) 123 (vI64I64p k)).run Tryz.prog w = .ok () w:=by
  intro m
  simp[Instr.checkKey,vI64I64p,part,isAgg,show List.range' 0 2=[0,1]from rfl]
 exact key 9998
theorem kok_123:KeyOk Tryz.prog 123 vI64I64p:=KeyOk.deep Tryz.underlying123 chk_T123 (fun _ _=>rfl) (fun a b w=>key_T123 a b 9998 w) (fun k=>by
 have key:∀m:Nat,Instr.sameBits (m+2) (vI64I64p k) (vI64I64p k)=true:=fun m=>by simp[Instr.sameBits,vI64I64p]
 exact key 9998)
theorem fill_1_1 (u0:Value) (h0:one u0=true) (init:Array Value) (h:init.size=1*1):Instr.fill (fun i=>some (i*1,1)) init [(0,u0)]=some [u0].toArray:=by
 obtain⟨l⟩:=init
 match l,h with
 | [z0],_=>simp[Instr.fill,one_cells h0]
theorem fill_1_2 (u0 u1:Value) (init:Array Value) (h:init.size=1*2):Instr.fill (fun i=>some (i*2,2)) init [(0,.agg #[u0,u1])]=some [u0,u1].toArray:=by
 obtain⟨l⟩:=init
 match l,h with
 | [z0,z1],_=>simp[Instr.fill,Value.cells]
end Go.Proofs.YtfbkplemadmbfaaGreatDoor
end
section
namespace Go.Proofs.YtfbkplemadmbfaaGreatDoor
open Go.Sx
def graph_DifferentIDs_k1  (a2:Unit):Option (Bool):=
 some (true)
def graph_DifferentIDs_k2 (p0:List (Int)) (a7:Int×List (Bool)) (ag6:(Int×List (Bool))->Option (Bool)) (a13:Bool):Option (Bool):=
 if a13=true then(some (false))else(ck ((0<=(at' p0 a7.1)∧(at' p0 a7.1)<((256:Nat):Int))∧List.length a7.2=256) (ag6 ((wI .i64 (a7.1+(1:Int))),(List.set a7.2 (Int.toNat (at' p0 a7.1)) true))))
def graph_DifferentIDs_s1 (p0:List (Int)) (a7:Int×List (Bool)) (ag6:(Int×List (Bool))->Option (Bool)):Option (Bool):=
 if a7.1<(List.length p0:Int)then(ck (0<=a7.1∧a7.1<(List.length p0:Int)) (if(at' p0 a7.1)<(0:Int)then(graph_DifferentIDs_k2 p0 a7 ag6 (true))else(if(255:Int)<(at' p0 a7.1)then(graph_DifferentIDs_k2 p0 a7 ag6 (true))else(ck ((0<=(at' p0 a7.1)∧(at' p0 a7.1)<((256:Nat):Int))∧List.length a7.2=256) (graph_DifferentIDs_k2 p0 a7 ag6 ((at' a7.2 (at' p0 a7.1))))))))else(graph_DifferentIDs_k1  (()))
def m_graph_DifferentIDs (fuel:Nat) (p0:List (Int)):Option (Bool):=
 iter (graph_DifferentIDs_s1 p0) fuel ((0:Int),(List.replicate 256 false))
theorem body68:HasBody Tryz.prog 68:=Tryz.call68
theorem t_graph_DifferentIDs (fuel:Nat) {p0:List (Int)} (v0:Value) (r:Bool) (h:m_graph_DifferentIDs fuel p0=some r):
  Meets Tryz.prog 68 #[v0] [Sl RI64 v0 p0] (fun x:Unit=>Value.bool (r)) (fun x l=>l) (fun _ l=>l):=by
 refine Meets.of (vs:=[v0]) Tryz.func68 rfl Tryz.ntmps68 rfl fun c=> ?_
 unfold m_graph_DifferentIDs at h
 refine J.seq<|J.region<|J.quiet (Y.assign rfl) rfl<|J.done<|J.thenN<|J.seq<|J.region ?_
 refine J.loud (Loud.alloc (cs:=cellsOf EBo (List.replicate 256 false)) rfl (by kernel_rfl)) rfl fun b1=> ?_
 refine J.done<|J.thenN<|J.seq<|J.midI (A:=Unit) (B:=Unit) (fun a2=>graph_DifferentIDs_k1  a2=some r) (fun a2 b3=>[]) (fun a2 b3=>[]) (fun a2 b3=>[Sl RI64 v0 p0]) ?_ ?_
 ·refine J.seq<|J.region<|J.quiet (Y.move rfl) rfl<|J.quiet (Y.lenS rfl (Lent.fact 0 rfl) rfl) rfl<|J.quiet (Y.move rfl) rfl<|J.done<|J.thenN<|J.block<|J.loopI (A:=Int×List (Bool)) (B:=Unit) (graph_DifferentIDs_s1 p0) (fun a7 b8=>[(3,Value.pointer (some ⟨b1,0,none⟩)),(6,v0),(7,Value.int .i64 (List.length p0:Int)),(8,Value.int .i64 (a7.1))]) (fun a7 b8=>[Blk b1 (cellsOf EBo a7.2) 121]) (fun a7 b8=>[Sl RI64 v0 p0]) ((0:Int),(List.replicate 256 false)) (()) h SF (SubM.refl _) (LentAll.refl _ _) ?_
  clear h
  intro k9 a7 b8 h
  unfold graph_DifferentIDs_s1 at h
  refine J.seq<|J.region<|J.quiet (Y.lss rfl rfl) rfl<|J.done<|J.thenN<|J.seq ?_
  refine J.condD (by exact rfl) (fun hp10=> ?_) (fun hp10=> ?_)
  ·have h:=ifP hp10 h
   refine J.skip<|J.thenN<|J.seq<|J.block<|J.seq<|J.region ?_
   have h:=ck_some h;obtain⟨hc11,h⟩:=h
   refine J.quiet (Y.indexS rfl rfl (Lent.fact 0 rfl) rfl rfl hc11) rfl<|J.quiet (Y.loadS0 rfl (Lent.fact 0 rfl) rfl rfl rfl RI64c0 hc11) rfl<|J.quiet (Y.assign rfl) rfl<|J.done<|J.thenN<|J.seq<|J.seq<|J.midI (A:=Bool) (B:=Unit) (fun a13=>graph_DifferentIDs_k2 p0 a7 (iter (graph_DifferentIDs_s1 p0) k9) a13=some r) (fun a13 b14=>[(3,Value.pointer (some ⟨b1,0,none⟩)),(5,Value.int .i64 (at' p0 a7.1)),(6,v0),(7,Value.int .i64 (List.length p0:Int)),(8,Value.int .i64 (a7.1)),(22,Value.bool (a13))]) (fun a13 b14=>[Blk b1 (cellsOf EBo a7.2) 121]) (fun a13 b14=>[Sl RI64 v0 p0]) ?_ ?_
   ·refine J.region<|J.quiet (Y.move rfl) rfl<|J.quiet (Y.lss rfl rfl) rfl<|J.quiet (Y.move rfl) rfl ?_
    refine J.guardD (by exact rfl) (by exact rfl) (fun hp17=> ?_) (fun hp17=> ?_)
    ·have h:=ifP hp17 h
     refine J.guardN rfl rfl rfl<|J.guardN rfl rfl rfl<|J.quiet (Y.pickT rfl rfl) rfl<|J.quiet (Y.move rfl) rfl<|J.guardN rfl rfl rfl<|J.guardN rfl rfl rfl<|J.guardN rfl rfl rfl<|J.quiet (Y.pickT rfl rfl) rfl<|J.done<|J.thenN ?_
     exact J.meetI (true) (()) h SF (SubM.refl _) (LentAll.refl _ _)
    ·have h:=ifN hp17 h
     refine J.guardY rfl (Y.move rfl) rfl<|J.guardY rfl (Y.gtr rfl rfl) rfl<|J.quiet (Y.pickF rfl rfl) rfl<|J.quiet (Y.move rfl) rfl ?_
     refine J.guardD (by exact rfl) (by exact rfl) (fun hp18=> ?_) (fun hp18=> ?_)
     ·have h:=ifP hp18 h
      refine J.guardN rfl rfl rfl<|J.guardN rfl rfl rfl<|J.guardN rfl rfl rfl<|J.quiet (Y.pickT rfl rfl) rfl<|J.done<|J.thenN ?_
      exact J.meetI (true) (()) h SF (SubM.refl _) (LentAll.refl _ _)
     ·have h:=ifN hp18 h
      refine J.guardY rfl (Y.move rfl) rfl ?_
      have h:=ck_some h;obtain⟨hc19,h⟩:=h
      refine J.guardY rfl (Y.indexArr rfl rfl rfl rfl rfl hc19.1) rfl<|J.guardY rfl (Y.loadArr (e:=EBo) rfl (Lent.res 0 rfl) rfl rfl rfl rfl hc19) rfl<|J.quiet (Y.pickF rfl rfl) rfl<|J.done<|J.thenN ?_
      exact J.meetI ((at' a7.2 (at' p0 a7.1))) (()) h SF (SubM.refl _) (LentAll.refl _ _)
   ·clear h
    intro a13 b14 h
    unfold graph_DifferentIDs_k2 at h
    refine J.cond (by exact rfl) (fun hp15=> ?_) (fun hp15=> ?_)
    ·have h:=ifP hp15 h
     refine J.seq<|J.region<|J.quiet (Y.assign rfl) rfl<|J.done<|J.thenN<|J.ret<|J.thenR<|J.inR<|J.thenR<|J.thenR<|J.inR<|J.thenR ?_
     obtain rfl:=Option.some.inj h
     exact J.retG1 (()) rfl rfl (RV.tmp rfl) (SubM.nil) LentAll.nil
    ·have h:=ifBN hp15 h
     refine J.skip<|J.thenN<|J.region<|J.quiet (Y.move rfl) rfl ?_
     have h:=ck_some h;obtain⟨hc16,h⟩:=h
     refine J.quiet (Y.indexArr rfl rfl rfl rfl rfl hc16.1) rfl<|J.storeArr 0 (e:=EBo) true hc16 rfl rfl rfl rfl rfl rfl rfl<|J.done<|J.inN<|J.thenN<|J.region<|J.quiet (Y.addW rfl rfl) rfl<|J.quiet (Y.move rfl) rfl<|J.done<|J.thenN ?_
     exact J.againI ((wI .i64 (a7.1+(1:Int))),(List.set a7.2 (Int.toNat (at' p0 a7.1)) true)) (()) h SF (SubM.refl _) (LentAll.refl _ _)
  ·have h:=ifN hp10 h
   refine J.exit<|J.thenX<|J.thenX<|J.inX<|J.thenN ?_
   exact J.meetI (()) (()) h SF (SubM.nil) (LentAll.refl _ _)
 ·clear h
  intro a2 b3 h
  unfold graph_DifferentIDs_k1 at h
  refine J.seq<|J.region<|J.quiet (Y.assign rfl) rfl<|J.done<|J.thenN<|J.ret ?_
  obtain rfl:=Option.some.inj h
  exact J.retG1 (()) rfl rfl (RV.tmp rfl) (SubM.refl _) LentAll.nil
end Go.Proofs.YtfbkplemadmbfaaGreatDoor
end
section
namespace Go.Proofs.YtfbkplemadmbfaaGreatDoor
open Go.Sx
def graph_symmetric_s1 (a3:(List ((Int×Int)×Int))) (kv6:(Int×Int)×Int) (xa9:Option (Bool)):Option (Bool):=
 if(Option.getD (mget (kv6.1.2,kv6.1.1) a3) (0:Int))≠kv6.2 then(some (false))else(xa9)
def graph_symmetric_k1  (a3:(List ((Int×Int)×Int))):Option (Bool):=
 mrun (graph_symmetric_s1 a3) (some (true)) a3
def graph_symmetric_k2 (a17:Int×(List ((Int×Int)×Int))) (ag16:(Int×(List ((Int×Int)×Int)))->Option (Bool)) (a22:(List ((Int×Int)×Int))):Option (Bool):=
 ag16 ((wI .i64 (a17.1+(1:Int))),a22)
def graph_symmetric_k4 (p0:List (List (Int×Int))) (a17:Int×(List ((Int×Int)×Int))) (a28:Int×(List ((Int×Int)×Int))) (ag27:(Int×(List ((Int×Int)×Int)))->Option (Bool)) (a39:Bool):Option (Bool):=
 if a39=true then(some (false))else(if(Option.isSome (mget (a17.1,((at' (at' p0 a17.1) a28.1).1)) a28.2))=true then(some (false))else(ag27 ((wI .i64 (a28.1+(1:Int))),(mset (a17.1,((at' (at' p0 a17.1) a28.1).1)) ((at' (at' p0 a17.1) a28.1).2) a28.2))))
def graph_symmetric_k3 (p0:List (List (Int×Int))) (a17:Int×(List ((Int×Int)×Int))) (a28:Int×(List ((Int×Int)×Int))) (ag27:(Int×(List ((Int×Int)×Int)))->Option (Bool)) (a35:Bool):Option (Bool):=
 if a35=true then(some (false))else(if((at' (at' p0 a17.1) a28.1).2)<(1:Int)then(graph_symmetric_k4 p0 a17 a28 ag27 (true))else(graph_symmetric_k4 p0 a17 a28 ag27 (decide ((15:Int)<((at' (at' p0 a17.1) a28.1).2)))))
def graph_symmetric_s3 (p0:List (List (Int×Int))) (a17:Int×(List ((Int×Int)×Int))) (ag16:(Int×(List ((Int×Int)×Int)))->Option (Bool)) (a28:Int×(List ((Int×Int)×Int))) (ag27:(Int×(List ((Int×Int)×Int)))->Option (Bool)):Option (Bool):=
 if a28.1<(List.length (at' p0 a17.1):Int)then(ck (0<=a28.1∧a28.1<(List.length (at' p0 a17.1):Int)) (if((at' (at' p0 a17.1) a28.1).1)<(0:Int)then(graph_symmetric_k3 p0 a17 a28 ag27 (true))else(if(List.length p0:Int)<=((at' (at' p0 a17.1) a28.1).1)then(graph_symmetric_k3 p0 a17 a28 ag27 (true))else(graph_symmetric_k3 p0 a17 a28 ag27 (decide (((at' (at' p0 a17.1) a28.1).1)=a17.1))))))else(graph_symmetric_k2 a17 ag16 (a28.2))
def graph_symmetric_s2 (fuel:Nat) (p0:List (List (Int×Int))) (a17:Int×(List ((Int×Int)×Int))) (ag16:(Int×(List ((Int×Int)×Int)))->Option (Bool)):Option (Bool):=
 if a17.1<(List.length p0:Int)then(ck (0<=a17.1∧a17.1<(List.length p0:Int)) (iter (graph_symmetric_s3 p0 a17 ag16) fuel ((0:Int),a17.2)))else(graph_symmetric_k1  (a17.2))
def m_graph_symmetric (fuel:Nat) (p0:List (List (Int×Int))):Option (Bool):=
 iter (graph_symmetric_s2 fuel p0) fuel ((0:Int),([]:List ((Int×Int)×Int)))
theorem body69:HasBody Tryz.prog 69:=Tryz.call69
theorem t_graph_symmetric (fuel:Nat) {p0:List (List (Int×Int))} (v0:Value)  (z1:List (Value×List (Int×Int))) (r:Bool) (h:m_graph_symmetric fuel p0=some r):
  Meets Tryz.prog 69 #[v0] [S2 RI64I64p v0 z1 p0] (fun x:Unit=>Value.bool (r)) (fun x l=>l) (fun _ l=>l):=by
 refine Meets.of (vs:=[v0]) Tryz.func69 rfl Tryz.ntmps69 rfl fun c=> ?_
 unfold m_graph_symmetric at h
 refine J.seq<|J.region<|J.quiet (Y.assign rfl) rfl<|J.done<|J.thenN<|J.seq<|J.region<|J.loud (Loud.makeMap vI64I64p vI64) rfl fun b1=>J.quiet (Y.assign rfl) rfl<|J.done<|J.thenN<|J.seq<|J.midI (A:=(List ((Int×Int)×Int))) (B:=Unit) (fun a3=>graph_symmetric_k1  a3=some r) (fun a3 b4=>[(3,Value.map (some b1))]) (fun a3 b4=>[Mp vI64I64p vI64 b1 a3]) (fun a3 b4=>[S2 RI64I64p v0 z1 p0]) ?_ ?_
 ·refine J.seq<|J.region<|J.quiet (Y.move rfl) rfl<|J.quiet (Y.lenN rfl (Lent.fact 0 rfl) rfl) rfl<|J.quiet (Y.move rfl) rfl<|J.done<|J.thenN<|J.block<|J.loopI (A:=Int×(List ((Int×Int)×Int))) (B:=Unit) (graph_symmetric_s2 fuel p0) (fun a17 b18=>[(0,v0),(3,Value.map (some b1)),(14,v0),(15,Value.int .i64 (List.length p0:Int)),(16,Value.int .i64 (a17.1))]) (fun a17 b18=>[Mp vI64I64p vI64 b1 a17.2]) (fun a17 b18=>[S2 RI64I64p v0 z1 p0]) ((0:Int),([]:List ((Int×Int)×Int))) (()) h SF (SubM.refl _) (LentAll.refl _ _) ?_
  clear h
  intro k19 a17 b18 h
  unfold graph_symmetric_s2 at h
  refine J.seq<|J.region<|J.quiet (Y.lss rfl rfl) rfl<|J.done<|J.thenN<|J.seq ?_
  refine J.condD (by exact rfl) (fun hp20=> ?_) (fun hp20=> ?_)
  ·have h:=ifP hp20 h
   refine J.skip<|J.thenN<|J.seq<|J.midI (A:=(List ((Int×Int)×Int))) (B:=Unit) (fun a22=>graph_symmetric_k2 a17 (iter (graph_symmetric_s2 fuel p0) k19) a22=some r) (fun a22 b23=>[(0,v0),(3,Value.map (some b1)),(14,v0),(15,Value.int .i64 (List.length p0:Int)),(16,Value.int .i64 (a17.1))]) (fun a22 b23=>[Mp vI64I64p vI64 b1 a22]) (fun a22 b23=>[S2 RI64I64p v0 z1 p0]) ?_ ?_
   ·refine J.block<|J.seq<|J.region<|J.quiet (Y.move rfl) rfl ?_
    have h:=ck_some h;obtain⟨hc24,h⟩:=h
    refine J.quiet (Y.indexN rfl rfl (Lent.fact 0 rfl) rfl rfl hc24) rfl<|J.quiet (Y.loadRow rfl (Lent.fact 0 rfl) rfl rfl hc24) rfl<|J.quiet (Y.assign rfl) rfl<|J.quiet (Y.assign rfl) rfl<|J.done<|J.thenN<|J.seq<|J.region<|J.quiet (Y.move rfl) rfl<|J.quiet (Y.lenS rfl (Lent.el (Lent.fact 0 rfl) hc24.1 hc24.2) rfl) rfl<|J.quiet (Y.move rfl) rfl<|J.done<|J.thenN<|J.block<|J.loopI (A:=Int×(List ((Int×Int)×Int))) (B:=Unit) (graph_symmetric_s3 p0 a17 (iter (graph_symmetric_s2 fuel p0) k19)) (fun a28 b29=>[(0,v0),(3,Value.map (some b1)),(4,Value.int .i64 (a17.1)),(14,v0),(15,Value.int .i64 (List.length p0:Int)),(16,Value.int .i64 (a17.1)),(21,(at' z1 a17.1).1),(22,Value.int .i64 (List.length (at' p0 a17.1):Int)),(23,Value.int .i64 (a28.1))]) (fun a28 b29=>[Mp vI64I64p vI64 b1 a28.2]) (fun a28 b29=>[S2 RI64I64p v0 z1 p0]) ((0:Int),a17.2) (()) h SF (SubM.refl _) (LentAll.refl _ _) ?_
    clear h
    intro k30 a28 b29 h
    unfold graph_symmetric_s3 at h
    refine J.seq<|J.region<|J.quiet (Y.lss rfl rfl) rfl<|J.done<|J.thenN<|J.seq ?_
    refine J.condD (by exact rfl) (fun hp31=> ?_) (fun hp31=> ?_)
    ·have h:=ifP hp31 h
     refine J.skip<|J.thenN<|J.seq<|J.block<|J.seq<|J.region ?_
     have h:=ck_some h;obtain⟨hc32,h⟩:=h
     refine J.quiet (Y.indexS rfl rfl (Lent.el (Lent.fact 0 rfl) hc24.1 hc24.2) rfl rfl hc32) rfl<|J.quiet (Y.loadAggS (cs:=[Value.int .i64 ((at' (at' p0 a17.1) a28.1).1),Value.int .i64 ((at' (at' p0 a17.1) a28.1).2)]) rfl (Lent.el (Lent.fact 0 rfl) hc24.1 hc24.2) FI64I64p rfl rfl rfl rfl hc32) rfl<|J.loud (Loud.alloc (cs:=[Value.int .i64 (0:Int),Value.int .i64 (0:Int)]) rfl rfl) rfl fun b33=>J.storeAll 0 (vs:=[Value.int .i64 ((at' (at' p0 a17.1) a28.1).1),Value.int .i64 ((at' (at' p0 a17.1) a28.1).2)]) rfl rfl rfl rfl rfl rfl<|J.done<|J.thenN<|J.seq<|J.seq<|J.midI (A:=Bool) (B:=Unit) (fun a35=>graph_symmetric_k3 p0 a17 a28 (iter (graph_symmetric_s3 p0 a17 (iter (graph_symmetric_s2 fuel p0) k19)) k30) a35=some r) (fun a35 b36=>[(0,v0),(3,Value.map (some b1)),(4,Value.int .i64 (a17.1)),(7,Value.pointer (some ⟨b33,0,none⟩)),(14,v0),(15,Value.int .i64 (List.length p0:Int)),(16,Value.int .i64 (a17.1)),(21,(at' z1 a17.1).1),(22,Value.int .i64 (List.length (at' p0 a17.1):Int)),(23,Value.int .i64 (a28.1)),(42,Value.bool (a35))]) (fun a35 b36=>[Blk b33 [Value.int .i64 ((at' (at' p0 a17.1) a28.1).1),Value.int .i64 ((at' (at' p0 a17.1) a28.1).2)] 87,Mp vI64I64p vI64 b1 a28.2]) (fun a35 b36=>[S2 RI64I64p v0 z1 p0]) ?_ ?_
     ·refine J.region<|J.quiet (Y.fieldB rfl rfl rfl rfl rfl) rfl<|J.quiet (Y.loadB 0 rfl rfl rfl rfl rfl) rfl<|J.quiet (Y.lss rfl rfl) rfl<|J.quiet (Y.move rfl) rfl ?_
      refine J.guardD (by exact rfl) (by exact rfl) (fun hp45=> ?_) (fun hp45=> ?_)
      ·have h:=ifP hp45 h
       refine J.guardN rfl rfl rfl<|J.guardN rfl rfl rfl<|J.guardN rfl rfl rfl<|J.guardN rfl rfl rfl<|J.guardN rfl rfl rfl<|J.quiet (Y.pickT rfl rfl) rfl<|J.quiet (Y.move rfl) rfl<|J.guardN rfl rfl rfl<|J.guardN rfl rfl rfl<|J.guardN rfl rfl rfl<|J.guardN rfl rfl rfl<|J.quiet (Y.pickT rfl rfl) rfl<|J.done<|J.thenN ?_
       exact J.meetI (true) (()) h SF (SubM.refl _) (LentAll.refl _ _)
      ·have h:=ifN hp45 h
       refine J.guardY rfl (Y.fieldB rfl rfl rfl rfl rfl) rfl<|J.guardY rfl (Y.loadB 0 rfl rfl rfl rfl rfl) rfl<|J.guardY rfl (Y.move rfl) rfl<|J.guardY rfl (Y.lenN rfl (Lent.fact 0 rfl) rfl) rfl<|J.guardY rfl (Y.geq rfl rfl) rfl<|J.quiet (Y.pickF rfl rfl) rfl<|J.quiet (Y.move rfl) rfl ?_
       refine J.guardD (by exact rfl) (by exact rfl) (fun hp46=> ?_) (fun hp46=> ?_)
       ·have h:=ifP hp46 h
        refine J.guardN rfl rfl rfl<|J.guardN rfl rfl rfl<|J.guardN rfl rfl rfl<|J.guardN rfl rfl rfl<|J.quiet (Y.pickT rfl rfl) rfl<|J.done<|J.thenN ?_
        exact J.meetI (true) (()) h SF (SubM.refl _) (LentAll.refl _ _)
       ·have h:=ifN hp46 h
        refine J.guardY rfl (Y.fieldB rfl rfl rfl rfl rfl) rfl<|J.guardY rfl (Y.loadB 0 rfl rfl rfl rfl rfl) rfl<|J.guardY rfl (Y.move rfl) rfl<|J.guardY rfl (Y.eql rfl rfl) rfl<|J.quiet (Y.pickF rfl rfl) rfl<|J.done<|J.thenN ?_
        exact J.meetI (decide (((at' (at' p0 a17.1) a28.1).1)=a17.1)) (()) h SF (SubM.refl _) (LentAll.refl _ _)
     ·clear h
      intro a35 b36 h
      unfold graph_symmetric_k3 at h
      refine J.cond (by exact rfl) (fun hp37=> ?_) (fun hp37=> ?_)
      ·have h:=ifP hp37 h
       refine J.seq<|J.region<|J.quiet (Y.assign rfl) rfl<|J.done<|J.thenN<|J.ret<|J.thenR<|J.inR<|J.thenR<|J.thenR<|J.inR<|J.inR<|J.thenR<|J.thenR<|J.inR<|J.thenR ?_
       obtain rfl:=Option.some.inj h
       exact J.retG1 (()) rfl rfl (RV.tmp rfl) (SubM.nil) LentAll.nil
      ·have h:=ifBN hp37 h
       refine J.skip<|J.thenN<|J.seq<|J.seq<|J.midI (A:=Bool) (B:=Unit) (fun a39=>graph_symmetric_k4 p0 a17 a28 (iter (graph_symmetric_s3 p0 a17 (iter (graph_symmetric_s2 fuel p0) k19)) k30) a39=some r) (fun a39 b40=>[(0,v0),(3,Value.map (some b1)),(4,Value.int .i64 (a17.1)),(7,Value.pointer (some ⟨b33,0,none⟩)),(14,v0),(15,Value.int .i64 (List.length p0:Int)),(16,Value.int .i64 (a17.1)),(21,(at' z1 a17.1).1),(22,Value.int .i64 (List.length (at' p0 a17.1):Int)),(23,Value.int .i64 (a28.1)),(50,Value.bool (a39))]) (fun a39 b40=>[Blk b33 [Value.int .i64 ((at' (at' p0 a17.1) a28.1).1),Value.int .i64 ((at' (at' p0 a17.1) a28.1).2)] 87,Mp vI64I64p vI64 b1 a28.2]) (fun a39 b40=>[S2 RI64I64p v0 z1 p0]) ?_ ?_
       ·refine J.region<|J.quiet (Y.fieldB rfl rfl rfl rfl rfl) rfl<|J.quiet (Y.loadB 0 rfl rfl rfl rfl rfl) rfl<|J.quiet (Y.lss rfl rfl) rfl<|J.quiet (Y.move rfl) rfl ?_
        refine J.guardD (by exact rfl) (by exact rfl) (fun hp44=> ?_) (fun hp44=> ?_)
        ·have h:=ifP hp44 h
         refine J.guardN rfl rfl rfl<|J.guardN rfl rfl rfl<|J.guardN rfl rfl rfl<|J.quiet (Y.pickT rfl rfl) rfl<|J.done<|J.thenN ?_
         exact J.meetI (true) (()) h SF (SubM.refl _) (LentAll.refl _ _)
        ·have h:=ifN hp44 h
         refine J.guardY rfl (Y.fieldB rfl rfl rfl rfl rfl) rfl<|J.guardY rfl (Y.loadB 0 rfl rfl rfl rfl rfl) rfl<|J.guardY rfl (Y.gtr rfl rfl) rfl<|J.quiet (Y.pickF rfl rfl) rfl<|J.done<|J.thenN ?_
         exact J.meetI (decide ((15:Int)<((at' (at' p0 a17.1) a28.1).2))) (()) h SF (SubM.refl _) (LentAll.refl _ _)
       ·clear h
        intro a39 b40 h
        unfold graph_symmetric_k4 at h
        refine J.cond (by exact rfl) (fun hp41=> ?_) (fun hp41=> ?_)
        ·have h:=ifP hp41 h
         refine J.seq<|J.region<|J.quiet (Y.assign rfl) rfl<|J.done<|J.thenN<|J.ret<|J.thenR<|J.inR<|J.thenR<|J.thenR<|J.inR<|J.inR<|J.thenR<|J.thenR<|J.inR<|J.thenR ?_
         obtain rfl:=Option.some.inj h
         exact J.retG1 (()) rfl rfl (RV.tmp rfl) (SubM.nil) LentAll.nil
        ·have h:=ifBN hp41 h
         refine J.skip<|J.thenN<|J.seq<|J.region<|J.quiet (Y.move rfl) rfl<|J.quiet (Y.fieldB rfl rfl rfl rfl rfl) rfl<|J.quiet (Y.loadB 0 rfl rfl rfl rfl rfl) rfl ?_
         refine J.quiet (Y.bld2 (r:=Value.agg #[Value.int .i64 (a17.1),Value.int .i64 ((at' (at' p0 a17.1) a28.1).1)]) rfl rfl (by intro w;simp[Instr.build,Instr.fill,cells_intV,cells_boolV,cells_sliceV,cells_ptrV,cells_strV,cells_funcV,cells_agg])) rfl ?_
         refine J.loud (Loud.alloc (cs:=[Value.int .i64 (0:Int),Value.int .i64 (0:Int)]) rfl rfl) rfl fun b42=>J.storeAll 0 (vs:=[Value.int .i64 (a17.1),Value.int .i64 ((at' (at' p0 a17.1) a28.1).1)]) rfl rfl rfl rfl rfl rfl<|J.done<|J.thenN<|J.seq<|J.seq<|J.region<|J.quiet (Y.move rfl) rfl<|J.quiet (Y.loadBAll 0 rfl rfl rfl rfl) rfl ?_
         refine J.quiet (Y.lookup 2 ((a17.1,((at' (at' p0 a17.1) a28.1).1))) (u:=Value.int .i64 (Option.getD (mget (a17.1,((at' (at' p0 a17.1) a28.1).1)) a28.2) (0:Int))) kok_123 rfl rfl rfl rfl rfl (by cases mget ((a17.1,((at' (at' p0 a17.1) a28.1).1))) a28.2<;>rfl)) rfl ?_
         refine J.quiet (Y.move rfl) rfl<|J.quiet (Y.extract rfl rfl) rfl<|J.quiet (Y.extract rfl rfl) rfl<|J.quiet (Y.assign rfl) rfl<|J.quiet (Y.assign rfl) rfl<|J.done<|J.thenN<|J.seq<|J.region<|J.quiet (Y.move rfl) rfl<|J.done<|J.thenN ?_
         refine J.cond (by exact rfl) (fun hp43=> ?_) (fun hp43=> ?_)
         ·have h:=ifP hp43 h
          refine J.seq<|J.region<|J.quiet (Y.assign rfl) rfl<|J.done<|J.thenN<|J.ret<|J.thenR<|J.inR<|J.thenR<|J.thenR<|J.inR<|J.inR<|J.thenR<|J.thenR<|J.inR<|J.thenR ?_
          obtain rfl:=Option.some.inj h
          exact J.retG1 (()) rfl rfl (RV.tmp rfl) (SubM.nil) LentAll.nil
         ·have h:=ifBN hp43 h
          refine J.skip<|J.thenN<|J.region<|J.quiet (Y.move rfl) rfl<|J.quiet (Y.loadBAll 0 rfl rfl rfl rfl) rfl<|J.quiet (Y.fieldB rfl rfl rfl rfl rfl) rfl<|J.quiet (Y.loadB 1 rfl rfl rfl rfl rfl) rfl<|J.mapUpdate 2 ((a17.1,((at' (at' p0 a17.1) a28.1).1))) ((at' (at' p0 a17.1) a28.1).2) kok_123 rfl rfl rfl rfl rfl<|J.done<|J.inN<|J.thenN<|J.region<|J.quiet (Y.addW rfl rfl) rfl<|J.quiet (Y.move rfl) rfl<|J.done<|J.thenN ?_
          exact J.againI ((wI .i64 (a28.1+(1:Int))),(mset (a17.1,((at' (at' p0 a17.1) a28.1).1)) ((at' (at' p0 a17.1) a28.1).2) a28.2)) (()) h SF (SubM.cons 2 rfl (SubM.nil)) (LentAll.refl _ _)
    ·have h:=ifN hp31 h
     refine J.exit<|J.thenX<|J.thenX<|J.inX<|J.inN<|J.thenN ?_
     exact J.meetI (a28.2) (()) h SF (SubM.refl _) (LentAll.refl _ _)
   ·clear h
    intro a22 b23 h
    unfold graph_symmetric_k2 at h
    refine J.region<|J.quiet (Y.addW rfl rfl) rfl<|J.quiet (Y.move rfl) rfl<|J.done<|J.thenN ?_
    exact J.againI ((wI .i64 (a17.1+(1:Int))),a22) (()) h SF (SubM.refl _) (LentAll.refl _ _)
  ·have h:=ifN hp20 h
   refine J.exit<|J.thenX<|J.thenX<|J.inX<|J.thenN ?_
   exact J.meetI (a17.2) (()) h SF (SubM.refl _) (LentAll.refl _ _)
 ·clear h
  intro a3 b4 h
  unfold graph_symmetric_k1 at h
  refine J.seq<|J.seq<|J.region<|J.quiet (Y.move rfl) rfl<|J.loud (Loud.range 0 rfl rfl rfl) rfl fun b5=>J.done<|J.thenN<|J.block<|J.weakE [(3,Value.map (some b1)),(69,Value.pointer (some ⟨b5,0,none⟩))] [It b5 b1 (List.length a3) ([]),Mp vI64I64p vI64 b1 a3] [S2 RI64I64p v0 z1 p0] SF (SubM.refl _) (LentAll.refl _ _) ?_
  refine J.loopMap (graph_symmetric_s1 a3) 1 0 (by intro a b x;unfold graph_symmetric_s1;repeat' split;all_goals first|rfl|contradiction|simp_all) h rfl rfl rfl rfl rfl rfl ?_ ?_
  ·clear h
   intro kv6 i7 se8 xa9 hkv10 h
   unfold graph_symmetric_s1 at h
   refine J.block<|J.seq<|J.region<|J.loud (Loud.entry 1 0 hkv10 rfl rfl rfl) rfl fun x11=>J.quiet (Y.extract rfl rfl) rfl<|J.quiet (Y.extract rfl rfl) rfl<|J.loud (Loud.alloc (cs:=[Value.int .i64 (0:Int),Value.int .i64 (0:Int)]) rfl rfl) rfl fun b12=>J.storeAll 0 (vs:=[Value.int .i64 (kv6.1.1),Value.int .i64 (kv6.1.2)]) rfl rfl rfl rfl rfl rfl<|J.quiet (Y.assign rfl) rfl<|J.done<|J.thenN<|J.seq<|J.region<|J.quiet (Y.move rfl) rfl ?_
   refine J.quiet (Y.indexArr (i:=1) rfl rfl rfl rfl rfl (by decide)) rfl ?_
   refine J.quiet (Y.loadB 0 rfl rfl rfl rfl rfl) rfl ?_
   refine J.quiet (Y.indexArr (i:=0) rfl rfl rfl rfl rfl (by decide)) rfl ?_
   refine J.quiet (Y.loadB 0 rfl rfl rfl rfl rfl) rfl ?_
   refine J.quiet (Y.bld2 (r:=Value.agg #[Value.int .i64 (kv6.1.2),Value.int .i64 (kv6.1.1)]) rfl rfl (by intro w;simp[Instr.build,Instr.fill,cells_intV,cells_boolV,cells_sliceV,cells_ptrV,cells_strV,cells_funcV,cells_agg])) rfl ?_
   refine J.quiet (Y.lookup 2 ((kv6.1.2,kv6.1.1)) (u:=Value.int .i64 (Option.getD (mget (kv6.1.2,kv6.1.1) a3) (0:Int))) kok_123 rfl rfl rfl rfl rfl (by cases mget ((kv6.1.2,kv6.1.1)) a3<;>rfl)) rfl ?_
   refine J.quiet (Y.move rfl) rfl<|J.quiet (Y.neq rfl rfl) rfl<|J.done<|J.thenN ?_
   refine J.condD (by exact rfl) (fun hp13=> ?_) (fun hp13=> ?_)
   ·have h:=ifP hp13 h
    refine J.seq<|J.region<|J.quiet (Y.assign rfl) rfl<|J.done<|J.thenN<|J.ret<|J.inR<|J.thenR<|J.inR<|J.thenR ?_
    obtain rfl:=Option.some.inj h
    exact J.retG1 (()) rfl rfl (RV.tmp rfl) (SubM.nil) LentAll.nil
   ·have h:=ifN hp13 h
    refine J.skip<|J.inN<|J.thenN ?_
    exact J.mapAgain h SF (SubM.cons 1 rfl (SubM.cons 1 rfl (SubM.nil))) (LentAll.refl _ _)
  ·clear h
   intro se8 h
   refine J.inX<|J.thenN<|J.seq<|J.region<|J.quiet (Y.assign rfl) rfl<|J.done<|J.thenN<|J.ret ?_
   obtain rfl:=Option.some.inj h
   exact J.retG1 (()) rfl rfl (RV.tmp rfl) (SubM.nil) LentAll.nil
end Go.Proofs.YtfbkplemadmbfaaGreatDoor
end
section
namespace Go.Proofs.YtfbkplemadmbfaaGreatDoor
open Go.Sx
def graph_Valid_k2  (a7:Bool):Option (Bool):=
 some (a7)
def graph_Valid_k1 (fuel:Nat) (p0:List (Int)×(List (List (Int×Int)))) (a3:Bool):Option (Bool):=
 if a3=true then(some (false))else(Option.bind (m_graph_DifferentIDs fuel p0.1) fun r9=>(if r9=true then(Option.bind (m_graph_symmetric fuel p0.2) fun r13=>(graph_Valid_k2  (r13)))else(graph_Valid_k2  (false))))
def m_graph_Valid (fuel:Nat) (p0:List (Int)×(List (List (Int×Int)))):Option (Bool):=
 if(List.length p0.1:Int)<(1:Int)then(graph_Valid_k1 fuel p0 (true))else(if(24:Int)<(List.length p0.1:Int)then(graph_Valid_k1 fuel p0 (true))else(graph_Valid_k1 fuel p0 (decide ((List.length p0.2:Int)≠(List.length p0.1:Int)))))
theorem body32:HasBody Tryz.prog 32:=Tryz.call32
theorem t_graph_Valid (fuel:Nat) {p0:List (Int)×(List (List (Int×Int)))} (v0:Value)  (v1:Value)  (z2:List (Value×List (Int×Int))) (r:Bool) (h:m_graph_Valid fuel p0=some r):
  Meets Tryz.prog 32 #[Value.agg #[v0,v1]] [Sl RI64 v0 p0.1,S2 RI64I64p v1 z2 p0.2] (fun x:Unit=>Value.bool (r)) (fun x l=>l) (fun _ l=>l):=by
 refine Meets.of (vs:=[Value.agg #[v0,v1]]) Tryz.func32 rfl Tryz.ntmps32 rfl fun c=> ?_
 unfold m_graph_Valid at h
 refine J.seq<|J.region<|J.loud (Loud.box (cs:=[v0,v1]) rfl rfl) rfl fun b1=>J.quiet (Y.assign rfl) rfl<|J.done<|J.thenN<|J.seq<|J.region<|J.quiet (Y.fieldB rfl rfl rfl rfl rfl) rfl<|J.quiet (Y.loadB 0 rfl rfl rfl rfl rfl) rfl<|J.quiet (Y.lenS rfl (Lent.fact 0 rfl) rfl) rfl<|J.quiet (Y.assign rfl) rfl<|J.done<|J.thenN<|J.seq<|J.seq<|J.midI (A:=Bool) (B:=Unit) (fun a3=>graph_Valid_k1 fuel p0 a3=some r) (fun a3 b4=>[(1,Value.pointer (some ⟨b1,0,none⟩)),(19,Value.bool (a3))]) (fun a3 b4=>[Blk b1 [v0,v1] 25]) (fun a3 b4=>[Sl RI64 v0 p0.1,S2 RI64I64p v1 z2 p0.2]) ?_ ?_
 ·refine J.region<|J.quiet (Y.move rfl) rfl<|J.quiet (Y.lss rfl rfl) rfl<|J.quiet (Y.move rfl) rfl ?_
  refine J.guardD (by exact rfl) (by exact rfl) (fun hp16=> ?_) (fun hp16=> ?_)
  ·have h:=ifP hp16 h
   refine J.guardN rfl rfl rfl<|J.guardN rfl rfl rfl<|J.quiet (Y.pickT rfl rfl) rfl<|J.quiet (Y.move rfl) rfl<|J.guardN rfl rfl rfl<|J.guardN rfl rfl rfl<|J.guardN rfl rfl rfl<|J.guardN rfl rfl rfl<|J.guardN rfl rfl rfl<|J.quiet (Y.pickT rfl rfl) rfl<|J.done<|J.thenN ?_
   exact J.meetI (true) (()) h SF (SubM.refl _) (LentAll.refl _ _)
  ·have h:=ifN hp16 h
   refine J.guardY rfl (Y.move rfl) rfl<|J.guardY rfl (Y.gtr rfl rfl) rfl<|J.quiet (Y.pickF rfl rfl) rfl<|J.quiet (Y.move rfl) rfl ?_
   refine J.guardD (by exact rfl) (by exact rfl) (fun hp17=> ?_) (fun hp17=> ?_)
   ·have h:=ifP hp17 h
    refine J.guardN rfl rfl rfl<|J.guardN rfl rfl rfl<|J.guardN rfl rfl rfl<|J.guardN rfl rfl rfl<|J.guardN rfl rfl rfl<|J.quiet (Y.pickT rfl rfl) rfl<|J.done<|J.thenN ?_
    exact J.meetI (true) (()) h SF (SubM.refl _) (LentAll.refl _ _)
   ·have h:=ifN hp17 h
    refine J.guardY rfl (Y.fieldB rfl rfl rfl rfl rfl) rfl<|J.guardY rfl (Y.loadB 0 rfl rfl rfl rfl rfl) rfl<|J.guardY rfl (Y.lenN rfl (Lent.fact 1 rfl) rfl) rfl<|J.guardY rfl (Y.move rfl) rfl<|J.guardY rfl (Y.neq rfl rfl) rfl<|J.quiet (Y.pickF rfl rfl) rfl<|J.done<|J.thenN ?_
    exact J.meetI (decide ((List.length p0.2:Int)≠(List.length p0.1:Int))) (()) h SF (SubM.refl _) (LentAll.refl _ _)
 ·clear h
  intro a3 b4 h
  unfold graph_Valid_k1 at h
  refine J.cond (by exact rfl) (fun hp5=> ?_) (fun hp5=> ?_)
  ·have h:=ifP hp5 h
   refine J.seq<|J.region<|J.quiet (Y.assign rfl) rfl<|J.done<|J.thenN<|J.ret<|J.thenR ?_
   obtain rfl:=Option.some.inj h
   exact J.retG1 (()) rfl rfl (RV.tmp rfl) (SubM.nil) LentAll.nil
  ·have h:=ifBN hp5 h
   refine J.skip<|J.thenN<|J.seq<|J.midI (A:=Bool) (B:=Unit) (fun a7=>graph_Valid_k2  a7=some r) (fun a7 b8=>[(2,Value.bool (a7))]) (fun a7 b8=>[]) (fun a7 b8=>[Sl RI64 v0 p0.1,S2 RI64I64p v1 z2 p0.2]) ?_ ?_
   ·refine J.region<|J.quiet (Y.fieldB rfl rfl rfl rfl rfl) rfl<|J.quiet (Y.loadB 0 rfl rfl rfl rfl rfl) rfl ?_
    have h:=bnd h;obtain⟨r9,hr10,h⟩:=h
    refine J.loud (Loud.callL body68 (t_graph_DifferentIDs fuel v0 r9 hr10) rfl (LentAll.cons (Lent.fact 0 rfl) .nil) (fun _ _=>rfl)) rfl fun x11=>J.quiet (Y.move rfl) rfl ?_
    refine J.guard (by exact rfl) (by exact rfl) (fun hp12=> ?_) (fun hp12=> ?_)
    ·have h:=ifP hp12 h
     refine J.guardY rfl (Y.fieldB rfl rfl rfl rfl rfl) rfl<|J.guardY rfl (Y.loadB 0 rfl rfl rfl rfl rfl) rfl ?_
     have h:=bnd h;obtain⟨r13,hr14,h⟩:=h
     refine J.loudG rfl (Loud.callL body69 (t_graph_symmetric fuel v1 z2 r13 hr14) rfl (LentAll.cons (Lent.fact 1 rfl) .nil) (fun _ _=>rfl)) rfl fun x15=>J.quiet (Y.pickT rfl rfl) rfl<|J.quiet (Y.assign rfl) rfl<|J.done<|J.thenN ?_
     exact J.meetI (r13) (()) h SF (SubM.nil) (LentAll.refl _ _)
    ·have h:=ifBN hp12 h
     refine J.guardN rfl rfl rfl<|J.guardN rfl rfl rfl<|J.guardN rfl rfl rfl<|J.quiet (Y.pickF rfl rfl) rfl<|J.quiet (Y.assign rfl) rfl<|J.done<|J.thenN ?_
     exact J.meetI (false) (()) h SF (SubM.nil) (LentAll.refl _ _)
   ·clear h
    intro a7 b8 h
    unfold graph_Valid_k2 at h
    refine J.ret ?_
    obtain rfl:=Option.some.inj h
    exact J.retG1 (()) rfl rfl (RV.tmp rfl) (SubM.refl _) LentAll.nil
end Go.Proofs.YtfbkplemadmbfaaGreatDoor
end
section
namespace Go.Proofs.YtfbkplemadmbfaaGreatDoor
open Go.Sx
def ref01_In_k1  (a2:Bool):Option (Bool):=
 some (a2)
def m_ref01_In (fuel:Nat) (p0:Int) (p1:Int) (p2:Int):Option (Bool):=
 if p1<=p0 then(ref01_In_k1  (decide (p0<=p2)))else(ref01_In_k1  (false))
theorem body71:HasBody Tryz.prog 71:=Tryz.call71
theorem t_ref01_In (fuel:Nat) {p0:Int} {p1:Int} {p2:Int} (r:Bool) (h:m_ref01_In fuel p0 p1 p2=some r):
  Meets Tryz.prog 71 #[Value.int .i64 (p0),Value.int .i64 (p1),Value.int .i64 (p2)] [] (fun x:Unit=>Value.bool (r)) (fun x l=>l) (fun _ l=>l):=by
 refine Meets.of (vs:=[Value.int .i64 (p0),Value.int .i64 (p1),Value.int .i64 (p2)]) Tryz.func71 rfl Tryz.ntmps71 rfl fun c=> ?_
 unfold m_ref01_In at h
 refine J.seq<|J.region<|J.quiet (Y.assign rfl) rfl<|J.done<|J.thenN<|J.seq<|J.midI (A:=Bool) (B:=Unit) (fun a2=>ref01_In_k1  a2=some r) (fun a2 b3=>[(6,Value.bool (a2))]) (fun a2 b3=>[]) (fun a2 b3=>[]) ?_ ?_
 ·refine J.region<|J.quiet (Y.move rfl) rfl<|J.quiet (Y.move rfl) rfl<|J.quiet (Y.geq rfl rfl) rfl<|J.quiet (Y.move rfl) rfl ?_
  refine J.guardD (by exact rfl) (by exact rfl) (fun hp4=> ?_) (fun hp4=> ?_)
  ·have h:=ifP hp4 h
   refine J.guardY rfl (Y.move rfl) rfl<|J.guardY rfl (Y.move rfl) rfl<|J.guardY rfl (Y.leq rfl rfl) rfl<|J.quiet (Y.pickT rfl rfl) rfl<|J.quiet (Y.assign rfl) rfl<|J.done<|J.thenN ?_
   exact J.meetI (decide (p0<=p2)) (()) h SF (SubM.refl _) (LentAll.refl _ _)
  ·have h:=ifN hp4 h
   refine J.guardN rfl rfl rfl<|J.guardN rfl rfl rfl<|J.guardN rfl rfl rfl<|J.quiet (Y.pickF rfl rfl) rfl<|J.quiet (Y.assign rfl) rfl<|J.done<|J.thenN ?_
   exact J.meetI (false) (()) h SF (SubM.refl _) (LentAll.refl _ _)
 ·clear h
  intro a2 b3 h
  unfold ref01_In_k1 at h
  refine J.ret ?_
  obtain rfl:=Option.some.inj h
  exact J.retG1 (()) rfl rfl (RV.tmp rfl) (SubM.refl _) LentAll.nil
end Go.Proofs.YtfbkplemadmbfaaGreatDoor
end
section
namespace Go.Proofs.YtfbkplemadmbfaaGreatDoor
open Go.Sx
def ref01_linksValid_k1  (a1:Unit):Option (Bool):=
 some (true)
def ref01_linksValid_k2 (a5:Int) (ag4:(Int)->Option (Bool)) (a9:Unit):Option (Bool):=
 ag4 (wI .i64 (a5+(1:Int)))
def ref01_linksValid_s2 (p0:List (Int×Int)) (a5:Int) (ag4:(Int)->Option (Bool)) (a17:Int) (ag16:(Int)->Option (Bool)):Option (Bool):=
 if a17<a5 then(ck (0<=a17∧a17<(List.length p0:Int)) (ck (0<=a5∧a5<(List.length p0:Int)) (if((at' p0 a17).1)=((at' p0 a5).1)then(some (false))else(ag16 (wI .i64 (a17+(1:Int)))))))else(ref01_linksValid_k2 a5 ag4 (()))
def ref01_linksValid_k3 (fuel:Nat) (p0:List (Int×Int)) (a5:Int) (ag4:(Int)->Option (Bool)) (a12:Bool):Option (Bool):=
 if a12=true then(some (false))else(iter (ref01_linksValid_s2 p0 a5 ag4) fuel (0:Int))
def ref01_linksValid_s1 (fuel:Nat) (p0:List (Int×Int)) (p1:Int) (p2:Int) (a5:Int) (ag4:(Int)->Option (Bool)):Option (Bool):=
 if a5<(List.length p0:Int)then(ck (0<=a5∧a5<(List.length p0:Int)) (Option.bind (m_ref01_In fuel ((at' p0 a5).1) (0:Int) (wI .i64 (p2 - (1:Int)))) fun r25=>(if(!r25)=true then(ref01_linksValid_k3 fuel p0 a5 ag4 (true))else(ck (0<=a5∧a5<(List.length p0:Int)) (if((at' p0 a5).1)=p1 then(ref01_linksValid_k3 fuel p0 a5 ag4 (true))else(ck (0<=a5∧a5<(List.length p0:Int)) (Option.bind (m_ref01_In fuel ((at' p0 a5).2) (1:Int) (15:Int)) fun r32=>(ref01_linksValid_k3 fuel p0 a5 ag4 ((!r32))))))))))else(ref01_linksValid_k1  (()))
def m_ref01_linksValid (fuel:Nat) (p0:List (Int×Int)) (p1:Int) (p2:Int):Option (Bool):=
 iter (ref01_linksValid_s1 fuel p0 p1 p2) fuel (0:Int)
theorem body72:HasBody Tryz.prog 72:=Tryz.call72
theorem t_ref01_linksValid (fuel:Nat) {p0:List (Int×Int)} {p1:Int} {p2:Int} (v0:Value) (r:Bool) (h:m_ref01_linksValid fuel p0 p1 p2=some r):
  Meets Tryz.prog 72 #[v0,Value.int .i64 (p1),Value.int .i64 (p2)] [Sl RI64I64p v0 p0] (fun x:Unit=>Value.bool (r)) (fun x l=>l) (fun _ l=>l):=by
 refine Meets.of (vs:=[v0,Value.int .i64 (p1),Value.int .i64 (p2)]) Tryz.func72 rfl Tryz.ntmps72 rfl fun c=> ?_
 unfold m_ref01_linksValid at h
 refine J.seq<|J.region<|J.quiet (Y.assign rfl) rfl<|J.done<|J.thenN<|J.seq<|J.midI (A:=Unit) (B:=Unit) (fun a1=>ref01_linksValid_k1  a1=some r) (fun a1 b2=>[]) (fun a1 b2=>[]) (fun a1 b2=>[Sl RI64I64p v0 p0]) ?_ ?_
 ·refine J.seq<|J.region<|J.quiet (Y.assign rfl) rfl<|J.done<|J.thenN<|J.block<|J.loopI (A:=Int) (B:=Unit) (ref01_linksValid_s1 fuel p0 p1 p2) (fun a5 b6=>[(0,v0),(1,Value.int .i64 (p1)),(2,Value.int .i64 (p2)),(7,Value.int .i64 (a5))]) (fun a5 b6=>[]) (fun a5 b6=>[Sl RI64I64p v0 p0]) (0:Int) (()) h SF (SubM.refl _) (LentAll.refl _ _) ?_
  clear h
  intro k7 a5 b6 h
  unfold ref01_linksValid_s1 at h
  refine J.seq<|J.seq<|J.region<|J.quiet (Y.move rfl) rfl<|J.quiet (Y.move rfl) rfl<|J.quiet (Y.lenS rfl (Lent.fact 0 rfl) rfl) rfl<|J.quiet (Y.lss rfl rfl) rfl<|J.done<|J.thenN ?_
  refine J.condD (by exact rfl) (fun hp8=> ?_) (fun hp8=> ?_)
  ·have h:=ifP hp8 h
   refine J.skip<|J.thenN<|J.seq<|J.midI (A:=Unit) (B:=Unit) (fun a9=>ref01_linksValid_k2 a5 (iter (ref01_linksValid_s1 fuel p0 p1 p2) k7) a9=some r) (fun a9 b10=>[(0,v0),(1,Value.int .i64 (p1)),(2,Value.int .i64 (p2)),(7,Value.int .i64 (a5))]) (fun a9 b10=>[]) (fun a9 b10=>[Sl RI64I64p v0 p0]) ?_ ?_
   ·refine J.block<|J.seq<|J.seq<|J.midI (A:=Bool) (B:=Unit) (fun a12=>ref01_linksValid_k3 fuel p0 a5 (iter (ref01_linksValid_s1 fuel p0 p1 p2) k7) a12=some r) (fun a12 b13=>[(0,v0),(1,Value.int .i64 (p1)),(2,Value.int .i64 (p2)),(7,Value.int .i64 (a5)),(41,Value.bool (a12))]) (fun a12 b13=>[]) (fun a12 b13=>[Sl RI64I64p v0 p0]) ?_ ?_
    ·refine J.region<|J.quiet (Y.move rfl) rfl<|J.quiet (Y.move rfl) rfl ?_
     have h:=ck_some h;obtain⟨hc24,h⟩:=h
     refine J.quiet (Y.indexS rfl rfl (Lent.fact 0 rfl) rfl rfl hc24) rfl<|J.quiet (Y.fieldEl rfl rfl rfl rfl rfl) rfl<|J.quiet (Y.loadS rfl (Lent.fact 0 rfl) rfl rfl rfl RI64I64pc0 hc24) rfl<|J.quiet (Y.move rfl) rfl<|J.quiet (Y.subW rfl rfl) rfl ?_
     have h:=bnd h;obtain⟨r25,hr26,h⟩:=h
     refine J.loud (Loud.callL body71 (t_ref01_In fuel  r25 hr26) rfl .nil (fun _ _=>rfl)) rfl fun x27=>J.quiet (Y.not rfl) rfl<|J.quiet (Y.move rfl) rfl ?_
     refine J.guard (by exact rfl) (by exact rfl) (fun hp28=> ?_) (fun hp28=> ?_)
     ·have h:=ifP hp28 h
      refine J.guardN rfl rfl rfl<|J.guardN rfl rfl rfl<|J.guardN rfl rfl rfl<|J.guardN rfl rfl rfl<|J.guardN rfl rfl rfl<|J.guardN rfl rfl rfl<|J.guardN rfl rfl rfl<|J.quiet (Y.pickT rfl rfl) rfl<|J.quiet (Y.move rfl) rfl<|J.guardN rfl rfl rfl<|J.guardN rfl rfl rfl<|J.guardN rfl rfl rfl<|J.guardN rfl rfl rfl<|J.guardN rfl rfl rfl<|J.guardN rfl rfl rfl<|J.guardN rfl rfl rfl<|J.quiet (Y.pickT rfl rfl) rfl<|J.done<|J.thenN ?_
      exact J.meetI (true) (()) h SF (SubM.refl _) (LentAll.refl _ _)
     ·have h:=ifBN hp28 h
      refine J.guardY rfl (Y.move rfl) rfl<|J.guardY rfl (Y.move rfl) rfl ?_
      have h:=ck_some h;obtain⟨hc29,h⟩:=h
      refine J.guardY rfl (Y.indexS rfl rfl (Lent.fact 0 rfl) rfl rfl hc29) rfl<|J.guardY rfl (Y.fieldEl rfl rfl rfl rfl rfl) rfl<|J.guardY rfl (Y.loadS rfl (Lent.fact 0 rfl) rfl rfl rfl RI64I64pc0 hc29) rfl<|J.guardY rfl (Y.move rfl) rfl<|J.guardY rfl (Y.eql rfl rfl) rfl<|J.quiet (Y.pickF rfl rfl) rfl<|J.quiet (Y.move rfl) rfl ?_
      refine J.guardD (by exact rfl) (by exact rfl) (fun hp30=> ?_) (fun hp30=> ?_)
      ·have h:=ifP hp30 h
       refine J.guardN rfl rfl rfl<|J.guardN rfl rfl rfl<|J.guardN rfl rfl rfl<|J.guardN rfl rfl rfl<|J.guardN rfl rfl rfl<|J.guardN rfl rfl rfl<|J.guardN rfl rfl rfl<|J.quiet (Y.pickT rfl rfl) rfl<|J.done<|J.thenN ?_
       exact J.meetI (true) (()) h SF (SubM.refl _) (LentAll.refl _ _)
      ·have h:=ifN hp30 h
       refine J.guardY rfl (Y.move rfl) rfl<|J.guardY rfl (Y.move rfl) rfl ?_
       have h:=ck_some h;obtain⟨hc31,h⟩:=h
       refine J.guardY rfl (Y.indexS rfl rfl (Lent.fact 0 rfl) rfl rfl hc31) rfl<|J.guardY rfl (Y.fieldEl rfl rfl rfl rfl rfl) rfl<|J.guardY rfl (Y.loadS rfl (Lent.fact 0 rfl) rfl rfl rfl RI64I64pc1 hc31) rfl ?_
       have h:=bnd h;obtain⟨r32,hr33,h⟩:=h
       refine J.loudG rfl (Loud.callL body71 (t_ref01_In fuel  r32 hr33) rfl .nil (fun _ _=>rfl)) rfl fun x34=>J.guardY rfl (Y.not rfl) rfl<|J.quiet (Y.pickF rfl rfl) rfl<|J.done<|J.thenN ?_
       exact J.meetI ((!r32)) (()) h SF (SubM.refl _) (LentAll.refl _ _)
    ·clear h
     intro a12 b13 h
     unfold ref01_linksValid_k3 at h
     refine J.cond (by exact rfl) (fun hp14=> ?_) (fun hp14=> ?_)
     ·have h:=ifP hp14 h
      refine J.seq<|J.region<|J.quiet (Y.assign rfl) rfl<|J.done<|J.thenN<|J.ret<|J.thenR<|J.inR<|J.thenR<|J.thenR<|J.inR<|J.thenR ?_
      obtain rfl:=Option.some.inj h
      exact J.retG1 (()) rfl rfl (RV.tmp rfl) (SubM.refl _) LentAll.nil
     ·have h:=ifBN hp14 h
      refine J.skip<|J.thenN<|J.seq<|J.region<|J.quiet (Y.assign rfl) rfl<|J.done<|J.thenN<|J.block<|J.loopI (A:=Int) (B:=Unit) (ref01_linksValid_s2 p0 a5 (iter (ref01_linksValid_s1 fuel p0 p1 p2) k7)) (fun a17 b18=>[(0,v0),(1,Value.int .i64 (p1)),(2,Value.int .i64 (p2)),(7,Value.int .i64 (a5)),(8,Value.int .i64 (a17))]) (fun a17 b18=>[]) (fun a17 b18=>[Sl RI64I64p v0 p0]) (0:Int) (()) h SF (SubM.refl _) (LentAll.refl _ _) ?_
      clear h
      intro k19 a17 b18 h
      unfold ref01_linksValid_s2 at h
      refine J.seq<|J.seq<|J.region<|J.quiet (Y.move rfl) rfl<|J.quiet (Y.move rfl) rfl<|J.quiet (Y.lss rfl rfl) rfl<|J.done<|J.thenN ?_
      refine J.condD (by exact rfl) (fun hp20=> ?_) (fun hp20=> ?_)
      ·have h:=ifP hp20 h
       refine J.skip<|J.thenN<|J.seq<|J.block<|J.seq ?_
       refine JR.start [0,0,3,7,15,0,0,96,224,480,1023] 10 mixedOrders (by decide +kernel) ?_
       refine JR.open (by exact rfl) ?_
       refine JR.qt rfl (SubM.refl _) (SubL.nil) (Y.move rfl) HistOk.z<|JR.qt rfl (SubM.refl _) (SubL.nil) (Y.move rfl) HistOk.z ?_
       have h:=ck_some h;obtain⟨hc21,h⟩:=h
       refine JR.qt rfl (SubM.refl _) (SubL.cons (List.mem_of_getElem? (i:=0) rfl) (SubL.nil)) (Y.indexS rfl rfl (Lent.fact 0 rfl) rfl rfl hc21) HistOk.z<|JR.qt rfl (SubM.refl _) (SubL.nil) (Y.fieldEl rfl rfl rfl rfl rfl) HistOk.z<|JR.qt rfl (SubM.refl _) (SubL.cons (List.mem_of_getElem? (i:=0) rfl) (SubL.nil)) (Y.loadS rfl (Lent.fact 0 rfl) rfl rfl rfl RI64I64pc0 hc21) HistOk.z<|JR.qt rfl (SubM.refl _) (SubL.nil) (Y.move rfl) HistOk.z<|JR.qt rfl (SubM.refl _) (SubL.nil) (Y.move rfl) HistOk.z ?_
       have h:=ck_some h;obtain⟨hc22,h⟩:=h
       refine JR.qt rfl (SubM.refl _) (SubL.cons (List.mem_of_getElem? (i:=0) rfl) (SubL.nil)) (Y.indexS rfl rfl (Lent.fact 0 rfl) rfl rfl hc22) HistOk.z<|JR.qt rfl (SubM.refl _) (SubL.nil) (Y.fieldEl rfl rfl rfl rfl rfl) HistOk.z<|JR.qt rfl (SubM.refl _) (SubL.cons (List.mem_of_getElem? (i:=0) rfl) (SubL.nil)) (Y.loadS rfl (Lent.fact 0 rfl) rfl rfl rfl RI64I64pc0 hc22) HistOk.z<|JR.tailD 10 rfl rfl<|J.quiet (Y.eql rfl rfl) rfl<|J.done<|J.thenN ?_
       refine J.condD (by exact rfl) (fun hp23=> ?_) (fun hp23=> ?_)
       ·have h:=ifP hp23 h
        refine J.seq<|J.region<|J.quiet (Y.assign rfl) rfl<|J.done<|J.thenN<|J.ret<|J.inR<|J.thenR<|J.thenR<|J.inR<|J.inR<|J.thenR<|J.thenR<|J.inR<|J.thenR ?_
        obtain rfl:=Option.some.inj h
        exact J.retG1 (()) rfl rfl (RV.tmp rfl) (SubM.refl _) LentAll.nil
       ·have h:=ifN hp23 h
        refine J.skip<|J.inN<|J.thenN<|J.region<|J.quiet (Y.move rfl) rfl<|J.quiet (Y.addW rfl rfl) rfl<|J.quiet (Y.assign rfl) rfl<|J.done<|J.thenN ?_
        exact J.againI (wI .i64 (a17+(1:Int))) (()) h SF (SubM.refl _) (LentAll.refl _ _)
      ·have h:=ifN hp20 h
       refine J.exit<|J.thenX<|J.thenX<|J.inX<|J.inN<|J.thenN ?_
       exact J.meetI (()) (()) h SF (SubM.refl _) (LentAll.refl _ _)
   ·clear h
    intro a9 b10 h
    unfold ref01_linksValid_k2 at h
    refine J.region<|J.quiet (Y.move rfl) rfl<|J.quiet (Y.addW rfl rfl) rfl<|J.quiet (Y.assign rfl) rfl<|J.done<|J.thenN ?_
    exact J.againI (wI .i64 (a5+(1:Int))) (()) h SF (SubM.refl _) (LentAll.refl _ _)
  ·have h:=ifN hp8 h
   refine J.exit<|J.thenX<|J.thenX<|J.inX<|J.thenN ?_
   exact J.meetI (()) (()) h SF (SubM.refl _) (LentAll.refl _ _)
 ·clear h
  intro a1 b2 h
  unfold ref01_linksValid_k1 at h
  refine J.seq<|J.region<|J.quiet (Y.assign rfl) rfl<|J.done<|J.thenN<|J.ret ?_
  obtain rfl:=Option.some.inj h
  exact J.retG1 (()) rfl rfl (RV.tmp rfl) (SubM.refl _) LentAll.nil
end Go.Proofs.YtfbkplemadmbfaaGreatDoor
end
section
namespace Go.Proofs.YtfbkplemadmbfaaGreatDoor
open Go.Sx
def ref01_Port_k1  (a2:Unit):Option (Int):=
 some (-1:Int)
def ref01_Port_s1 (p0:List (Int)×(List (List (Int×Int)))) (p1:Int) (p2:Int) (a6:Int) (ag5:(Int)->Option (Int)):Option (Int):=
 ck (0<=p1∧p1<(List.length p0.2:Int)) (if a6<(List.length (at' p0.2 p1):Int)then(ck (0<=p1∧p1<(List.length p0.2:Int)) (ck (0<=a6∧a6<(List.length (at' p0.2 p1):Int)) (if((at' (at' p0.2 p1) a6).1)=p2 then(some (a6))else(ag5 (wI .i64 (a6+(1:Int)))))))else(ref01_Port_k1  (())))
def m_ref01_Port (fuel:Nat) (p0:List (Int)×(List (List (Int×Int)))) (p1:Int) (p2:Int):Option (Int):=
 iter (ref01_Port_s1 p0 p1 p2) fuel (0:Int)
theorem body73:HasBody Tryz.prog 73:=Tryz.call73
theorem t_ref01_Port (fuel:Nat) {p0:List (Int)×(List (List (Int×Int)))} {p1:Int} {p2:Int} (v0:Value)  (v1:Value)  (z2:List (Value×List (Int×Int))) (r:Int) (h:m_ref01_Port fuel p0 p1 p2=some r):
  Meets Tryz.prog 73 #[Value.agg #[v0,v1],Value.int .i64 (p1),Value.int .i64 (p2)] [Sl RI64 v0 p0.1,S2 RI64I64p v1 z2 p0.2] (fun x:Unit=>Value.int .i64 (r)) (fun x l=>l) (fun _ l=>l):=by
 refine Meets.of (vs:=[Value.agg #[v0,v1],Value.int .i64 (p1),Value.int .i64 (p2)]) Tryz.func73 rfl Tryz.ntmps73 rfl fun c=> ?_
 unfold m_ref01_Port at h
 refine J.seq<|J.region<|J.loud (Loud.box (cs:=[v0,v1]) rfl rfl) rfl fun b1=>J.quiet (Y.assign rfl) rfl<|J.done<|J.thenN<|J.seq<|J.midI (A:=Unit) (B:=Unit) (fun a2=>ref01_Port_k1  a2=some r) (fun a2 b3=>[]) (fun a2 b3=>[]) (fun a2 b3=>[Sl RI64 v0 p0.1,S2 RI64I64p v1 z2 p0.2]) ?_ ?_
 ·refine J.seq<|J.region<|J.quiet (Y.assign rfl) rfl<|J.done<|J.thenN<|J.block<|J.loopI (A:=Int) (B:=Unit) (ref01_Port_s1 p0 p1 p2) (fun a6 b7=>[(1,Value.int .i64 (p1)),(2,Value.int .i64 (p2)),(3,Value.pointer (some ⟨b1,0,none⟩)),(7,Value.int .i64 (a6))]) (fun a6 b7=>[Blk b1 [v0,v1] 25]) (fun a6 b7=>[Sl RI64 v0 p0.1,S2 RI64I64p v1 z2 p0.2]) (0:Int) (()) h SF (SubM.refl _) (LentAll.refl _ _) ?_
  clear h
  intro k8 a6 b7 h
  unfold ref01_Port_s1 at h
  refine J.seq<|J.seq<|J.region<|J.quiet (Y.move rfl) rfl<|J.quiet (Y.fieldB rfl rfl rfl rfl rfl) rfl<|J.quiet (Y.loadB 0 rfl rfl rfl rfl rfl) rfl<|J.quiet (Y.move rfl) rfl ?_
  have h:=ck_some h;obtain⟨hc9,h⟩:=h
  refine J.quiet (Y.indexN rfl rfl (Lent.fact 1 rfl) rfl rfl hc9) rfl<|J.quiet (Y.loadRow rfl (Lent.fact 1 rfl) rfl rfl hc9) rfl<|J.quiet (Y.lenS rfl (Lent.el (Lent.fact 1 rfl) hc9.1 hc9.2) rfl) rfl<|J.quiet (Y.lss rfl rfl) rfl<|J.done<|J.thenN ?_
  refine J.condD (by exact rfl) (fun hp10=> ?_) (fun hp10=> ?_)
  ·have h:=ifP hp10 h
   refine J.skip<|J.thenN<|J.seq<|J.block<|J.seq<|J.region<|J.quiet (Y.fieldB rfl rfl rfl rfl rfl) rfl<|J.quiet (Y.loadB 0 rfl rfl rfl rfl rfl) rfl<|J.quiet (Y.move rfl) rfl ?_
   have h:=ck_some h;obtain⟨hc11,h⟩:=h
   refine J.quiet (Y.indexN rfl rfl (Lent.fact 1 rfl) rfl rfl hc11) rfl<|J.quiet (Y.loadRow rfl (Lent.fact 1 rfl) rfl rfl hc11) rfl<|J.quiet (Y.move rfl) rfl ?_
   have h:=ck_some h;obtain⟨hc12,h⟩:=h
   refine J.quiet (Y.indexS rfl rfl (Lent.el (Lent.fact 1 rfl) hc11.1 hc11.2) rfl rfl hc12) rfl<|J.quiet (Y.fieldEl rfl rfl rfl rfl rfl) rfl<|J.quiet (Y.loadS rfl (Lent.el (Lent.fact 1 rfl) hc11.1 hc11.2) rfl rfl rfl RI64I64pc0 hc12) rfl<|J.quiet (Y.move rfl) rfl<|J.quiet (Y.eql rfl rfl) rfl<|J.done<|J.thenN ?_
   refine J.condD (by exact rfl) (fun hp13=> ?_) (fun hp13=> ?_)
   ·have h:=ifP hp13 h
    refine J.seq<|J.region<|J.quiet (Y.move rfl) rfl<|J.quiet (Y.assign rfl) rfl<|J.done<|J.thenN<|J.ret<|J.inR<|J.thenR<|J.thenR<|J.inR<|J.thenR ?_
    obtain rfl:=Option.some.inj h
    exact J.retG1 (()) rfl rfl (RV.tmp rfl) (SubM.nil) LentAll.nil
   ·have h:=ifN hp13 h
    refine J.skip<|J.inN<|J.thenN<|J.region<|J.quiet (Y.move rfl) rfl<|J.quiet (Y.addW rfl rfl) rfl<|J.quiet (Y.assign rfl) rfl<|J.done<|J.thenN ?_
    exact J.againI (wI .i64 (a6+(1:Int))) (()) h SF (SubM.refl _) (LentAll.refl _ _)
  ·have h:=ifN hp10 h
   refine J.exit<|J.thenX<|J.thenX<|J.inX<|J.thenN ?_
   exact J.meetI (()) (()) h SF (SubM.nil) (LentAll.refl _ _)
 ·clear h
  intro a2 b3 h
  unfold ref01_Port_k1 at h
  refine J.seq<|J.region<|J.quiet (Y.assign rfl) rfl<|J.done<|J.thenN<|J.ret ?_
  obtain rfl:=Option.some.inj h
  exact J.retG1 (()) rfl rfl (RV.tmp rfl) (SubM.refl _) LentAll.nil
end Go.Proofs.YtfbkplemadmbfaaGreatDoor
end
section
namespace Go.Proofs.YtfbkplemadmbfaaGreatDoor
open Go.Sx
def ref01_Valid_k3  (a8:Unit):Option (Bool):=
 some (true)
def ref01_Valid_k4 (a12:Int) (ag11:(Int)->Option (Bool)) (a16:Unit):Option (Bool):=
 ag11 (wI .i64 (a12+(1:Int)))
def ref01_Valid_k5 (a20:Int) (ag19:(Int)->Option (Bool)) (a32:Bool):Option (Bool):=
 if a32=true then(some (false))else(ag19 (wI .i64 (a20+(1:Int))))
def ref01_Valid_s2 (fuel:Nat) (p0:List (Int)×(List (List (Int×Int)))) (a12:Int) (ag11:(Int)->Option (Bool)) (a20:Int) (ag19:(Int)->Option (Bool)):Option (Bool):=
 ck (0<=a12∧a12<(List.length p0.2:Int)) (if a20<(List.length (at' p0.2 a12):Int)then(ck (0<=a12∧a12<(List.length p0.2:Int)) (ck (0<=a20∧a20<(List.length (at' p0.2 a12):Int)) (Option.bind (m_ref01_Port fuel ((p0.1,p0.2)) ((at' (at' p0.2 a12) a20).1) a12) fun r28=>(if r28<(0:Int)then(ref01_Valid_k5 a20 ag19 (true))else(ck (0<=((at' (at' p0.2 a12) a20).1)∧((at' (at' p0.2 a12) a20).1)<(List.length p0.2:Int)) (ck (0<=r28∧r28<(List.length (at' p0.2 ((at' (at' p0.2 a12) a20).1)):Int)) (ref01_Valid_k5 a20 ag19 (decide (((at' (at' p0.2 ((at' (at' p0.2 a12) a20).1)) r28).2)≠((at' (at' p0.2 a12) a20).2))))))))))else(ref01_Valid_k4 a12 ag11 (())))
def ref01_Valid_s1 (fuel:Nat) (p0:List (Int)×(List (List (Int×Int)))) (a12:Int) (ag11:(Int)->Option (Bool)):Option (Bool):=
 if a12<(List.length p0.2:Int)then(iter (ref01_Valid_s2 fuel p0 a12 ag11) fuel (0:Int))else(ref01_Valid_k3  (()))
def ref01_Valid_k2 (fuel:Nat) (p0:List (Int)×(List (List (Int×Int)))) (a6:Unit):Option (Bool):=
 iter (ref01_Valid_s1 fuel p0) fuel (0:Int)
def ref01_Valid_k6 (a40:Int) (ag39:(Int)->Option (Bool)) (a44:Unit):Option (Bool):=
 ag39 (wI .i64 (a40+(1:Int)))
def ref01_Valid_s4 (p0:List (Int)×(List (List (Int×Int)))) (a40:Int) (ag39:(Int)->Option (Bool)) (a52:Int) (ag51:(Int)->Option (Bool)):Option (Bool):=
 if a52<a40 then(ck (0<=a52∧a52<(List.length p0.1:Int)) (ck (0<=a40∧a40<(List.length p0.1:Int)) (if(at' p0.1 a52)=(at' p0.1 a40)then(some (false))else(ag51 (wI .i64 (a52+(1:Int)))))))else(ref01_Valid_k6 a40 ag39 (()))
def ref01_Valid_k7 (fuel:Nat) (p0:List (Int)×(List (List (Int×Int)))) (a40:Int) (ag39:(Int)->Option (Bool)) (a47:Bool):Option (Bool):=
 if a47=true then(some (false))else(iter (ref01_Valid_s4 p0 a40 ag39) fuel (0:Int))
def ref01_Valid_s3 (fuel:Nat) (p0:List (Int)×(List (List (Int×Int)))) (a40:Int) (ag39:(Int)->Option (Bool)):Option (Bool):=
 if a40<(List.length p0.2:Int)then(ck (0<=a40∧a40<(List.length p0.1:Int)) (Option.bind (m_ref01_In fuel (at' p0.1 a40) (0:Int) (255:Int)) fun r60=>(if(!r60)=true then(ref01_Valid_k7 fuel p0 a40 ag39 (true))else(ck (0<=a40∧a40<(List.length p0.2:Int)) (if(List.length p0.2:Int)<=(List.length (at' p0.2 a40):Int)then(ref01_Valid_k7 fuel p0 a40 ag39 (true))else(ck (0<=a40∧a40<(List.length p0.2:Int)) (Option.bind (m_ref01_linksValid fuel (at' p0.2 a40) a40 (List.length p0.2:Int)) fun r67=>(ref01_Valid_k7 fuel p0 a40 ag39 ((!r67))))))))))else(ref01_Valid_k2 fuel p0 (()))
def ref01_Valid_k1 (fuel:Nat) (p0:List (Int)×(List (List (Int×Int)))) (a3:Bool):Option (Bool):=
 if a3=true then(some (false))else(iter (ref01_Valid_s3 fuel p0) fuel (0:Int))
def m_ref01_Valid (fuel:Nat) (p0:List (Int)×(List (List (Int×Int)))):Option (Bool):=
 Option.bind (m_ref01_In fuel (List.length p0.2:Int) (1:Int) (24:Int)) fun r70=>(if(!r70)=true then(ref01_Valid_k1 fuel p0 (true))else(ref01_Valid_k1 fuel p0 (decide ((List.length p0.1:Int)≠(List.length p0.2:Int)))))
theorem body34:HasBody Tryz.prog 34:=Tryz.call34
theorem t_ref01_Valid (fuel:Nat) {p0:List (Int)×(List (List (Int×Int)))} (v0:Value)  (v1:Value)  (z2:List (Value×List (Int×Int))) (r:Bool) (h:m_ref01_Valid fuel p0=some r):
  Meets Tryz.prog 34 #[Value.agg #[v0,v1]] [Sl RI64 v0 p0.1,S2 RI64I64p v1 z2 p0.2] (fun x:Unit=>Value.bool (r)) (fun x l=>l) (fun _ l=>l):=by
 refine Meets.of (vs:=[Value.agg #[v0,v1]]) Tryz.func34 rfl Tryz.ntmps34 rfl fun c=> ?_
 unfold m_ref01_Valid at h
 refine J.seq<|J.region<|J.loud (Loud.box (cs:=[v0,v1]) rfl rfl) rfl fun b1=>J.quiet (Y.assign rfl) rfl<|J.done<|J.thenN<|J.seq<|J.region<|J.quiet (Y.fieldB rfl rfl rfl rfl rfl) rfl<|J.quiet (Y.loadB 0 rfl rfl rfl rfl rfl) rfl<|J.quiet (Y.lenN rfl (Lent.fact 1 rfl) rfl) rfl<|J.quiet (Y.assign rfl) rfl<|J.done<|J.thenN<|J.seq<|J.seq<|J.midI (A:=Bool) (B:=Unit) (fun a3=>ref01_Valid_k1 fuel p0 a3=some r) (fun a3 b4=>[(1,Value.pointer (some ⟨b1,0,none⟩)),(3,Value.int .i64 (List.length p0.2:Int)),(22,Value.bool (a3))]) (fun a3 b4=>[Blk b1 [v0,v1] 25]) (fun a3 b4=>[Sl RI64 v0 p0.1,S2 RI64I64p v1 z2 p0.2]) ?_ ?_
 ·refine J.region<|J.quiet (Y.move rfl) rfl ?_
  have h:=bnd h;obtain⟨r70,hr71,h⟩:=h
  refine J.loud (Loud.callL body71 (t_ref01_In fuel  r70 hr71) rfl .nil (fun _ _=>rfl)) rfl fun x72=>J.quiet (Y.not rfl) rfl<|J.quiet (Y.move rfl) rfl ?_
  refine J.guard (by exact rfl) (by exact rfl) (fun hp73=> ?_) (fun hp73=> ?_)
  ·have h:=ifP hp73 h
   refine J.guardN rfl rfl rfl<|J.guardN rfl rfl rfl<|J.guardN rfl rfl rfl<|J.guardN rfl rfl rfl<|J.guardN rfl rfl rfl<|J.quiet (Y.pickT rfl rfl) rfl<|J.done<|J.thenN ?_
   exact J.meetI (true) (()) h SF (SubM.refl _) (LentAll.refl _ _)
  ·have h:=ifBN hp73 h
   refine J.guardY rfl (Y.fieldB rfl rfl rfl rfl rfl) rfl<|J.guardY rfl (Y.loadB 0 rfl rfl rfl rfl rfl) rfl<|J.guardY rfl (Y.lenS rfl (Lent.fact 0 rfl) rfl) rfl<|J.guardY rfl (Y.move rfl) rfl<|J.guardY rfl (Y.neq rfl rfl) rfl<|J.quiet (Y.pickF rfl rfl) rfl<|J.done<|J.thenN ?_
   exact J.meetI (decide ((List.length p0.1:Int)≠(List.length p0.2:Int))) (()) h SF (SubM.refl _) (LentAll.refl _ _)
 ·clear h
  intro a3 b4 h
  unfold ref01_Valid_k1 at h
  refine J.cond (by exact rfl) (fun hp5=> ?_) (fun hp5=> ?_)
  ·have h:=ifP hp5 h
   refine J.seq<|J.region<|J.quiet (Y.assign rfl) rfl<|J.done<|J.thenN<|J.ret<|J.thenR ?_
   obtain rfl:=Option.some.inj h
   exact J.retG1 (()) rfl rfl (RV.tmp rfl) (SubM.nil) LentAll.nil
  ·have h:=ifBN hp5 h
   refine J.skip<|J.thenN<|J.seq<|J.midI (A:=Unit) (B:=Unit) (fun a6=>ref01_Valid_k2 fuel p0 a6=some r) (fun a6 b7=>[(1,Value.pointer (some ⟨b1,0,none⟩)),(3,Value.int .i64 (List.length p0.2:Int))]) (fun a6 b7=>[Blk b1 [v0,v1] 25]) (fun a6 b7=>[Sl RI64 v0 p0.1,S2 RI64I64p v1 z2 p0.2]) ?_ ?_
   ·refine J.seq<|J.region<|J.quiet (Y.assign rfl) rfl<|J.done<|J.thenN<|J.block<|J.loopI (A:=Int) (B:=Unit) (ref01_Valid_s3 fuel p0) (fun a40 b41=>[(1,Value.pointer (some ⟨b1,0,none⟩)),(3,Value.int .i64 (List.length p0.2:Int)),(4,Value.int .i64 (a40))]) (fun a40 b41=>[Blk b1 [v0,v1] 25]) (fun a40 b41=>[Sl RI64 v0 p0.1,S2 RI64I64p v1 z2 p0.2]) (0:Int) (()) h SF (SubM.refl _) (LentAll.refl _ _) ?_
    clear h
    intro k42 a40 b41 h
    unfold ref01_Valid_s3 at h
    refine J.seq<|J.seq<|J.region<|J.quiet (Y.move rfl) rfl<|J.quiet (Y.move rfl) rfl<|J.quiet (Y.lss rfl rfl) rfl<|J.done<|J.thenN ?_
    refine J.condD (by exact rfl) (fun hp43=> ?_) (fun hp43=> ?_)
    ·have h:=ifP hp43 h
     refine J.skip<|J.thenN<|J.seq<|J.midI (A:=Unit) (B:=Unit) (fun a44=>ref01_Valid_k6 a40 (iter (ref01_Valid_s3 fuel p0) k42) a44=some r) (fun a44 b45=>[(1,Value.pointer (some ⟨b1,0,none⟩)),(3,Value.int .i64 (List.length p0.2:Int)),(4,Value.int .i64 (a40))]) (fun a44 b45=>[Blk b1 [v0,v1] 25]) (fun a44 b45=>[Sl RI64 v0 p0.1,S2 RI64I64p v1 z2 p0.2]) ?_ ?_
     ·refine J.block<|J.seq<|J.seq<|J.midI (A:=Bool) (B:=Unit) (fun a47=>ref01_Valid_k7 fuel p0 a40 (iter (ref01_Valid_s3 fuel p0) k42) a47=some r) (fun a47 b48=>[(1,Value.pointer (some ⟨b1,0,none⟩)),(3,Value.int .i64 (List.length p0.2:Int)),(4,Value.int .i64 (a40)),(55,Value.bool (a47))]) (fun a47 b48=>[Blk b1 [v0,v1] 25]) (fun a47 b48=>[Sl RI64 v0 p0.1,S2 RI64I64p v1 z2 p0.2]) ?_ ?_
      ·refine J.region<|J.quiet (Y.fieldB rfl rfl rfl rfl rfl) rfl<|J.quiet (Y.loadB 0 rfl rfl rfl rfl rfl) rfl<|J.quiet (Y.move rfl) rfl ?_
       have h:=ck_some h;obtain⟨hc59,h⟩:=h
       refine J.quiet (Y.indexS rfl rfl (Lent.fact 0 rfl) rfl rfl hc59) rfl<|J.quiet (Y.loadS0 rfl (Lent.fact 0 rfl) rfl rfl rfl RI64c0 hc59) rfl ?_
       have h:=bnd h;obtain⟨r60,hr61,h⟩:=h
       refine J.loud (Loud.callL body71 (t_ref01_In fuel  r60 hr61) rfl .nil (fun _ _=>rfl)) rfl fun x62=>J.quiet (Y.not rfl) rfl<|J.quiet (Y.move rfl) rfl ?_
       refine J.guard (by exact rfl) (by exact rfl) (fun hp63=> ?_) (fun hp63=> ?_)
       ·have h:=ifP hp63 h
        refine J.guardN rfl rfl rfl<|J.guardN rfl rfl rfl<|J.guardN rfl rfl rfl<|J.guardN rfl rfl rfl<|J.guardN rfl rfl rfl<|J.guardN rfl rfl rfl<|J.guardN rfl rfl rfl<|J.guardN rfl rfl rfl<|J.quiet (Y.pickT rfl rfl) rfl<|J.quiet (Y.move rfl) rfl<|J.guardN rfl rfl rfl<|J.guardN rfl rfl rfl<|J.guardN rfl rfl rfl<|J.guardN rfl rfl rfl<|J.guardN rfl rfl rfl<|J.guardN rfl rfl rfl<|J.guardN rfl rfl rfl<|J.guardN rfl rfl rfl<|J.guardN rfl rfl rfl<|J.quiet (Y.pickT rfl rfl) rfl<|J.done<|J.thenN ?_
        exact J.meetI (true) (()) h SF (SubM.refl _) (LentAll.refl _ _)
       ·have h:=ifBN hp63 h
        refine J.guardY rfl (Y.fieldB rfl rfl rfl rfl rfl) rfl<|J.guardY rfl (Y.loadB 0 rfl rfl rfl rfl rfl) rfl<|J.guardY rfl (Y.move rfl) rfl ?_
        have h:=ck_some h;obtain⟨hc64,h⟩:=h
        refine J.guardY rfl (Y.indexN rfl rfl (Lent.fact 1 rfl) rfl rfl hc64) rfl<|J.guardY rfl (Y.loadRow rfl (Lent.fact 1 rfl) rfl rfl hc64) rfl<|J.guardY rfl (Y.lenS rfl (Lent.el (Lent.fact 1 rfl) hc64.1 hc64.2) rfl) rfl<|J.guardY rfl (Y.move rfl) rfl<|J.guardY rfl (Y.geq rfl rfl) rfl<|J.quiet (Y.pickF rfl rfl) rfl<|J.quiet (Y.move rfl) rfl ?_
        refine J.guardD (by exact rfl) (by exact rfl) (fun hp65=> ?_) (fun hp65=> ?_)
        ·have h:=ifP hp65 h
         refine J.guardN rfl rfl rfl<|J.guardN rfl rfl rfl<|J.guardN rfl rfl rfl<|J.guardN rfl rfl rfl<|J.guardN rfl rfl rfl<|J.guardN rfl rfl rfl<|J.guardN rfl rfl rfl<|J.guardN rfl rfl rfl<|J.guardN rfl rfl rfl<|J.quiet (Y.pickT rfl rfl) rfl<|J.done<|J.thenN ?_
         exact J.meetI (true) (()) h SF (SubM.refl _) (LentAll.refl _ _)
        ·have h:=ifN hp65 h
         refine J.guardY rfl (Y.fieldB rfl rfl rfl rfl rfl) rfl<|J.guardY rfl (Y.loadB 0 rfl rfl rfl rfl rfl) rfl<|J.guardY rfl (Y.move rfl) rfl ?_
         have h:=ck_some h;obtain⟨hc66,h⟩:=h
         refine J.guardY rfl (Y.indexN rfl rfl (Lent.fact 1 rfl) rfl rfl hc66) rfl<|J.guardY rfl (Y.loadRow rfl (Lent.fact 1 rfl) rfl rfl hc66) rfl<|J.guardY rfl (Y.move rfl) rfl<|J.guardY rfl (Y.move rfl) rfl ?_
         have h:=bnd h;obtain⟨r67,hr68,h⟩:=h
         refine J.loudG rfl (Loud.callL body72 (t_ref01_linksValid fuel ((at' z2 a40).1) r67 hr68) rfl (LentAll.cons (Lent.el (Lent.fact 1 rfl) hc66.1 hc66.2) .nil) (fun _ _=>rfl)) rfl fun x69=>J.guardY rfl (Y.not rfl) rfl<|J.quiet (Y.pickF rfl rfl) rfl<|J.done<|J.thenN ?_
         exact J.meetI ((!r67)) (()) h SF (SubM.refl _) (LentAll.refl _ _)
      ·clear h
       intro a47 b48 h
       unfold ref01_Valid_k7 at h
       refine J.cond (by exact rfl) (fun hp49=> ?_) (fun hp49=> ?_)
       ·have h:=ifP hp49 h
        refine J.seq<|J.region<|J.quiet (Y.assign rfl) rfl<|J.done<|J.thenN<|J.ret<|J.thenR<|J.inR<|J.thenR<|J.thenR<|J.inR<|J.thenR ?_
        obtain rfl:=Option.some.inj h
        exact J.retG1 (()) rfl rfl (RV.tmp rfl) (SubM.nil) LentAll.nil
       ·have h:=ifBN hp49 h
        refine J.skip<|J.thenN<|J.seq<|J.region<|J.quiet (Y.assign rfl) rfl<|J.done<|J.thenN<|J.block<|J.loopI (A:=Int) (B:=Unit) (ref01_Valid_s4 p0 a40 (iter (ref01_Valid_s3 fuel p0) k42)) (fun a52 b53=>[(1,Value.pointer (some ⟨b1,0,none⟩)),(3,Value.int .i64 (List.length p0.2:Int)),(4,Value.int .i64 (a40)),(5,Value.int .i64 (a52))]) (fun a52 b53=>[Blk b1 [v0,v1] 25]) (fun a52 b53=>[Sl RI64 v0 p0.1,S2 RI64I64p v1 z2 p0.2]) (0:Int) (()) h SF (SubM.refl _) (LentAll.refl _ _) ?_
        clear h
        intro k54 a52 b53 h
        unfold ref01_Valid_s4 at h
        refine J.seq<|J.seq<|J.region<|J.quiet (Y.move rfl) rfl<|J.quiet (Y.move rfl) rfl<|J.quiet (Y.lss rfl rfl) rfl<|J.done<|J.thenN ?_
        refine J.condD (by exact rfl) (fun hp55=> ?_) (fun hp55=> ?_)
        ·have h:=ifP hp55 h
         refine J.skip<|J.thenN<|J.seq<|J.block<|J.seq ?_
         refine JR.start [0,1,0,7,15,0,32,0,224,480,1023] 10 mixedOrders (by decide +kernel) ?_
         refine JR.open (by exact rfl) ?_
         refine JR.qt rfl (SubM.nil) (SubL.nil) (Y.fieldB rfl rfl rfl rfl rfl) HistOk.z<|JR.qt rfl (SubM.refl _) (SubL.nil) (Y.loadB 0 rfl rfl rfl rfl rfl) HistOk.z<|JR.qt rfl (SubM.nil) (SubL.nil) (Y.move rfl) HistOk.z ?_
         have h:=ck_some h;obtain⟨hc56,h⟩:=h
         refine JR.qt rfl (SubM.nil) (SubL.cons (List.mem_of_getElem? (i:=0) rfl) (SubL.nil)) (Y.indexS rfl rfl (Lent.fact 0 rfl) rfl rfl hc56) HistOk.z<|JR.qt rfl (SubM.nil) (SubL.cons (List.mem_of_getElem? (i:=0) rfl) (SubL.nil)) (Y.loadS0 rfl (Lent.fact 0 rfl) rfl rfl rfl RI64c0 hc56) HistOk.z<|JR.qt rfl (SubM.nil) (SubL.nil) (Y.fieldB rfl rfl rfl rfl rfl) HistOk.z<|JR.qt rfl (SubM.refl _) (SubL.nil) (Y.loadB 0 rfl rfl rfl rfl rfl) HistOk.z<|JR.qt rfl (SubM.nil) (SubL.nil) (Y.move rfl) HistOk.z ?_
         have h:=ck_some h;obtain⟨hc57,h⟩:=h
         refine JR.qt rfl (SubM.nil) (SubL.cons (List.mem_of_getElem? (i:=0) rfl) (SubL.nil)) (Y.indexS rfl rfl (Lent.fact 0 rfl) rfl rfl hc57) HistOk.z<|JR.qt rfl (SubM.nil) (SubL.cons (List.mem_of_getElem? (i:=0) rfl) (SubL.nil)) (Y.loadS0 rfl (Lent.fact 0 rfl) rfl rfl rfl RI64c0 hc57) HistOk.z<|JR.tailD 10 rfl rfl<|J.quiet (Y.eql rfl rfl) rfl<|J.done<|J.thenN ?_
         refine J.condD (by exact rfl) (fun hp58=> ?_) (fun hp58=> ?_)
         ·have h:=ifP hp58 h
          refine J.seq<|J.region<|J.quiet (Y.assign rfl) rfl<|J.done<|J.thenN<|J.ret<|J.inR<|J.thenR<|J.thenR<|J.inR<|J.inR<|J.thenR<|J.thenR<|J.inR<|J.thenR ?_
          obtain rfl:=Option.some.inj h
          exact J.retG1 (()) rfl rfl (RV.tmp rfl) (SubM.nil) LentAll.nil
         ·have h:=ifN hp58 h
          refine J.skip<|J.inN<|J.thenN<|J.region<|J.quiet (Y.move rfl) rfl<|J.quiet (Y.addW rfl rfl) rfl<|J.quiet (Y.assign rfl) rfl<|J.done<|J.thenN ?_
          exact J.againI (wI .i64 (a52+(1:Int))) (()) h SF (SubM.refl _) (LentAll.refl _ _)
        ·have h:=ifN hp55 h
         refine J.exit<|J.thenX<|J.thenX<|J.inX<|J.inN<|J.thenN ?_
         exact J.meetI (()) (()) h SF (SubM.refl _) (LentAll.refl _ _)
     ·clear h
      intro a44 b45 h
      unfold ref01_Valid_k6 at h
      refine J.region<|J.quiet (Y.move rfl) rfl<|J.quiet (Y.addW rfl rfl) rfl<|J.quiet (Y.assign rfl) rfl<|J.done<|J.thenN ?_
      exact J.againI (wI .i64 (a40+(1:Int))) (()) h SF (SubM.refl _) (LentAll.refl _ _)
    ·have h:=ifN hp43 h
     refine J.exit<|J.thenX<|J.thenX<|J.inX<|J.thenN ?_
     exact J.meetI (()) (()) h SF (SubM.refl _) (LentAll.refl _ _)
   ·clear h
    intro a6 b7 h
    unfold ref01_Valid_k2 at h
    refine J.seq<|J.midI (A:=Unit) (B:=Unit) (fun a8=>ref01_Valid_k3  a8=some r) (fun a8 b9=>[]) (fun a8 b9=>[]) (fun a8 b9=>[Sl RI64 v0 p0.1,S2 RI64I64p v1 z2 p0.2]) ?_ ?_
    ·refine J.seq<|J.region<|J.quiet (Y.assign rfl) rfl<|J.done<|J.thenN<|J.block<|J.loopI (A:=Int) (B:=Unit) (ref01_Valid_s1 fuel p0) (fun a12 b13=>[(1,Value.pointer (some ⟨b1,0,none⟩)),(3,Value.int .i64 (List.length p0.2:Int)),(6,Value.int .i64 (a12))]) (fun a12 b13=>[Blk b1 [v0,v1] 25]) (fun a12 b13=>[Sl RI64 v0 p0.1,S2 RI64I64p v1 z2 p0.2]) (0:Int) (()) h SF (SubM.refl _) (LentAll.refl _ _) ?_
     clear h
     intro k14 a12 b13 h
     unfold ref01_Valid_s1 at h
     refine J.seq<|J.seq<|J.region<|J.quiet (Y.move rfl) rfl<|J.quiet (Y.move rfl) rfl<|J.quiet (Y.lss rfl rfl) rfl<|J.done<|J.thenN ?_
     refine J.condD (by exact rfl) (fun hp15=> ?_) (fun hp15=> ?_)
     ·have h:=ifP hp15 h
      refine J.skip<|J.thenN<|J.seq<|J.midI (A:=Unit) (B:=Unit) (fun a16=>ref01_Valid_k4 a12 (iter (ref01_Valid_s1 fuel p0) k14) a16=some r) (fun a16 b17=>[(1,Value.pointer (some ⟨b1,0,none⟩)),(3,Value.int .i64 (List.length p0.2:Int)),(6,Value.int .i64 (a12))]) (fun a16 b17=>[Blk b1 [v0,v1] 25]) (fun a16 b17=>[Sl RI64 v0 p0.1,S2 RI64I64p v1 z2 p0.2]) ?_ ?_
      ·refine J.block<|J.seq<|J.region<|J.quiet (Y.assign rfl) rfl<|J.done<|J.thenN<|J.block<|J.loopI (A:=Int) (B:=Unit) (ref01_Valid_s2 fuel p0 a12 (iter (ref01_Valid_s1 fuel p0) k14)) (fun a20 b21=>[(1,Value.pointer (some ⟨b1,0,none⟩)),(3,Value.int .i64 (List.length p0.2:Int)),(6,Value.int .i64 (a12)),(7,Value.int .i64 (a20))]) (fun a20 b21=>[Blk b1 [v0,v1] 25]) (fun a20 b21=>[Sl RI64 v0 p0.1,S2 RI64I64p v1 z2 p0.2]) (0:Int) (()) h SF (SubM.refl _) (LentAll.refl _ _) ?_
       clear h
       intro k22 a20 b21 h
       unfold ref01_Valid_s2 at h
       refine J.seq<|J.seq<|J.region<|J.quiet (Y.move rfl) rfl<|J.quiet (Y.fieldB rfl rfl rfl rfl rfl) rfl<|J.quiet (Y.loadB 0 rfl rfl rfl rfl rfl) rfl<|J.quiet (Y.move rfl) rfl ?_
       have h:=ck_some h;obtain⟨hc23,h⟩:=h
       refine J.quiet (Y.indexN rfl rfl (Lent.fact 1 rfl) rfl rfl hc23) rfl<|J.quiet (Y.loadRow rfl (Lent.fact 1 rfl) rfl rfl hc23) rfl<|J.quiet (Y.lenS rfl (Lent.el (Lent.fact 1 rfl) hc23.1 hc23.2) rfl) rfl<|J.quiet (Y.lss rfl rfl) rfl<|J.done<|J.thenN ?_
       refine J.condD (by exact rfl) (fun hp24=> ?_) (fun hp24=> ?_)
       ·have h:=ifP hp24 h
        refine J.skip<|J.thenN<|J.seq<|J.block<|J.seq<|J.region<|J.quiet (Y.fieldB rfl rfl rfl rfl rfl) rfl<|J.quiet (Y.loadB 0 rfl rfl rfl rfl rfl) rfl<|J.quiet (Y.move rfl) rfl ?_
        have h:=ck_some h;obtain⟨hc25,h⟩:=h
        refine J.quiet (Y.indexN rfl rfl (Lent.fact 1 rfl) rfl rfl hc25) rfl<|J.quiet (Y.loadRow rfl (Lent.fact 1 rfl) rfl rfl hc25) rfl<|J.quiet (Y.move rfl) rfl ?_
        have h:=ck_some h;obtain⟨hc26,h⟩:=h
        refine J.quiet (Y.indexS rfl rfl (Lent.el (Lent.fact 1 rfl) hc25.1 hc25.2) rfl rfl hc26) rfl<|J.quiet (Y.loadAggS (cs:=[Value.int .i64 ((at' (at' p0.2 a12) a20).1),Value.int .i64 ((at' (at' p0.2 a12) a20).2)]) rfl (Lent.el (Lent.fact 1 rfl) hc25.1 hc25.2) FI64I64p rfl rfl rfl rfl hc26) rfl<|J.loud (Loud.alloc (cs:=[Value.int .i64 (0:Int),Value.int .i64 (0:Int)]) rfl rfl) rfl fun b27=>J.storeAll 0 (vs:=[Value.int .i64 ((at' (at' p0.2 a12) a20).1),Value.int .i64 ((at' (at' p0.2 a12) a20).2)]) rfl rfl rfl rfl rfl rfl<|J.done<|J.thenN<|J.seq<|J.region<|J.quiet (Y.loadBAll 1 rfl rfl rfl rfl) rfl<|J.quiet (Y.fieldB rfl rfl rfl rfl rfl) rfl<|J.quiet (Y.loadB 0 rfl rfl rfl rfl rfl) rfl<|J.quiet (Y.move rfl) rfl ?_
        have h:=bnd h;obtain⟨r28,hr29,h⟩:=h
        refine J.loud (Loud.callL body73 (t_ref01_Port fuel v0 v1 z2 r28 hr29) rfl (LentAll.cons (Lent.fact 0 rfl) (LentAll.cons (Lent.fact 1 rfl) .nil)) (fun _ _=>rfl)) rfl fun x30=>J.quiet (Y.assign rfl) rfl<|J.done<|J.thenN<|J.seq<|J.midI (A:=Bool) (B:=Unit) (fun a32=>ref01_Valid_k5 a20 (iter (ref01_Valid_s2 fuel p0 a12 (iter (ref01_Valid_s1 fuel p0) k14)) k22) a32=some r) (fun a32 b33=>[(1,Value.pointer (some ⟨b1,0,none⟩)),(3,Value.int .i64 (List.length p0.2:Int)),(6,Value.int .i64 (a12)),(7,Value.int .i64 (a20)),(116,Value.bool (a32))]) (fun a32 b33=>[Blk b1 [v0,v1] 25]) (fun a32 b33=>[Sl RI64 v0 p0.1,S2 RI64I64p v1 z2 p0.2]) ?_ ?_
        ·refine JR.start [0,1,3,7,15,7,39,127,255,7,1023,2047,4095,7,8199,32767,65535] 15 mixedOrders (by decide +kernel) ?_
         refine JR.open (by exact rfl) ?_
         refine JR.qt rfl (SubM.nil) (SubL.nil) (Y.move rfl) HistOk.z<|JR.qt rfl (SubM.nil) (SubL.nil) (Y.lss rfl rfl) HistOk.z<|JR.qt rfl (SubM.nil) (SubL.nil) (Y.move rfl) HistOk.z ?_
         refine JR.guardD (by exact rfl) (by exact rfl) (by exact rfl) (fun hp35=> ?_) (fun hp35=> ?_)
         ·have h:=ifP hp35 h
          refine JR.guardN rfl rfl rfl rfl<|JR.guardN rfl rfl rfl rfl<|JR.guardN rfl rfl rfl rfl<|JR.guardN rfl rfl rfl rfl<|JR.guardN rfl rfl rfl rfl<|JR.guardN rfl rfl rfl rfl<|JR.guardN rfl rfl rfl rfl<|JR.guardN rfl rfl rfl rfl<|JR.guardN rfl rfl rfl rfl<|JR.guardN rfl rfl rfl rfl<|JR.guardN rfl rfl rfl rfl<|JR.guardN rfl rfl rfl rfl<|JR.tailD 15 rfl rfl<|J.guardN rfl rfl rfl<|J.quiet (Y.pickT rfl rfl) rfl<|J.done<|J.thenN ?_
          exact J.meetI (true) (()) h SF (SubM.cons 1 rfl (SubM.nil)) (LentAll.refl _ _)
         ·have h:=ifN hp35 h
          refine JR.qtG rfl (SubM.nil) (SubL.nil) (Y.fieldB rfl rfl rfl rfl rfl) HistOk.z<|JR.qtG rfl (SubM.cons 1 rfl (SubM.nil)) (SubL.nil) (Y.loadB 0 rfl rfl rfl rfl rfl) HistOk.z<|JR.qtG rfl (SubM.nil) (SubL.nil) (Y.fieldB rfl rfl rfl rfl rfl) HistOk.z<|JR.qtG rfl (SubM.cons 0 rfl (SubM.nil)) (SubL.nil) (Y.loadB 0 rfl rfl rfl rfl rfl) HistOk.z ?_
          have h:=ck_some h;obtain⟨hc36,h⟩:=h
          refine JR.qtG rfl (SubM.nil) (SubL.cons (List.mem_of_getElem? (i:=1) rfl) (SubL.nil)) (Y.indexN rfl rfl (Lent.fact 0 rfl) rfl rfl hc36) HistOk.z<|JR.qtG rfl (SubM.nil) (SubL.cons (List.mem_of_getElem? (i:=1) rfl) (SubL.nil)) (Y.loadRow rfl (Lent.fact 0 rfl) rfl rfl hc36) HistOk.z<|JR.qtG rfl (SubM.nil) (SubL.nil) (Y.move rfl) HistOk.z ?_
          have h:=ck_some h;obtain⟨hc37,h⟩:=h
          refine JR.qtG rfl (SubM.nil) (SubL.cons (List.mem_of_getElem? (i:=1) rfl) (SubL.nil)) (Y.indexS rfl rfl (Lent.el (Lent.fact 0 rfl) hc36.1 hc36.2) rfl rfl hc37) HistOk.z<|JR.qtG rfl (SubM.nil) (SubL.nil) (Y.fieldEl rfl rfl rfl rfl rfl) HistOk.z<|JR.qtG rfl (SubM.nil) (SubL.cons (List.mem_of_getElem? (i:=1) rfl) (SubL.nil)) (Y.loadS rfl (Lent.el (Lent.fact 0 rfl) hc36.1 hc36.2) rfl rfl rfl RI64I64pc1 hc37) HistOk.z<|JR.qtG rfl (SubM.nil) (SubL.nil) (Y.fieldB rfl rfl rfl rfl rfl) HistOk.z<|JR.qtG rfl (SubM.cons 0 rfl (SubM.nil)) (SubL.nil) (Y.loadB 0 rfl rfl rfl rfl rfl) HistOk.z<|JR.tailD 15 rfl rfl<|J.guardY rfl (Y.neq rfl rfl) rfl<|J.quiet (Y.pickF rfl rfl) rfl<|J.done<|J.thenN ?_
          exact J.meetI (decide (((at' (at' p0.2 ((at' (at' p0.2 a12) a20).1)) r28).2)≠((at' (at' p0.2 a12) a20).2))) (()) h SF (SubM.cons 1 rfl (SubM.nil)) (LentAll.refl _ _)
        ·clear h
         intro a32 b33 h
         unfold ref01_Valid_k5 at h
         refine J.cond (by exact rfl) (fun hp34=> ?_) (fun hp34=> ?_)
         ·have h:=ifP hp34 h
          refine J.seq<|J.region<|J.quiet (Y.assign rfl) rfl<|J.done<|J.thenN<|J.ret<|J.inR<|J.thenR<|J.thenR<|J.inR<|J.inR<|J.thenR<|J.thenR<|J.inR<|J.thenR ?_
          obtain rfl:=Option.some.inj h
          exact J.retG1 (()) rfl rfl (RV.tmp rfl) (SubM.nil) LentAll.nil
         ·have h:=ifBN hp34 h
          refine J.skip<|J.inN<|J.thenN<|J.region<|J.quiet (Y.move rfl) rfl<|J.quiet (Y.addW rfl rfl) rfl<|J.quiet (Y.assign rfl) rfl<|J.done<|J.thenN ?_
          exact J.againI (wI .i64 (a20+(1:Int))) (()) h SF (SubM.refl _) (LentAll.refl _ _)
       ·have h:=ifN hp24 h
        refine J.exit<|J.thenX<|J.thenX<|J.inX<|J.inN<|J.thenN ?_
        exact J.meetI (()) (()) h SF (SubM.refl _) (LentAll.refl _ _)
      ·clear h
       intro a16 b17 h
       unfold ref01_Valid_k4 at h
       refine J.region<|J.quiet (Y.move rfl) rfl<|J.quiet (Y.addW rfl rfl) rfl<|J.quiet (Y.assign rfl) rfl<|J.done<|J.thenN ?_
       exact J.againI (wI .i64 (a12+(1:Int))) (()) h SF (SubM.refl _) (LentAll.refl _ _)
     ·have h:=ifN hp15 h
      refine J.exit<|J.thenX<|J.thenX<|J.inX<|J.thenN ?_
      exact J.meetI (()) (()) h SF (SubM.nil) (LentAll.refl _ _)
    ·clear h
     intro a8 b9 h
     unfold ref01_Valid_k3 at h
     refine J.seq<|J.region<|J.quiet (Y.assign rfl) rfl<|J.done<|J.thenN<|J.ret ?_
     obtain rfl:=Option.some.inj h
     exact J.retG1 (()) rfl rfl (RV.tmp rfl) (SubM.refl _) LentAll.nil
end Go.Proofs.YtfbkplemadmbfaaGreatDoor
end
section
namespace Go.Proofs.YtfbkplemadmbfaaGreatDoor
open Go.Sx
def ref01_All_k1  (a2:Int):Option (Int):=
 some (a2)
def ref01_All_k2 (a7:Int×Int) (ag6:(Int×Int)->Option (Int)) (a11:Bool):Option (Int):=
 if a11=true then(ck (0<=(wI .u64 a7.2)) (ag6 ((bOr .u32 a7.1 (bShl .u32 (1:Int) (wI .u64 a7.2))),(wI .i64 (a7.2+(1:Int))))))else(ref01_All_k1  (a7.1))
def ref01_All_s1 (p0:Int) (a7:Int×Int) (ag6:(Int×Int)->Option (Int)):Option (Int):=
 if a7.2<p0 then(ref01_All_k2 a7 ag6 (decide (a7.2<(32:Int))))else(ref01_All_k2 a7 ag6 (false))
def m_ref01_All (fuel:Nat) (p0:Int):Option (Int):=
 iter (ref01_All_s1 p0) fuel ((0:Int),(0:Int))
theorem body35:HasBody Tryz.prog 35:=Tryz.call35
theorem t_ref01_All (fuel:Nat) {p0:Int} (r:Int) (h:m_ref01_All fuel p0=some r):
  Meets Tryz.prog 35 #[Value.int .i64 (p0)] [] (fun x:Unit=>Value.int .u32 (r)) (fun x l=>l) (fun _ l=>l):=by
 refine Meets.of (vs:=[Value.int .i64 (p0)]) Tryz.func35 rfl Tryz.ntmps35 rfl fun c=> ?_
 unfold m_ref01_All at h
 refine J.seq<|J.region<|J.quiet (Y.assign rfl) rfl<|J.done<|J.thenN<|J.seq<|J.region<|J.quiet (Y.assign rfl) rfl<|J.done<|J.thenN<|J.seq<|J.midI (A:=Int) (B:=Unit) (fun a2=>ref01_All_k1  a2=some r) (fun a2 b3=>[(3,Value.int .u32 (a2))]) (fun a2 b3=>[]) (fun a2 b3=>[]) ?_ ?_
 ·refine J.seq<|J.region<|J.quiet (Y.assign rfl) rfl<|J.done<|J.thenN<|J.block<|J.loopI (A:=Int×Int) (B:=Unit) (ref01_All_s1 p0) (fun a7 b8=>[(0,Value.int .i64 (p0)),(3,Value.int .u32 (a7.1)),(4,Value.int .i64 (a7.2))]) (fun a7 b8=>[]) (fun a7 b8=>[]) ((0:Int),(0:Int)) (()) h SF (SubM.refl _) (LentAll.refl _ _) ?_
  clear h
  intro k9 a7 b8 h
  unfold ref01_All_s1 at h
  refine J.seq<|J.seq<|J.midI (A:=Bool) (B:=Unit) (fun a11=>ref01_All_k2 a7 (iter (ref01_All_s1 p0) k9) a11=some r) (fun a11 b12=>[(0,Value.int .i64 (p0)),(3,Value.int .u32 (a7.1)),(4,Value.int .i64 (a7.2)),(11,Value.bool (a11))]) (fun a11 b12=>[]) (fun a11 b12=>[]) ?_ ?_
  ·refine J.region<|J.quiet (Y.move rfl) rfl<|J.quiet (Y.move rfl) rfl<|J.quiet (Y.lss rfl rfl) rfl<|J.quiet (Y.move rfl) rfl ?_
   refine J.guardD (by exact rfl) (by exact rfl) (fun hp15=> ?_) (fun hp15=> ?_)
   ·have h:=ifP hp15 h
    refine J.guardY rfl (Y.move rfl) rfl<|J.guardY rfl (Y.lss rfl rfl) rfl<|J.quiet (Y.pickT rfl rfl) rfl<|J.done<|J.thenN ?_
    exact J.meetI (decide (a7.2<(32:Int))) (()) h SF (SubM.refl _) (LentAll.refl _ _)
   ·have h:=ifN hp15 h
    refine J.guardN rfl rfl rfl<|J.guardN rfl rfl rfl<|J.quiet (Y.pickF rfl rfl) rfl<|J.done<|J.thenN ?_
    exact J.meetI (false) (()) h SF (SubM.refl _) (LentAll.refl _ _)
  ·clear h
   intro a11 b12 h
   unfold ref01_All_k2 at h
   refine J.cond (by exact rfl) (fun hp13=> ?_) (fun hp13=> ?_)
   ·have h:=ifP hp13 h
    refine J.skip<|J.thenN<|J.seq<|J.block<|J.region<|J.quiet (Y.move rfl) rfl<|J.quiet (Y.move rfl) rfl<|J.quiet (Y.conv rfl rfl rfl) rfl ?_
    have h:=ck_some h;obtain⟨hc14,h⟩:=h
    refine J.quiet (Y.shl rfl rfl hc14) rfl<|J.quiet (Y.or rfl rfl) rfl<|J.quiet (Y.assign rfl) rfl<|J.done<|J.inN<|J.thenN<|J.region<|J.quiet (Y.move rfl) rfl<|J.quiet (Y.addW rfl rfl) rfl<|J.quiet (Y.assign rfl) rfl<|J.done<|J.thenN ?_
    exact J.againI ((bOr .u32 a7.1 (bShl .u32 (1:Int) (wI .u64 a7.2))),(wI .i64 (a7.2+(1:Int)))) (()) h SF (SubM.refl _) (LentAll.refl _ _)
   ·have h:=ifBN hp13 h
    refine J.exit<|J.thenX<|J.thenX<|J.inX<|J.thenN ?_
    exact J.meetI (a7.1) (()) h SF (SubM.refl _) (LentAll.refl _ _)
 ·clear h
  intro a2 b3 h
  unfold ref01_All_k1 at h
  refine J.seq<|J.region<|J.quiet (Y.move rfl) rfl<|J.quiet (Y.assign rfl) rfl<|J.done<|J.thenN<|J.ret ?_
  obtain rfl:=Option.some.inj h
  exact J.retG1 (()) rfl rfl (RV.tmp rfl) (SubM.refl _) LentAll.nil
end Go.Proofs.YtfbkplemadmbfaaGreatDoor
end
section
namespace Go.Proofs.YtfbkplemadmbfaaGreatDoor
open Go.Sx
def graph_search_k2  (a10:List (Int)):Option (List (Int)):=
 some (a10)
def graph_search_k3 (a29:Int×List (Int)×List (Int)) (ag28:(Int×List (Int)×List (Int))->Option (List (Int))) (a36:List (Int)×List (Int)):Option (List (Int)):=
 ag28 ((wI .i64 (a29.1+(1:Int))),a36.1,a36.2)
def graph_search_s2 (p0:List (Int)×(List (List (Int×Int)))) (a16:List (Int)×List (Int)) (ag15:(List (Int)×List (Int))->Option (List (Int))) (a29:Int×List (Int)×List (Int)) (ag28:(Int×List (Int)×List (Int))->Option (List (Int))):Option (List (Int)):=
 if a29.1<(List.length (at' p0.2 (at' a16.1 (0:Int))):Int)then(ck (0<=a29.1∧a29.1<(List.length (at' p0.2 (at' a16.1 (0:Int))):Int)) (ck (0<=((at' (at' p0.2 (at' a16.1 (0:Int))) a29.1).1)∧((at' (at' p0.2 (at' a16.1 (0:Int))) a29.1).1)<(List.length a29.2.2:Int)) (if(at' a29.2.2 ((at' (at' p0.2 (at' a16.1 (0:Int))) a29.1).1))<(0:Int)then(ck (0<=(at' a16.1 (0:Int))∧(at' a16.1 (0:Int))<(List.length a29.2.2:Int)) (ck (0<=((at' (at' p0.2 (at' a16.1 (0:Int))) a29.1).1)∧((at' (at' p0.2 (at' a16.1 (0:Int))) a29.1).1)<(List.length a29.2.2:Int)) (ck ((List.length a29.2.1:Int)+(List.length ([((at' (at' p0.2 (at' a16.1 (0:Int))) a29.1).1)]):Int)<=1099511627) (graph_search_k3 a29 ag28 ((a29.2.1++([((at' (at' p0.2 (at' a16.1 (0:Int))) a29.1).1)])),(List.set a29.2.2 (Int.toNat ((at' (at' p0.2 (at' a16.1 (0:Int))) a29.1).1)) (wI .i64 ((at' a29.2.2 (at' a16.1 (0:Int)))+(1:Int)))))))))else(graph_search_k3 a29 ag28 (a29.2.1,a29.2.2)))))else(ag15 (a29.2.1,a29.2.2))
def graph_search_s1 (fuel:Nat) (p0:List (Int)×(List (List (Int×Int)))) (a16:List (Int)×List (Int)) (ag15:(List (Int)×List (Int))->Option (List (Int))):Option (List (Int)):=
 if(0:Int)<(List.length a16.1:Int)then(ck (0<=(0:Int)∧(0:Int)<(List.length a16.1:Int)) (ck (0<=(1:Int)∧(1:Int)<=(List.length a16.1:Int)) (ck (0<=(at' a16.1 (0:Int))∧(at' a16.1 (0:Int))<(List.length p0.2:Int)) (iter (graph_search_s2 p0 a16 ag15) fuel ((0:Int),(List.drop (Int.toNat (1:Int)) a16.1),a16.2)))))else(graph_search_k2  (a16.2))
def graph_search_k1 (fuel:Nat) (p0:List (Int)×(List (List (Int×Int)))) (p1:Int) (a5:List (Int)):Option (List (Int)):=
 ck (0<=p1∧p1<(List.length a5:Int)) (iter (graph_search_s1 fuel p0) fuel (([p1]),(List.set a5 (Int.toNat p1) (0:Int))))
def graph_search_s3 (fuel:Nat) (p0:List (Int)×(List (List (Int×Int)))) (p1:Int) (a50:Int×List (Int)) (ag49:(Int×List (Int))->Option (List (Int))):Option (List (Int)):=
 if a50.1<(List.length (List.replicate (Int.toNat (List.length p0.2:Int)) (0:Int)):Int)then(ck (0<=a50.1∧a50.1<(List.length a50.2:Int)) (ag49 ((wI .i64 (a50.1+(1:Int))),(List.set a50.2 (Int.toNat a50.1) (-1:Int)))))else(graph_search_k1 fuel p0 p1 (a50.2))
def m_graph_search (fuel:Nat) (p0:List (Int)×(List (List (Int×Int)))) (p1:Int):Option (List (Int)):=
 ck (0<=(List.length p0.2:Int)∧(List.length p0.2:Int)<=1099511627) (iter (graph_search_s3 fuel p0 p1) fuel ((0:Int),(List.replicate (Int.toNat (List.length p0.2:Int)) (0:Int))))
theorem body79:HasBody Tryz.prog 79:=Tryz.call79
theorem t_graph_search (fuel:Nat) {p0:List (Int)×(List (List (Int×Int)))} {p1:Int} (v0:Value)  (v1:Value)  (z2:List (Value×List (Int×Int))) (r:List (Int)) (h:m_graph_search fuel p0 p1=some r):
  Meets Tryz.prog 79 #[Value.agg #[v0,v1],Value.int .i64 (p1)] [Sl RI64 v0 p0.1,S2 RI64I64p v1 z2 p0.2] (fun x:Value=>x) (fun x l=>Ar EI64 x r::l) (fun _ l=>l):=by
 refine Meets.of (vs:=[Value.agg #[v0,v1],Value.int .i64 (p1)]) Tryz.func79 rfl Tryz.ntmps79 rfl fun c=> ?_
 unfold m_graph_search at h
 refine J.seq<|J.region<|J.loud (Loud.box (cs:=[v0,v1]) rfl rfl) rfl fun b1=>J.quiet (Y.assign rfl) rfl<|J.done<|J.thenN<|J.seq<|J.region<|J.quiet (Y.fieldB rfl rfl rfl rfl rfl) rfl<|J.quiet (Y.loadB 0 rfl rfl rfl rfl rfl) rfl<|J.quiet (Y.lenN rfl (Lent.fact 1 rfl) rfl) rfl ?_
 have h:=ck_some h;obtain⟨hc2,h⟩:=h
 refine J.loud (Loud.makeS (e:=EI64) (0:Int) rfl rfl rfl rfl hc2 rfl rfl rfl) rfl fun u3=>J.quiet (Y.assign rfl) rfl<|J.done<|J.thenN<|J.seq<|J.midI (A:=List (Int)) (B:=Unit) (fun a5=>graph_search_k1 fuel p0 p1 a5=some r) (fun a5 b6=>[(1,Value.int .i64 (p1)),(2,Value.pointer (some ⟨b1,0,none⟩)),(5,u3)]) (fun a5 b6=>[Ar EI64 u3 a5,Blk b1 [v0,v1] 25]) (fun a5 b6=>[Sl RI64 v0 p0.1,S2 RI64I64p v1 z2 p0.2]) ?_ ?_
 ·refine J.seq<|J.region<|J.quiet (Y.move rfl) rfl<|J.quiet (Y.lenS rfl (Lent.ar (Lent.res 0 rfl) FI64) rfl) rfl<|J.quiet (Y.move rfl) rfl<|J.done<|J.thenN<|J.block<|J.loopI (A:=Int×List (Int)) (B:=Unit) (graph_search_s3 fuel p0 p1) (fun a50 b51=>[(1,Value.int .i64 (p1)),(2,Value.pointer (some ⟨b1,0,none⟩)),(5,u3),(16,Value.int .i64 (List.length (List.replicate (Int.toNat (List.length p0.2:Int)) (0:Int)):Int)),(17,Value.int .i64 (a50.1))]) (fun a50 b51=>[Ar EI64 u3 a50.2,Blk b1 [v0,v1] 25]) (fun a50 b51=>[Sl RI64 v0 p0.1,S2 RI64I64p v1 z2 p0.2]) ((0:Int),(List.replicate (Int.toNat (List.length p0.2:Int)) (0:Int))) (()) h SF (SubM.refl _) (LentAll.refl _ _) ?_
  clear h
  intro k52 a50 b51 h
  unfold graph_search_s3 at h
  refine J.seq<|J.region<|J.quiet (Y.lss rfl rfl) rfl<|J.done<|J.thenN<|J.seq ?_
  refine J.condD (by exact rfl) (fun hp53=> ?_) (fun hp53=> ?_)
  ·have h:=ifP hp53 h
   refine J.skip<|J.thenN<|J.seq<|J.block<|J.seq<|J.region<|J.quiet (Y.move rfl) rfl<|J.quiet (Y.assign rfl) rfl<|J.done<|J.thenN<|J.region<|J.quiet (Y.move rfl) rfl<|J.quiet (Y.move rfl) rfl ?_
   have h:=ck_some h;obtain⟨hc54,h⟩:=h
   refine J.quiet (Y.indexS rfl rfl (Lent.ar (Lent.res 0 rfl) FI64) rfl rfl hc54) rfl<|J.storeS 0 (-1:Int) hc54 rfl rfl rfl rfl rfl rfl rfl<|J.done<|J.inN<|J.thenN<|J.region<|J.quiet (Y.addW rfl rfl) rfl<|J.quiet (Y.move rfl) rfl<|J.done<|J.thenN ?_
   exact J.againI ((wI .i64 (a50.1+(1:Int))),(List.set a50.2 (Int.toNat a50.1) (-1:Int))) (()) h SF (SubM.refl _) (LentAll.refl _ _)
  ·have h:=ifN hp53 h
   refine J.exit<|J.thenX<|J.thenX<|J.inX<|J.thenN ?_
   exact J.meetI (a50.2) (()) h SF (SubM.refl _) (LentAll.refl _ _)
 ·clear h
  intro a5 b6 h
  unfold graph_search_k1 at h
  refine J.seq<|J.region<|J.quiet (Y.move rfl) rfl<|J.quiet (Y.move rfl) rfl ?_
  have h:=ck_some h;obtain⟨hc7,h⟩:=h
  refine J.quiet (Y.indexS rfl rfl (Lent.ar (Lent.res 0 rfl) FI64) rfl rfl hc7) rfl<|J.storeS 0 (0:Int) hc7 rfl rfl rfl rfl rfl rfl rfl<|J.done<|J.thenN<|J.seq<|J.region<|J.quiet (Y.move rfl) rfl<|J.loud (Loud.buildS (e:=EI64) ([p1]) [(0,Value.int .i64 (p1))] rfl rfl rfl rfl (fill_1_1 (Value.int .i64 (p1)) rfl) rfl rfl rfl) rfl fun u8=>J.quiet (Y.assign rfl) rfl<|J.done<|J.thenN<|J.seq<|J.midI (A:=List (Int)) (B:=Unit) (fun a10=>graph_search_k2  a10=some r) (fun a10 b11=>[(5,u3)]) (fun a10 b11=>[Ar EI64 u3 a10]) (fun a10 b11=>[Sl RI64 v0 p0.1,S2 RI64I64p v1 z2 p0.2]) ?_ ?_
  ·refine J.block<|J.loopI (A:=List (Int)×List (Int)) (B:=Value) (graph_search_s1 fuel p0) (fun a16 b17=>[(2,Value.pointer (some ⟨b1,0,none⟩)),(5,u3),(7,b17)]) (fun a16 b17=>[Ar EI64 b17 a16.1,Ar EI64 u3 a16.2,Blk b1 [v0,v1] 25]) (fun a16 b17=>[Sl RI64 v0 p0.1,S2 RI64I64p v1 z2 p0.2]) (([p1]),(List.set a5 (Int.toNat p1) (0:Int))) (u8) h SF (SubM.refl _) (LentAll.refl _ _) ?_
   clear h
   intro k18 a16 b17 h
   unfold graph_search_s1 at h
   refine J.seq<|J.seq<|J.region<|J.quiet (Y.move rfl) rfl<|J.quiet (Y.lenS rfl (Lent.ar (Lent.res 0 rfl) FI64) rfl) rfl<|J.quiet (Y.gtr rfl rfl) rfl<|J.done<|J.thenN ?_
   refine J.condD (by exact rfl) (fun hp19=> ?_) (fun hp19=> ?_)
   ·have h:=ifP hp19 h
    refine J.skip<|J.thenN<|J.block<|J.seq<|J.region<|J.quiet (Y.move rfl) rfl ?_
    have h:=ck_some h;obtain⟨hc20,h⟩:=h
    refine J.quiet (Y.indexS rfl rfl (Lent.ar (Lent.res 0 rfl) FI64) rfl rfl hc20) rfl<|J.quiet (Y.loadS0 rfl (Lent.ar (Lent.res 0 rfl) FI64) rfl rfl rfl RI64c0 hc20) rfl<|J.quiet (Y.assign rfl) rfl<|J.done<|J.thenN<|J.seq<|J.region<|J.quiet (Y.move rfl) rfl ?_
    have h:=ck_some h;obtain⟨hc21,h⟩:=h
    refine J.loud (Loud.sliceA 0 hc21 rfl rfl rfl rfl rfl rfl) rfl fun u22=>J.quiet (Y.assign rfl) rfl<|J.done<|J.thenN<|J.seq<|J.region<|J.quiet (Y.fieldB rfl rfl rfl rfl rfl) rfl<|J.quiet (Y.loadB 2 rfl rfl rfl rfl rfl) rfl<|J.quiet (Y.move rfl) rfl ?_
    have h:=ck_some h;obtain⟨hc23,h⟩:=h
    refine J.quiet (Y.indexN rfl rfl (Lent.fact 1 rfl) rfl rfl hc23) rfl<|J.quiet (Y.loadRow rfl (Lent.fact 1 rfl) rfl rfl hc23) rfl<|J.quiet (Y.lenS rfl (Lent.el (Lent.fact 1 rfl) hc23.1 hc23.2) rfl) rfl<|J.quiet (Y.move rfl) rfl<|J.done<|J.thenN<|J.block<|J.loopI (A:=Int×List (Int)×List (Int)) (B:=Value) (graph_search_s2 p0 a16 (iter (graph_search_s1 fuel p0) k18)) (fun a29 b30=>[(2,Value.pointer (some ⟨b1,0,none⟩)),(5,u3),(7,b30),(8,Value.int .i64 (at' a16.1 (0:Int))),(41,(at' z2 (at' a16.1 (0:Int))).1),(42,Value.int .i64 (List.length (at' p0.2 (at' a16.1 (0:Int))):Int)),(43,Value.int .i64 (a29.1))]) (fun a29 b30=>[Ar EI64 b30 a29.2.1,Ar EI64 u3 a29.2.2,Blk b1 [v0,v1] 25]) (fun a29 b30=>[Sl RI64 v0 p0.1,S2 RI64I64p v1 z2 p0.2]) ((0:Int),(List.drop (Int.toNat (1:Int)) a16.1),a16.2) (u22) h SF (SubM.refl _) (LentAll.refl _ _) ?_
    clear h
    intro k31 a29 b30 h
    unfold graph_search_s2 at h
    refine J.seq<|J.region<|J.quiet (Y.lss rfl rfl) rfl<|J.done<|J.thenN<|J.seq ?_
    refine J.condD (by exact rfl) (fun hp32=> ?_) (fun hp32=> ?_)
    ·have h:=ifP hp32 h
     refine J.skip<|J.thenN<|J.seq<|J.midI (A:=List (Int)×List (Int)) (B:=Value) (fun a36=>graph_search_k3 a29 (iter (graph_search_s2 p0 a16 (iter (graph_search_s1 fuel p0) k18)) k31) a36=some r) (fun a36 b37=>[(2,Value.pointer (some ⟨b1,0,none⟩)),(5,u3),(7,b37),(8,Value.int .i64 (at' a16.1 (0:Int))),(41,(at' z2 (at' a16.1 (0:Int))).1),(42,Value.int .i64 (List.length (at' p0.2 (at' a16.1 (0:Int))):Int)),(43,Value.int .i64 (a29.1))]) (fun a36 b37=>[Ar EI64 b37 a36.1,Ar EI64 u3 a36.2,Blk b1 [v0,v1] 25]) (fun a36 b37=>[Sl RI64 v0 p0.1,S2 RI64I64p v1 z2 p0.2]) ?_ ?_
     ·refine J.block<|J.seq<|J.region ?_
      have h:=ck_some h;obtain⟨hc38,h⟩:=h
      refine J.quiet (Y.indexS rfl rfl (Lent.el (Lent.fact 1 rfl) hc23.1 hc23.2) rfl rfl hc38) rfl<|J.quiet (Y.loadAggS (cs:=[Value.int .i64 ((at' (at' p0.2 (at' a16.1 (0:Int))) a29.1).1),Value.int .i64 ((at' (at' p0.2 (at' a16.1 (0:Int))) a29.1).2)]) rfl (Lent.el (Lent.fact 1 rfl) hc23.1 hc23.2) FI64I64p rfl rfl rfl rfl hc38) rfl<|J.loud (Loud.alloc (cs:=[Value.int .i64 (0:Int),Value.int .i64 (0:Int)]) rfl rfl) rfl fun b39=>J.storeAll 0 (vs:=[Value.int .i64 ((at' (at' p0.2 (at' a16.1 (0:Int))) a29.1).1),Value.int .i64 ((at' (at' p0.2 (at' a16.1 (0:Int))) a29.1).2)]) rfl rfl rfl rfl rfl rfl<|J.done<|J.thenN<|J.seq<|J.region<|J.quiet (Y.move rfl) rfl<|J.quiet (Y.fieldB rfl rfl rfl rfl rfl) rfl<|J.quiet (Y.loadB 0 rfl rfl rfl rfl rfl) rfl ?_
      have h:=ck_some h;obtain⟨hc40,h⟩:=h
      refine J.quiet (Y.indexS rfl rfl (Lent.ar (Lent.res 2 rfl) FI64) rfl rfl hc40) rfl<|J.quiet (Y.loadS0 rfl (Lent.ar (Lent.res 2 rfl) FI64) rfl rfl rfl RI64c0 hc40) rfl<|J.quiet (Y.lss rfl rfl) rfl<|J.done<|J.thenN ?_
      refine J.condD (by exact rfl) (fun hp41=> ?_) (fun hp41=> ?_)
      ·have h:=ifP hp41 h
       refine J.seq ?_
       refine JR.start [0,0,2,0,0,24,56,120,255,511] 8 mixedOrders (by decide +kernel) ?_
       refine JR.open (by exact rfl) ?_
       refine JR.qt rfl (SubM.nil) (SubL.nil) (Y.move rfl) HistOk.z<|JR.qt rfl (SubM.nil) (SubL.nil) (Y.fieldB rfl rfl rfl rfl rfl) HistOk.z<|JR.qt rfl (SubM.cons 0 rfl (SubM.nil)) (SubL.nil) (Y.loadB 0 rfl rfl rfl rfl rfl) HistOk.z<|JR.qt rfl (SubM.nil) (SubL.nil) (Y.move rfl) HistOk.z<|JR.qt rfl (SubM.nil) (SubL.nil) (Y.move rfl) HistOk.z ?_
       have h:=ck_some h;obtain⟨hc42,h⟩:=h
       refine JR.qt rfl (SubM.cons 2 rfl (SubM.nil)) (SubL.nil) (Y.indexS rfl rfl (Lent.ar (Lent.res 0 rfl) FI64) rfl rfl hc42) HistOk.z<|JR.qt rfl (SubM.cons 2 rfl (SubM.nil)) (SubL.nil) (Y.loadS0 rfl (Lent.ar (Lent.res 0 rfl) FI64) rfl rfl rfl RI64c0 hc42) HistOk.z<|JR.qt rfl (SubM.nil) (SubL.nil) (Y.addW rfl rfl) HistOk.z<|JR.tailD 8 rfl rfl ?_
       have h:=ck_some h;obtain⟨hc43,h⟩:=h
       refine J.quiet (Y.indexS rfl rfl (Lent.ar (Lent.res 2 rfl) FI64) rfl rfl hc43) rfl<|J.storeS 2 (wI .i64 ((at' a29.2.2 (at' a16.1 (0:Int)))+(1:Int))) hc43 rfl rfl rfl rfl rfl rfl rfl<|J.done<|J.thenN<|J.region<|J.quiet (Y.move rfl) rfl<|J.quiet (Y.fieldB rfl rfl rfl rfl rfl) rfl<|J.quiet (Y.loadB 0 rfl rfl rfl rfl rfl) rfl<|J.loud (Loud.buildS (e:=EI64) ([((at' (at' p0.2 (at' a16.1 (0:Int))) a29.1).1)]) [(0,Value.int .i64 ((at' (at' p0.2 (at' a16.1 (0:Int))) a29.1).1))] rfl rfl rfl rfl (fill_1_1 (Value.int .i64 ((at' (at' p0.2 (at' a16.1 (0:Int))) a29.1).1)) rfl) rfl rfl rfl) rfl fun u44=> ?_
       have h:=ck_some h;obtain⟨hc46,h⟩:=h
       refine J.loud (Loud.appendL 2 FI64 rfl rfl rfl (Lent.ar (Lent.res 0 rfl) FI64) rfl rfl rfl rfl hc46 rfl) rfl fun u45=>J.quiet (Y.assign rfl) rfl<|J.done<|J.inN<|J.thenN ?_
       exact J.meetI ((a29.2.1++([((at' (at' p0.2 (at' a16.1 (0:Int))) a29.1).1)])),(List.set a29.2.2 (Int.toNat ((at' (at' p0.2 (at' a16.1 (0:Int))) a29.1).1)) (wI .i64 ((at' a29.2.2 (at' a16.1 (0:Int)))+(1:Int))))) (u45) h SF (SubM.cons 2 rfl (SubM.cons 2 rfl (SubM.cons 2 rfl (SubM.nil)))) (LentAll.refl _ _)
      ·have h:=ifN hp41 h
       refine J.skip<|J.inN<|J.thenN ?_
       exact J.meetI (a29.2.1,a29.2.2) (b30) h SF (SubM.cons 1 rfl (SubM.cons 1 rfl (SubM.cons 1 rfl (SubM.nil)))) (LentAll.refl _ _)
     ·clear h
      intro a36 b37 h
      unfold graph_search_k3 at h
      refine J.region<|J.quiet (Y.addW rfl rfl) rfl<|J.quiet (Y.move rfl) rfl<|J.done<|J.thenN ?_
      exact J.againI ((wI .i64 (a29.1+(1:Int))),a36.1,a36.2) (b37) h SF (SubM.refl _) (LentAll.refl _ _)
    ·have h:=ifN hp32 h
     refine J.exit<|J.thenX<|J.thenX<|J.inX<|J.inN<|J.thenN ?_
     exact J.againI (a29.2.1,a29.2.2) (b30) h SF (SubM.refl _) (LentAll.refl _ _)
   ·have h:=ifN hp19 h
    refine J.exit<|J.thenX<|J.thenX<|J.inX<|J.thenN ?_
    exact J.meetI (a16.2) (()) h SF (SubM.cons 1 rfl (SubM.nil)) (LentAll.refl _ _)
  ·clear h
   intro a10 b11 h
   unfold graph_search_k2 at h
   refine J.seq<|J.region<|J.quiet (Y.move rfl) rfl<|J.quiet (Y.assign rfl) rfl<|J.done<|J.thenN<|J.ret ?_
   obtain rfl:=Option.some.inj h
   exact J.retG1 (u3) rfl rfl (RV.tmp rfl) (SubM.refl _) LentAll.nil
end Go.Proofs.YtfbkplemadmbfaaGreatDoor
end
section
namespace Go.Proofs.YtfbkplemadmbfaaGreatDoor
open Go.Sx
def graph_Distances_k1 (fuel:Nat) (p0:List (Int)×(List (List (Int×Int)))) (p1:Int) (a3:Bool):Option (List (Int)):=
 if a3=true then(some ([]:List Int))else(Option.bind (m_graph_search fuel ((p0.1,p0.2)) p1) fun r6=>(some (r6)))
def m_graph_Distances (fuel:Nat) (p0:List (Int)×(List (List (Int×Int)))) (p1:Int):Option (List (Int)):=
 Option.bind (m_graph_Valid fuel ((p0.1,p0.2))) fun r9=>(if(!r9)=true then(graph_Distances_k1 fuel p0 p1 (true))else(if p1<(0:Int)then(graph_Distances_k1 fuel p0 p1 (true))else(graph_Distances_k1 fuel p0 p1 (decide ((List.length p0.2:Int)<=p1)))))
theorem body70:HasBody Tryz.prog 70:=Tryz.call70
theorem t_graph_Distances (fuel:Nat) {p0:List (Int)×(List (List (Int×Int)))} {p1:Int} (v0:Value)  (v1:Value)  (z2:List (Value×List (Int×Int))) (r:List (Int)) (h:m_graph_Distances fuel p0 p1=some r):
  Meets Tryz.prog 70 #[Value.agg #[v0,v1],Value.int .i64 (p1)] [Sl RI64 v0 p0.1,S2 RI64I64p v1 z2 p0.2] (fun x:Value=>x) (fun x l=>Ar EI64 x r::l) (fun _ l=>l):=by
 refine Meets.of (vs:=[Value.agg #[v0,v1],Value.int .i64 (p1)]) Tryz.func70 rfl Tryz.ntmps70 rfl fun c=> ?_
 unfold m_graph_Distances at h
 refine J.seq<|J.region<|J.loud (Loud.box (cs:=[v0,v1]) rfl rfl) rfl fun b1=>J.quiet (Y.assign rfl) rfl<|J.done<|J.thenN<|J.seq<|J.seq<|J.midI (A:=Bool) (B:=Unit) (fun a3=>graph_Distances_k1 fuel p0 p1 a3=some r) (fun a3 b4=>[(1,Value.int .i64 (p1)),(2,Value.pointer (some ⟨b1,0,none⟩)),(18,Value.bool (a3))]) (fun a3 b4=>[Blk b1 [v0,v1] 25]) (fun a3 b4=>[Sl RI64 v0 p0.1,S2 RI64I64p v1 z2 p0.2]) ?_ ?_
 ·refine J.region<|J.quiet (Y.loadBAll 0 rfl rfl rfl rfl) rfl ?_
  have h:=bnd h;obtain⟨r9,hr10,h⟩:=h
  refine J.loud (Loud.callL body32 (t_graph_Valid fuel v0 v1 z2 r9 hr10) rfl (LentAll.cons (Lent.fact 0 rfl) (LentAll.cons (Lent.fact 1 rfl) .nil)) (fun _ _=>rfl)) rfl fun x11=>J.quiet (Y.not rfl) rfl<|J.quiet (Y.move rfl) rfl ?_
  refine J.guard (by exact rfl) (by exact rfl) (fun hp12=> ?_) (fun hp12=> ?_)
  ·have h:=ifP hp12 h
   refine J.guardN rfl rfl rfl<|J.guardN rfl rfl rfl<|J.quiet (Y.pickT rfl rfl) rfl<|J.quiet (Y.move rfl) rfl<|J.guardN rfl rfl rfl<|J.guardN rfl rfl rfl<|J.guardN rfl rfl rfl<|J.guardN rfl rfl rfl<|J.guardN rfl rfl rfl<|J.quiet (Y.pickT rfl rfl) rfl<|J.done<|J.thenN ?_
   exact J.meetI (true) (()) h SF (SubM.refl _) (LentAll.refl _ _)
  ·have h:=ifBN hp12 h
   refine J.guardY rfl (Y.move rfl) rfl<|J.guardY rfl (Y.lss rfl rfl) rfl<|J.quiet (Y.pickF rfl rfl) rfl<|J.quiet (Y.move rfl) rfl ?_
   refine J.guardD (by exact rfl) (by exact rfl) (fun hp13=> ?_) (fun hp13=> ?_)
   ·have h:=ifP hp13 h
    refine J.guardN rfl rfl rfl<|J.guardN rfl rfl rfl<|J.guardN rfl rfl rfl<|J.guardN rfl rfl rfl<|J.guardN rfl rfl rfl<|J.quiet (Y.pickT rfl rfl) rfl<|J.done<|J.thenN ?_
    exact J.meetI (true) (()) h SF (SubM.refl _) (LentAll.refl _ _)
   ·have h:=ifN hp13 h
    refine J.guardY rfl (Y.move rfl) rfl<|J.guardY rfl (Y.fieldB rfl rfl rfl rfl rfl) rfl<|J.guardY rfl (Y.loadB 0 rfl rfl rfl rfl rfl) rfl<|J.guardY rfl (Y.lenN rfl (Lent.fact 1 rfl) rfl) rfl<|J.guardY rfl (Y.geq rfl rfl) rfl<|J.quiet (Y.pickF rfl rfl) rfl<|J.done<|J.thenN ?_
    exact J.meetI (decide ((List.length p0.2:Int)<=p1)) (()) h SF (SubM.refl _) (LentAll.refl _ _)
 ·clear h
  intro a3 b4 h
  unfold graph_Distances_k1 at h
  refine J.cond (by exact rfl) (fun hp5=> ?_) (fun hp5=> ?_)
  ·have h:=ifP hp5 h
   refine J.seq<|J.region<|J.quiet (Y.assign rfl) rfl<|J.done<|J.thenN<|J.ret<|J.thenR<|J.stp (Stp.nilAr EI64) ?_
   obtain rfl:=Option.some.inj h
   exact J.retG1 (Value.slice none 0 0) rfl rfl (RV.tmp rfl) (SubM.cons 0 rfl (SubM.nil)) LentAll.nil
  ·have h:=ifBN hp5 h
   refine J.skip<|J.thenN<|J.seq<|J.region<|J.quiet (Y.loadBAll 0 rfl rfl rfl rfl) rfl<|J.quiet (Y.move rfl) rfl ?_
   have h:=bnd h;obtain⟨r6,hr7,h⟩:=h
   refine J.loud (Loud.callL body79 (t_graph_search fuel v0 v1 z2 r6 hr7) rfl (LentAll.cons (Lent.fact 0 rfl) (LentAll.cons (Lent.fact 1 rfl) .nil)) (fun _ _=>rfl)) rfl fun x8=>J.quiet (Y.assign rfl) rfl<|J.done<|J.thenN<|J.ret ?_
   obtain rfl:=Option.some.inj h
   exact J.retG1 (x8) rfl rfl (RV.tmp rfl) (SubM.cons 0 rfl (SubM.nil)) LentAll.nil
end Go.Proofs.YtfbkplemadmbfaaGreatDoor
end
section
namespace Go.Proofs.YtfbkplemadmbfaaGreatDoor
open Go.Sx
def ref01_Has_k1  (a2:Bool):Option (Bool):=
 some (a2)
def m_ref01_Has (fuel:Nat) (p0:Int) (p1:Int):Option (Bool):=
 if(0:Int)<=p1 then(if p1<(32:Int)then(ck (0<=(wI .u64 p1)) (ref01_Has_k1  (decide ((bAnd .u32 (bShr .u32 p0 (wI .u64 p1)) (1:Int))=(1:Int)))))else(ref01_Has_k1  (false)))else(ref01_Has_k1  (false))
theorem body74:HasBody Tryz.prog 74:=Tryz.call74
theorem t_ref01_Has (fuel:Nat) {p0:Int} {p1:Int} (r:Bool) (h:m_ref01_Has fuel p0 p1=some r):
  Meets Tryz.prog 74 #[Value.int .u32 (p0),Value.int .i64 (p1)] [] (fun x:Unit=>Value.bool (r)) (fun x l=>l) (fun _ l=>l):=by
 refine Meets.of (vs:=[Value.int .u32 (p0),Value.int .i64 (p1)]) Tryz.func74 rfl Tryz.ntmps74 rfl fun c=> ?_
 unfold m_ref01_Has at h
 refine J.seq<|J.region<|J.quiet (Y.assign rfl) rfl<|J.done<|J.thenN<|J.seq<|J.midI (A:=Bool) (B:=Unit) (fun a2=>ref01_Has_k1  a2=some r) (fun a2 b3=>[(4,Value.bool (a2))]) (fun a2 b3=>[]) (fun a2 b3=>[]) ?_ ?_
 ·refine J.region<|J.quiet (Y.move rfl) rfl<|J.quiet (Y.geq rfl rfl) rfl<|J.quiet (Y.move rfl) rfl ?_
  refine J.guardD (by exact rfl) (by exact rfl) (fun hp4=> ?_) (fun hp4=> ?_)
  ·have h:=ifP hp4 h
   refine J.guardY rfl (Y.move rfl) rfl<|J.guardY rfl (Y.lss rfl rfl) rfl<|J.quiet (Y.pickT rfl rfl) rfl<|J.quiet (Y.move rfl) rfl ?_
   refine J.guardD (by exact rfl) (by exact rfl) (fun hp5=> ?_) (fun hp5=> ?_)
   ·have h:=ifP hp5 h
    refine J.guardY rfl (Y.move rfl) rfl<|J.guardY rfl (Y.move rfl) rfl<|J.guardY rfl (Y.conv rfl rfl rfl) rfl ?_
    have h:=ck_some h;obtain⟨hc6,h⟩:=h
    refine J.guardY rfl (Y.shr rfl rfl hc6) rfl<|J.guardY rfl (Y.and rfl rfl) rfl<|J.guardY rfl (Y.eql rfl rfl) rfl<|J.quiet (Y.pickT rfl rfl) rfl<|J.quiet (Y.assign rfl) rfl<|J.done<|J.thenN ?_
    exact J.meetI (decide ((bAnd .u32 (bShr .u32 p0 (wI .u64 p1)) (1:Int))=(1:Int))) (()) h SF (SubM.refl _) (LentAll.refl _ _)
   ·have h:=ifN hp5 h
    refine J.guardN rfl rfl rfl<|J.guardN rfl rfl rfl<|J.guardN rfl rfl rfl<|J.guardN rfl rfl rfl<|J.guardN rfl rfl rfl<|J.guardN rfl rfl rfl<|J.quiet (Y.pickF rfl rfl) rfl<|J.quiet (Y.assign rfl) rfl<|J.done<|J.thenN ?_
    exact J.meetI (false) (()) h SF (SubM.refl _) (LentAll.refl _ _)
  ·have h:=ifN hp4 h
   refine J.guardN rfl rfl rfl<|J.guardN rfl rfl rfl<|J.quiet (Y.pickF rfl rfl) rfl<|J.quiet (Y.move rfl) rfl<|J.guardN rfl rfl rfl<|J.guardN rfl rfl rfl<|J.guardN rfl rfl rfl<|J.guardN rfl rfl rfl<|J.guardN rfl rfl rfl<|J.guardN rfl rfl rfl<|J.quiet (Y.pickF rfl rfl) rfl<|J.quiet (Y.assign rfl) rfl<|J.done<|J.thenN ?_
   exact J.meetI (false) (()) h SF (SubM.refl _) (LentAll.refl _ _)
 ·clear h
  intro a2 b3 h
  unfold ref01_Has_k1 at h
  refine J.ret ?_
  obtain rfl:=Option.some.inj h
  exact J.retG1 (()) rfl rfl (RV.tmp rfl) (SubM.refl _) LentAll.nil
end Go.Proofs.YtfbkplemadmbfaaGreatDoor
end
section
namespace Go.Sx
theorem iter_eq {X R:Type} {step:X->(X->Option R)->Option R} {r:R} (I:X->Prop) (μ:X->Nat)
  (h:∀x ag,I x->(∀x',I x'->μ x'<μ x->ag x'=some r)->step x ag=some r):∀(fuel:Nat) (x:X),I x->μ x<fuel->iter step fuel x=some r:=by
 intro fuel
 induction fuel with
 |zero=>intro x _ hx;omega
 |succ k ih=>
  intro x hI hx
  exact h x _ hI fun x' hI' hlt=>ih x' hI' (by omega)
def OK {R:Type} (Q:R->Prop) (o:Option R):Prop:=∃r,o=some r∧Q r
theorem iter_ok {X R:Type} {step:X->(X->Option R)->Option R} {Q:R->Prop} (I:X->Prop) (μ:X->Nat)
  (h:∀x ag,I x->(∀x',I x'->μ x'<μ x->OK Q (ag x'))->OK Q (step x ag)):∀(fuel:Nat) (x:X),I x->μ x<fuel->OK Q (iter step fuel x):=by
 intro fuel
 induction fuel with
 |zero=>intro x _ hx;omega
 |succ k ih=>
  intro x hI hx
  exact h x _ hI fun x' hI' hlt=>ih x' hI' (by omega)
theorem ckT {β:Type} {p:Prop} [Decidable p] (hp:p) (x:Option β):ck p x=x:=if_pos hp
theorem wr {x:Int} (h1 : -9223372036854775808<=x) (h2:x<=9223372036854775807):wI .i64 x=x:=if_pos ⟨h1,h2⟩
theorem bindS {β γ:Type} {x:Option β} {y:β} {f:β->Option γ} (h:x=some y):x.bind f=f y:=by rw[h];rfl
end Go.Sx
end
section
section
namespace Go.Proofs.YtfbkplemadmbfaaGreatDoor
open Go.Sx
theorem iter_if {R:Type} {step:Int->(Int->Option R)->Option R} {K:Option R} {bad:R} (N:Nat) (p:Nat->Prop)
  (hok:∀(k:Nat) ag,k<N->p k->step k ag=ag ((k:Int)+1)) (hbad:∀(k:Nat) ag,k<N->¬p k->step k ag=some bad) (hend:∀ag,step N ag=K):
  ∀(fuel:Nat),N<fuel->((∀k,k<N->p k)->iter step fuel 0=K)∧(¬(∀k,k<N->p k)->iter step fuel 0=some bad):=by
 intro fuel hf
 have key:∀(d a fuel:Nat),a+d=N->d<fuel->((∀k,a<=k->k<N->p k)->iter step fuel (a:Int)=K)∧(¬(∀k,a<=k->k<N->p k)->iter step fuel (a:Int)=some bad):=by
  intro d
  induction d with
  |zero=>
   intro a fuel ha hf
   obtain rfl:a=N:=by omega
   cases fuel with
   |zero=>omega
   |succ f=>exact⟨fun _=>hend _,fun h=>absurd (fun k h1 h2=>by omega) h⟩
  | succ d ih =>
   intro a fuel ha hf
   cases fuel with
   |zero=>omega
   | succ f =>
    obtain⟨i1,i2⟩:=ih (a+1) f (by omega) (by omega)
    have e:((a+1:Nat):Int)=(a:Int)+1:=by omega
    rw[e]at i1 i2
    by_cases hp:p a
    ·have hs:iter step (f+1) (a:Int)=iter step f ((a:Int)+1):=hok a _ (by omega) hp
     rw[hs]
     refine⟨fun h=>i1 fun k h1 h2=>h k (by omega) h2,fun h=>i2 fun h'=>h fun k h1 h2=> ?_⟩
     by_cases hk:k=a
     ·subst hk;exact hp
     ·exact h' k (by omega) h2
    ·exact⟨fun h=>absurd (h a (Nat.le_refl _) (by omega)) hp,fun _=>hbad a _ (by omega) hp⟩
 obtain⟨h1,h2⟩:=key N 0 fuel (by omega) hf
 exact⟨fun h=>h1 fun k _ hk=>h k hk,fun h=>h2 fun h'=>h fun k hk=>h' k (by omega) hk⟩
abbrev GR:=List Int×List (List (Int×Int))
theorem refIn_eq (fuel:Nat) (v lo hi:Int):m_ref01_In fuel v lo hi=some (decide (lo<=v∧v<=hi)):=by
 unfold m_ref01_In ref01_In_k1
 by_cases h:lo<=v
 ·rw[if_pos h];congr 1;exact decide_eq_decide.2 ⟨fun h2=>⟨h,h2⟩,fun h2=>h2.2⟩
 ·rw[if_neg h,decide_eq_false (fun h2=>h h2.1)]
abbrev row (g:GR) (v:Nat):List (Int×Int):=at' g.2 (v:Int)
abbrev idOf (g:GR) (v:Nat):Int:=at' g.1 (v:Int)
abbrev lnk (l:List (Int×Int)) (i:Nat):Int×Int:=at' l (i:Int)
def light (g:GR):Prop:=g.1.length<=30∧g.2.length<=30∧∀v,v<g.2.length->(row g v).length<=30
def LinkOk (l:List (Int×Int)) (v n i:Nat):Prop:=(0<=(lnk l i).1∧(lnk l i).1<=(n:Int) - 1)∧(lnk l i).1≠v∧(1<=(lnk l i).2∧(lnk l i).2<=15)∧∀k,k<i->(lnk l k).1≠(lnk l i).1
def LinksOk (l:List (Int×Int)) (v n:Nat):Prop:=∀i,i<l.length->LinkOk l v n i
theorem linksValid_eq (l:List (Int×Int)) (v n:Nat) (hl:l.length<=30) (hn:n<=30):(LinksOk l v n->m_ref01_linksValid 1000 l v n=some true)∧(¬LinksOk l v n->m_ref01_linksValid 1000 l v n=some false):=by
 unfold m_ref01_linksValid
 have inner:∀(i:Nat) (ag:Int->Option Bool),i<l.length->((∀k,k<i->(lnk l k).1≠(lnk l i).1)->iter (ref01_linksValid_s2 l i ag) 1000 0=ag ((i:Int)+1))∧(¬(∀k,k<i->(lnk l k).1≠(lnk l i).1)->iter (ref01_linksValid_s2 l i ag) 1000 0=some false):=by
  intro i ag hi
  refine iter_if i _ (fun k ag2 hk hp=> ?_) (fun k ag2 hk hp=> ?_) (fun ag2=> ?_) 1000 (by omega)
  ·unfold ref01_linksValid_s2
   rw[if_pos (by omega),ckT (by omega),ckT (by omega),if_neg hp,wr (by omega) (by omega)]
  ·unfold ref01_linksValid_s2
   rw[if_pos (by omega),ckT (by omega),ckT (by omega),if_pos (Decidable.not_not.1 hp)]
  ·unfold ref01_linksValid_s2 ref01_linksValid_k2
   rw[if_neg (by omega),wr (by omega) (by omega)]
 refine iter_if l.length (LinkOk l v n) (fun i ag hi hp=> ?_) (fun i ag hi hp=> ?_) (fun ag=> ?_) 1000 (by omega)
 ·obtain⟨h1,h2,h3,h4⟩:=hp
  unfold ref01_linksValid_s1 ref01_linksValid_k3
  rw[if_pos (by omega),ckT (by omega),wr (x:=(n:Int) - 1) (by omega) (by omega),refIn_eq,decide_eq_true h1,bindS rfl,if_neg (by simp),ckT (by omega),if_neg h2,ckT (by omega),refIn_eq,decide_eq_true h3,bindS rfl,if_neg (by simp)]
  exact(inner i ag hi).1 h4
 ·unfold ref01_linksValid_s1 ref01_linksValid_k3
  rw[if_pos (by omega),ckT (by omega),wr (x:=(n:Int) - 1) (by omega) (by omega),refIn_eq]
  by_cases h1:0<=(lnk l i).1∧(lnk l i).1<=(n:Int) - 1
  ·rw[decide_eq_true h1,bindS rfl,if_neg (by simp),ckT (by omega)]
   by_cases h2:(lnk l i).1=v
   ·rw[if_pos h2];rfl
   ·rw[if_neg h2,ckT (by omega),refIn_eq]
    by_cases h3:1<=(lnk l i).2∧(lnk l i).2<=15
    ·rw[decide_eq_true h3,bindS rfl,if_neg (by simp)]
     exact(inner i ag hi).2 fun h4=>hp ⟨h1,h2,h3,h4⟩
    ·rw[decide_eq_false h3];rfl
  ·rw[decide_eq_false h1];rfl
 ·unfold ref01_linksValid_s1 ref01_linksValid_k1
  rw[if_neg (by omega)]
def portOf (l:List (Int×Int)) (u:Int):Int:=match l.findIdx? (fun x=>decide (x.1=u))with
 |some i=>i
 |none=> -1
theorem portOf_some {l:List (Int×Int)} {u:Int} (i:Nat) (hi:i<l.length) (hu:(lnk l i).1=u) (hf:∀k,k<i->(lnk l k).1≠u):portOf l u=i:=by
 have:l.findIdx? (fun x=>decide (x.1=u))=some i:=by
  rw[List.findIdx?_eq_some_iff_getElem]
  have e:∀k (hk:k<l.length),lnk l k=l[k]:=fun k hk=>by rw[lnk,at'_nat,List.getD_eq_getElem?_getD,List.getElem?_eq_getElem hk];rfl
  refine⟨hi,by rw[<-e i hi];simpa using hu,fun k hk=> ?_⟩
  have:=hf k hk
  rw[e k (by omega)]at this
  simpa using this
 rw[portOf,this]
theorem portOf_none {l:List (Int×Int)} {u:Int} (hf:∀k,k<l.length->(lnk l k).1≠u):portOf l u = -1:=by
 have:l.findIdx? (fun x=>decide (x.1=u))=none:=by
  rw[List.findIdx?_eq_none_iff]
  intro x hx
  obtain⟨k,hk,rfl⟩:=List.getElem_of_mem hx
  have:=hf k hk
  rw[lnk,at'_nat,List.getD_eq_getElem?_getD,List.getElem?_eq_getElem hk]at this
  simpa using this
 rw[portOf,this]
theorem portOf_cases (l:List (Int×Int)) (u:Int):(∃i,i<l.length∧(lnk l i).1=u∧(∀k,k<i->(lnk l k).1≠u)∧portOf l u=i)∨((∀k,k<l.length->(lnk l k).1≠u)∧portOf l u = -1):=by
 by_cases h:∀k,k<l.length->(lnk l k).1≠u
 ·exact .inr ⟨h,portOf_none h⟩
 ·left
  have hex:∃k,k<l.length∧(lnk l k).1=u:=by
   apply Classical.byContradiction
   intro hc
   exact h fun k hk he=>hc ⟨k,hk,he⟩
  obtain⟨k,hk,hku⟩:=hex
  have:∀m,(∃k,k<=m∧k<l.length∧(lnk l k).1=u)->∃i,i<l.length∧(lnk l i).1=u∧∀k,k<i->(lnk l k).1≠u:=by
   intro m
   induction m with
   |zero=>rintro⟨k,h1,h2,h3⟩;exact⟨k,h2,h3,fun j hj=>by omega⟩
   |succ m ih=>
    rintro⟨k,h1,h2,h3⟩
    by_cases hlt:∃j,j<=m∧j<l.length∧(lnk l j).1=u
    ·exact ih hlt
    ·exact⟨k,h2,h3,fun j hj he=>hlt ⟨j,by omega,by omega,he⟩⟩
  obtain⟨i,h1,h2,h3⟩:=this k ⟨k,Nat.le_refl _,hk,hku⟩
  exact⟨i,h1,h2,h3,portOf_some i h1 h2 h3⟩
theorem refPort_eq (g:GR) (v:Nat) (u:Int) (hv:v<g.2.length) (hl:(row g v).length<=30):m_ref01_Port 1000 g v u=some (portOf (row g v) u):=by
 unfold m_ref01_Port
 rcases portOf_cases (row g v) u with⟨i,hi,hu,hf,he⟩|⟨hf,he⟩
 ·rw[he]
  refine iter_eq (fun x:Int=>∃k:Nat,x=k∧k<=i) (fun x=>31 - x.toNat) ?_ 1000 _ ⟨0,rfl,by omega⟩ (by omega)
  rintro x ag ⟨k,rfl,hk⟩ hag
  unfold ref01_Port_s1
  rw[ckT (by omega),if_pos (show(k:Int)<((row g v).length:Int) by omega),ckT (by omega),ckT (show 0<=(k:Int)∧(k:Int)<((row g v).length:Int) by omega)]
  by_cases e:k=i
  ·subst e;exact if_pos hu
  ·rw[if_neg (hf k (by omega)),wr (by omega) (by omega)]
   exact hag _ ⟨k+1,by omega,by omega⟩ (by omega)
 ·rw[he]
  refine iter_eq (fun x:Int=>∃k:Nat,x=k∧k<=(row g v).length) (fun x=>31 - x.toNat) ?_ 1000 _ ⟨0,rfl,by omega⟩ (by omega)
  rintro x ag ⟨k,rfl,hk⟩ hag
  unfold ref01_Port_s1
  rw[ckT (by omega)]
  by_cases e:k<(row g v).length
  ·rw[if_pos (show(k:Int)<((row g v).length:Int) by omega),ckT (by omega),ckT (show 0<=(k:Int)∧(k:Int)<((row g v).length:Int) by omega),if_neg (hf k e),wr (by omega) (by omega)]
   exact hag _ ⟨k+1,by omega,by omega⟩ (by omega)
  ·rw[if_neg (show¬(k:Int)<((row g v).length:Int) by omega)];rfl
end Go.Proofs.YtfbkplemadmbfaaGreatDoor
end
section
namespace Go.Proofs.YtfbkplemadmbfaaGreatDoor
open Go.Sx
theorem iter_ifS {X R:Type} {step:X->(X->Option R)->Option R} {K:X->Option R} {bad:R} (N:Nat) (p:Nat->Prop) (I:Nat->X->Prop)
  (hok:∀(k:Nat) x ag,k<N->I k x->p k->∃x',I (k+1) x'∧step x ag=ag x') (hbad:∀(k:Nat) x ag,k<N->I k x->¬p k->step x ag=some bad) (hend:∀x ag,I N x->step x ag=K x):
  ∀(fuel:Nat) (x:X),I 0 x->N<fuel->((∀k,k<N->p k)->∃x',I N x'∧iter step fuel x=K x')∧(¬(∀k,k<N->p k)->iter step fuel x=some bad):=by
 intro fuel x hI hf
 have key:∀(d a fuel:Nat) (x:X),a+d=N->d<fuel->I a x->((∀k,a<=k->k<N->p k)->∃x',I N x'∧iter step fuel x=K x')∧(¬(∀k,a<=k->k<N->p k)->iter step fuel x=some bad):=by
  intro d
  induction d with
  |zero=>
   intro a fuel x ha hf hI
   obtain rfl:a=N:=by omega
   cases fuel with
   |zero=>omega
   |succ f=>exact⟨fun _=>⟨x,hI,hend _ _ hI⟩,fun h=>absurd (fun k h1 h2=>by omega) h⟩
  | succ d ih =>
   intro a fuel x ha hf hI
   cases fuel with
   |zero=>omega
   | succ f =>
    by_cases hp:p a
    ·obtain⟨x',hI',hs⟩:=hok a x (iter step f) (by omega) hI hp
     have hs:iter step (f+1) x=iter step f x':=hs
     obtain⟨i1,i2⟩:=ih (a+1) f x' (by omega) (by omega) hI'
     rw[hs]
     refine⟨fun h=>i1 fun k h1 h2=>h k (by omega) h2,fun h=>i2 fun h'=>h fun k h1 h2=> ?_⟩
     by_cases hk:k=a
     ·subst hk;exact hp
     ·exact h' k (by omega) h2
    ·exact⟨fun h=>absurd (h a (Nat.le_refl _) (by omega)) hp,fun _=>hbad a x _ (by omega) hI hp⟩
 obtain⟨h1,h2⟩:=key N 0 fuel x (by omega) hf hI
 exact⟨fun h=>h1 fun k _ hk=>h k hk,fun h=>h2 fun h'=>h fun k hk=>h' k (by omega) hk⟩
def SymAt (g:GR) (v i:Nat):Prop:=∃j,j<(at' g.2 (lnk (row g v) i).1).length∧(lnk (at' g.2 (lnk (row g v) i).1) j).1=v∧(lnk (at' g.2 (lnk (row g v) i).1) j).2=(lnk (row g v) i).2
structure NodeOk (g:GR) (v:Nat):Prop where
 id:0<=idOf g v∧idOf g v<=255
 deg:(row g v).length<g.2.length
 links:LinksOk (row g v) v g.2.length
 ids:∀k,k<v->idOf g k≠idOf g v
structure VG (g:GR):Prop where
 n1:1<=g.2.length
 n24:g.2.length<=24
 len:g.1.length=g.2.length
 node:∀v,v<g.2.length->NodeOk g v
 sym:∀v,v<g.2.length->∀i,i<(row g v).length->SymAt g v i
theorem refValid_eq (g:GR) (hl:light g):(VG g->m_ref01_Valid 1000 g=some true)∧(¬VG g->m_ref01_Valid 1000 g=some false):=by
 obtain⟨l1,l2,l3⟩:=hl
 unfold m_ref01_Valid
 rw[refIn_eq,bindS rfl]
 by_cases h1:1<=g.2.length∧g.2.length<=24
 rotate_left
 ·rw[decide_eq_false (by omega)]
  exact⟨fun h=>absurd ⟨h.n1,h.n24⟩ h1,fun _=>rfl⟩
 rw[decide_eq_true (by omega),if_neg (by simp)]
 by_cases h2:g.1.length=g.2.length
 rotate_left
 ·rw[decide_eq_true (by omega)]
  exact⟨fun h=>absurd h.len h2,fun _=>rfl⟩
 rw[decide_eq_false (by omega)]
 unfold ref01_Valid_k1
 rw[if_neg (by simp)]
 have hids:∀(v:Nat) (ag:Int->Option Bool),v<g.2.length->((∀k,k<v->idOf g k≠idOf g v)->iter (ref01_Valid_s4 g v ag) 1000 0=ag ((v:Int)+1))∧(¬(∀k,k<v->idOf g k≠idOf g v)->iter (ref01_Valid_s4 g v ag) 1000 0=some false):=by
  intro v ag hv
  refine iter_if v _ (fun k ag2 hk hp=> ?_) (fun k ag2 hk hp=> ?_) (fun ag2=> ?_) 1000 (by omega)
  ·unfold ref01_Valid_s4
   rw[if_pos (by omega),ckT (by omega),ckT (by omega),if_neg hp,wr (by omega) (by omega)]
  ·unfold ref01_Valid_s4
   rw[if_pos (by omega),ckT (by omega),ckT (by omega),if_pos (Decidable.not_not.1 hp)]
  ·unfold ref01_Valid_s4 ref01_Valid_k6
   rw[if_neg (by omega),wr (by omega) (by omega)]
 have outer:=iter_if (step:=ref01_Valid_s3 1000 g) (K:=ref01_Valid_k2 1000 g ()) (bad:=false) g.2.length (NodeOk g) (fun v ag hv hp=> ?_) (fun v ag hv hp=> ?_) (fun ag=> ?_) 1000 (by omega)
 rotate_left
 ·unfold ref01_Valid_s3 ref01_Valid_k7
  rw[if_pos (by omega),ckT (by omega),refIn_eq,decide_eq_true hp.id,bindS rfl,if_neg (by simp),ckT (by omega),if_neg (show¬((g.2.length:Int)<=((row g v).length:Int))from by have:=hp.deg;omega),ckT (by omega),(linksValid_eq (row g v) v g.2.length (l3 v hv) l2).1 hp.links,bindS rfl,if_neg (by simp)]
  exact(hids v ag hv).1 hp.ids
 ·unfold ref01_Valid_s3 ref01_Valid_k7
  rw[if_pos (by omega),ckT (by omega),refIn_eq]
  by_cases a1:0<=idOf g v∧idOf g v<=255
  rotate_left
  ·rw[decide_eq_false a1];rfl
  rw[decide_eq_true a1,bindS rfl,if_neg (by simp),ckT (by omega)]
  by_cases a2:(row g v).length<g.2.length
  rotate_left
  ·rw[if_pos (show(g.2.length:Int)<=((row g v).length:Int) by omega)];rfl
  rw[if_neg (show¬(g.2.length:Int)<=((row g v).length:Int) by omega),ckT (by omega)]
  by_cases a3:LinksOk (row g v) v g.2.length
  rotate_left
  ·rw[(linksValid_eq (row g v) v g.2.length (l3 v hv) l2).2 a3];rfl
  rw[(linksValid_eq (row g v) v g.2.length (l3 v hv) l2).1 a3,bindS rfl,if_neg (by simp)]
  exact(hids v ag hv).2 fun a4=>hp ⟨a1,a2,a3,a4⟩
 ·unfold ref01_Valid_s3
  rw[if_neg (by omega)]
 by_cases hn:∀v,v<g.2.length->NodeOk g v
 rotate_left
 ·exact⟨fun h=>absurd h.node hn,fun _=>outer.2 hn⟩
 rw[outer.1 hn]
 unfold ref01_Valid_k2
 have inner:∀(v:Nat) (ag:Int->Option Bool),v<g.2.length->((∀i,i<(row g v).length->SymAt g v i)->iter (ref01_Valid_s2 1000 g v ag) 1000 0=ag ((v:Int)+1))∧(¬(∀i,i<(row g v).length->SymAt g v i)->iter (ref01_Valid_s2 1000 g v ag) 1000 0=some false):=by
  intro v ag hv
  have hv3:=l3 v hv
  have body:∀(i:Nat) ag2,i<(row g v).length->(SymAt g v i->ref01_Valid_s2 1000 g v ag i ag2=ag2 ((i:Int)+1))∧(¬SymAt g v i->ref01_Valid_s2 1000 g v ag i ag2=some false):=by
   intro i ag2 hi
   unfold ref01_Valid_s2
   rw[ckT (by omega),if_pos (show(i:Int)<((row g v).length:Int) by omega),ckT (by omega),ckT (show 0<=(i:Int)∧(i:Int)<((row g v).length:Int) by omega)]
   have hu:=((hn v hv).links i hi).1
   obtain⟨u,hu'⟩:∃u:Nat,(lnk (row g v) i).1=u:=⟨(lnk (row g v) i).1.toNat,by omega⟩
   have hun:u<g.2.length:=by omega
   unfold SymAt
   rw[show(at' (at' g.2 (v:Int)) (i:Int))=lnk (row g v) i from rfl,hu',refPort_eq g u v hun (l3 u hun),bindS rfl]
   have hlk:=(hn u hun).links
   rcases portOf_cases (row g u) v with⟨j,hj,hjv,hjf,he⟩|⟨hf,he⟩
   ·rw[he,if_neg (by omega),ckT (by omega),ckT (show 0<=(j:Int)∧(j:Int)<((at' g.2 (u:Int)).length:Int)from⟨by omega,by have:j<(row g u).length:=hj;exact_mod_cast this⟩)]
    unfold ref01_Valid_k5
    constructor
    ·rintro⟨k,hk,hkv,hkw⟩
     have hkj:k=j:=by
      rcases Nat.lt_trichotomy k j with h|h|h
      ·exact absurd hkv (hjf k h)
      ·exact h
      ·exact absurd (hjv.trans hkv.symm) ((hlk k hk).2.2.2 j h)
     subst hkj
     rw[if_neg (by rw[decide_eq_false];simp;exact fun h=>h hkw),wr (by omega) (by omega)]
    ·intro h
     rw[if_pos]
     exact decide_eq_true fun hw=>h ⟨j,hj,hjv,hw⟩
   ·rw[he,if_pos (by decide)]
    exact⟨fun⟨j,hj,hjv,_⟩=>absurd hjv (hf j hj),fun _=>rfl⟩
  refine iter_if (row g v).length _ (fun i ag2 hi hp=>(body i ag2 hi).1 hp) (fun i ag2 hi hp=>(body i ag2 hi).2 hp) (fun ag2=> ?_) 1000 (by omega)
  unfold ref01_Valid_s2 ref01_Valid_k4
  rw[ckT (by omega),if_neg (show¬(((row g v).length:Nat):Int)<((row g v).length:Int) by omega),wr (by omega) (by omega)]
 have outer2:=iter_if (step:=ref01_Valid_s1 1000 g) (K:=some true) (bad:=false) g.2.length (fun v=>∀i,i<(row g v).length->SymAt g v i) (fun v ag hv hp=> ?_) (fun v ag hv hp=> ?_) (fun ag=> ?_) 1000 (by omega)
 ·exact⟨fun h=>outer2.1 h.sym,fun h=>outer2.2 fun hs=>h ⟨h1.1,h1.2,h2,hn,hs⟩⟩
 ·unfold ref01_Valid_s1
  rw[if_pos (by omega)]
  exact(inner v ag hv).1 hp
 ·unfold ref01_Valid_s1
  rw[if_pos (by omega)]
  exact(inner v ag hv).2 hp
 ·unfold ref01_Valid_s1 ref01_Valid_k3
  rw[if_neg (by omega)]
theorem at_set {α:Type} [Inhabited α] (l:List α) (i k:Nat) (y:α) (hi:i<l.length):at' (l.set i y) (k:Int)=if k=i then y else at' l (k:Int):=by
 rw[at'_nat,at'_nat,List.getD_eq_getElem?_getD,List.getD_eq_getElem?_getD,List.getElem?_set]
 by_cases h:i=k
 ·rw[if_pos h,if_pos h.symm,if_pos (by omega)];rfl
 ·rw[if_neg h,if_neg (Ne.symm h)]
def IdOk (l:List Int) (k:Nat):Prop:=(0<=at' l (k:Int)∧at' l (k:Int)<=255)∧∀j,j<k->at' l (j:Int)≠at' l (k:Int)
theorem differentIDs_eq (l:List Int) (hl:l.length<=30):((∀k,k<l.length->IdOk l k)->m_graph_DifferentIDs 1000 l=some true)∧(¬(∀k,k<l.length->IdOk l k)->m_graph_DifferentIDs 1000 l=some false):=by
 unfold m_graph_DifferentIDs
 have key:=iter_ifS (step:=graph_DifferentIDs_s1 l) (K:=fun _=>some true) (bad:=false) l.length (IdOk l) (fun k x=>x.1=(k:Int)∧x.2.length=256∧∀z:Nat,z<256->(at' x.2 (z:Int)=true↔∃j,j<k∧at' l (j:Int)=(z:Int))) ?_ ?_ ?_ 1000 ((0:Int),(List.replicate 256 false)) ⟨rfl,List.length_replicate ..,fun z hz=> ?_⟩ (by omega)
 ·exact⟨fun h=>by obtain⟨x,_,hx⟩:=key.1 h;exact hx,key.2⟩
 ·rintro k ⟨x1,x2⟩ ag hk ⟨hx,hlen,hs⟩ ⟨hr,hd⟩
  dsimp only at hx hlen hs
  subst hx
  obtain⟨z,hz⟩:∃z:Nat,at' l (k:Int)=z:=⟨(at' l (k:Int)).toNat,by omega⟩
  have hz2:z<256:=by omega
  have hno:¬at' x2 (z:Int)=true:=by
   rw[hs z hz2]
   rintro⟨j,hj,he⟩
   exact hd j hj (he.trans hz.symm)
  refine⟨((k:Int)+1,x2.set z true),⟨by simp,by simp[hlen],fun y hy=> ?_⟩,?_⟩
  ·dsimp only
   rw[at_set _ _ _ _ (by omega)]
   by_cases hyz:y=z
   ·subst hyz
    rw[if_pos rfl]
    exact⟨fun _=>⟨k,by omega,hz⟩,fun _=>rfl⟩
   ·rw[if_neg hyz,hs y hy]
    constructor
    ·rintro⟨j,hj,he⟩;exact⟨j,by omega,he⟩
    ·rintro⟨j,hj,he⟩
     by_cases hjk:j=k
     ·subst hjk;rw[hz]at he;omega
     ·exact⟨j,by omega,he⟩
  ·unfold graph_DifferentIDs_s1 graph_DifferentIDs_k2
   dsimp only
   rw[if_pos (by omega),ckT (by omega),hz,if_neg (by omega),if_neg (by omega),ckT ⟨by omega,hlen⟩,if_neg hno,ckT ⟨by omega,hlen⟩,wr (by omega) (by omega)]
   rfl
 ·rintro k ⟨x1,x2⟩ ag hk ⟨hx,hlen,hs⟩ hp
  dsimp only at hx hlen hs
  subst hx
  unfold graph_DifferentIDs_s1 graph_DifferentIDs_k2
  dsimp only
  rw[if_pos (by omega),ckT (by omega)]
  by_cases h1:at' l (k:Int)<0
  ·rw[if_pos h1,if_pos rfl]
  rw[if_neg h1]
  by_cases h2:255<at' l (k:Int)
  ·rw[if_pos h2,if_pos rfl]
  rw[if_neg h2]
  obtain⟨z,hz⟩:∃z:Nat,at' l (k:Int)=z:=⟨(at' l (k:Int)).toNat,by omega⟩
  rw[hz,ckT ⟨by omega,hlen⟩,if_pos]
  rw[hs z (by omega)]
  apply Classical.byContradiction
  intro hc
  exact hp ⟨by omega,fun j hj he=>hc ⟨j,hj,he.trans hz⟩⟩
 ·rintro⟨x1,x2⟩ ag ⟨hx,_,_⟩
  dsimp only at hx
  subst hx
  unfold graph_DifferentIDs_s1 graph_DifferentIDs_k1
  dsimp only
  rw[if_neg (by omega)]
 ·rw[show at' (List.replicate 256 false) (z:Int)=false by rw[at'_nat,List.getD_eq_getElem?_getD,List.getElem?_replicate,if_pos hz];rfl]
  exact⟨fun h=>(by cases h),fun⟨j,hj,_⟩=>(by omega)⟩
theorem mget_mset {κ ν:Type} [DecidableEq κ] (k k':κ) (v:ν):∀l:List (κ×ν),mget k' (mset k v l)=if k'=k then some v else mget k' l
 | []=>by simp only[mset,mget]
 | x :: xs => by
  simp only[mset]
  by_cases h:k=x.1
  ·rw[if_pos h];simp only[mget]
   by_cases h2:k'=k
   ·rw[if_pos h2,if_pos h2]
   ·rw[if_neg h2,if_neg h2,if_neg (fun h3=>h2 (h3.trans h.symm))]
  ·rw[if_neg h];simp only[mget]
   by_cases h2:k'=x.1
   ·rw[if_pos h2,if_neg (fun h3=>h (h3.symm.trans h2)),if_pos h2]
   ·rw[if_neg h2,mget_mset k k' v xs]
    by_cases h3:k'=k
    ·rw[if_pos h3,if_pos h3]
    ·rw[if_neg h3,if_neg h3,if_neg h2]
theorem mem_mset {κ ν:Type} [DecidableEq κ] {k:κ} {v:ν} {z:κ×ν} {l:List (κ×ν)} (h0:mget k l=none):z∈mset k v l↔z=(k,v)∨z∈l:=by
 rw[mset_none k v l h0]
 simp[or_comm]
theorem mget_none {κ ν:Type} [DecidableEq κ] {k:κ}:∀{l:List (κ×ν)},(∀v,(k,v)∉l)->mget k l=none
 | [],_=>rfl
 |x::xs,h=>by
  simp only[mget]
  rw[if_neg (fun e=>h x.2 (by rw[e];exact List.mem_cons_self ..))]
  exact mget_none fun v hv=>h v (List.mem_cons_of_mem _ hv)
theorem mget_none_mem {κ ν:Type} [DecidableEq κ] {k:κ} {v:ν}:∀{l:List (κ×ν)},mget k l=none->(k,v)∉l
 | [],_=>by simp
 | x :: xs, h => by
  simp only[mget]at h
  by_cases e:k=x.1
  ·rw[if_pos e]at h;cases h
  ·rw[if_neg e]at h
   intro hm
   rcases List.mem_cons.1 hm with h2|h2
   ·exact e (by rw[<-h2])
   ·exact mget_none_mem h h2
theorem mget_some {κ ν:Type} [DecidableEq κ] {k:κ} {v:ν}:∀{l:List (κ×ν)},mget k l=some v->(k,v)∈l
 |x::xs,h=>by
  simp only[mget]at h
  by_cases e:k=x.1
  ·rw[if_pos e]at h;cases h;rw[e];exact List.mem_cons_self ..
  ·rw[if_neg e]at h;exact List.mem_cons_of_mem _ (mget_some h)
theorem mrun_all {κ ν:Type} (p:κ×ν->Prop) [DecidablePred p]:∀l:List (κ×ν),mrun (fun kv x=>if p kv then some false else x) (some true) l=some (decide (∀z∈l,¬p z))
 | []=>by simp[mrun]
 |x::xs=>by
  show(if p x then some false else mrun _ (some true) xs)=_
  rw[mrun_all p xs]
  by_cases h:p x
  ·rw[if_pos h];congr 1;symm;exact decide_eq_false fun h2=>h2 x (List.mem_cons_self ..) h
  ·rw[if_neg h];congr 1;apply decide_eq_decide.2;simp[h]
def Read (ps:List (List (Int×Int))) (v i:Nat) (z:(Int×Int)×Int):Prop:=∃a b:Nat,(a<v∨(a=v∧b<i))∧b<(at' ps (a:Int)).length∧z=(((a:Int),(lnk (at' ps (a:Int)) b).1),(lnk (at' ps (a:Int)) b).2)
def SymPs (ps:List (List (Int×Int))):Prop:=(∀v,v<ps.length->LinksOk (at' ps (v:Int)) v ps.length)∧∀v,v<ps.length->∀i,i<(at' ps (v:Int)).length->SymAt ([],ps) v i
theorem symmetric_eq (ps:List (List (Int×Int))) (hn:ps.length<=30) (hd:∀v,v<ps.length->(at' ps (v:Int)).length<=30):(SymPs ps->m_graph_symmetric 1000 ps=some true)∧(¬SymPs ps->m_graph_symmetric 1000 ps=some false):=by
 unfold m_graph_symmetric
 have inner:∀(v:Nat) (m:List ((Int×Int)×Int)) ag,v<ps.length->(∀z,z∈m↔Read ps v 0 z)->
   (LinksOk (at' ps (v:Int)) v ps.length->∃m',(∀z,z∈m'↔Read ps (v+1) 0 z)∧iter (graph_symmetric_s3 ps ((v:Int),m) ag) 1000 ((0:Int),m)=ag ((v:Int)+1,m'))∧
   (¬LinksOk (at' ps (v:Int)) v ps.length->iter (graph_symmetric_s3 ps ((v:Int),m) ag) 1000 ((0:Int),m)=some false):=by
  intro v m ag hv hm
  have hdv:=hd v hv
  have key:=iter_ifS (step:=graph_symmetric_s3 ps ((v:Int),m) ag) (K:=fun x=>ag ((v:Int)+1,x.2)) (bad:=false) (at' ps (v:Int)).length (LinkOk (at' ps (v:Int)) v ps.length) (fun i x=>x.1=(i:Int)∧∀z,z∈x.2↔Read ps v i z) ?_ ?_ ?_ 1000 ((0:Int),m) ⟨rfl,hm⟩ (by omega)
  ·refine⟨fun h=> ?_,fun h=>key.2 h⟩
   obtain⟨x,⟨hx1,hx2⟩,hx⟩:=key.1 h
   refine⟨x.2,fun z=>(hx2 z).trans ⟨?_,?_⟩,hx⟩
   ·rintro⟨a,b,h1,h2,h3⟩;exact⟨a,b,by omega,h2,h3⟩
   ·rintro⟨a,b,h1,h2,h3⟩
    refine⟨a,b,?_,h2,h3⟩
    by_cases ha:a=v
    ·subst ha;exact .inr ⟨rfl,h2⟩
    ·omega
  ·rintro i ⟨x1,x2⟩ ag2 hi ⟨hx,hs⟩ ⟨p1,p2,p3,p4⟩
   dsimp only at hx hs
   subst hx
   have hg:mget (((v:Int),(lnk (at' ps (v:Int)) i).1)) x2=none:=by
    apply mget_none
    intro w hw
    obtain⟨a,b,h1,h2,h3⟩:=(hs _).1 hw
    simp only[Prod.mk.injEq]at h3
    obtain⟨⟨h4,h5⟩,_⟩:=h3
    have:a=v:=by omega
    subst this
    have hb:b<i:=by omega
    exact p4 b hb h5.symm
   refine⟨((i:Int)+1,mset (((v:Int),(lnk (at' ps (v:Int)) i).1)) (lnk (at' ps (v:Int)) i).2 x2),⟨by simp,fun z=> ?_⟩,?_⟩
   ·dsimp only
    rw[mem_mset hg,hs]
    constructor
    ·rintro(rfl|⟨a,b,h1,h2,h3⟩)
     ·exact⟨v,i,.inr ⟨rfl,by omega⟩,hi,rfl⟩
     ·exact⟨a,b,by omega,h2,h3⟩
    ·rintro⟨a,b,h1,h2,h3⟩
     by_cases hab:a=v∧b=i
     ·left;rw[h3,hab.1,hab.2]
     ·right;exact⟨a,b,by omega,h2,h3⟩
   ·replace p1:0<=(at' (at' ps (v:Int)) (i:Int)).1∧(at' (at' ps (v:Int)) (i:Int)).1<=(ps.length:Int) - 1:=p1
    replace p3:1<=(at' (at' ps (v:Int)) (i:Int)).2∧(at' (at' ps (v:Int)) (i:Int)).2<=15:=p3
    unfold graph_symmetric_s3 graph_symmetric_k3 graph_symmetric_k4
    dsimp only
    rw[if_pos (by omega),ckT (by omega),if_neg (by omega),if_neg (by omega),if_neg (by rw[decide_eq_false p2];simp),if_neg (by omega),if_neg (by rw[decide_eq_false (by omega)];simp),hg,if_neg (by simp),wr (by omega) (by omega)]
  ·rintro i ⟨x1,x2⟩ ag2 hi ⟨hx,hs⟩ hp
   dsimp only at hx hs
   subst hx
   unfold graph_symmetric_s3 graph_symmetric_k3 graph_symmetric_k4
   dsimp only
   rw[if_pos (by omega),ckT (by omega)]
   by_cases h1:(lnk (at' ps (v:Int)) i).1<0
   ·rw[if_pos h1,if_pos rfl]
   rw[if_neg h1]
   by_cases h2:(ps.length:Int)<=(lnk (at' ps (v:Int)) i).1
   ·rw[if_pos h2,if_pos rfl]
   rw[if_neg h2]
   by_cases h3:(lnk (at' ps (v:Int)) i).1=v
   ·rw[if_pos (decide_eq_true h3)]
   rw[if_neg (by rw[decide_eq_false h3];simp)]
   by_cases h4:(lnk (at' ps (v:Int)) i).2<1
   ·rw[if_pos h4,if_pos rfl]
   rw[if_neg h4]
   by_cases h5:15<(lnk (at' ps (v:Int)) i).2
   ·rw[if_pos (decide_eq_true h5)]
   rw[if_neg (by rw[decide_eq_false h5];simp)]
   have:∃k,k<i∧(lnk (at' ps (v:Int)) k).1=(lnk (at' ps (v:Int)) i).1:=by
    apply Classical.byContradiction
    intro hc
    exact hp ⟨by omega,h3,by omega,fun k hk he=>hc ⟨k,hk,he⟩⟩
   obtain⟨k,hk,he⟩:=this
   have hin:=(hs _).2 ⟨v,k,.inr ⟨rfl,hk⟩,by omega,rfl⟩
   rw[if_pos]
   rw[<-he]
   cases hg:mget (((v:Int),(lnk (at' ps (v:Int)) k).1)) x2 with
   |some w=>rfl
   | none => exact absurd hin (by
     intro hin
     exact mget_none_mem hg hin)
  ·rintro⟨x1,x2⟩ ag2 ⟨hx,hs⟩
   dsimp only at hx hs
   subst hx
   unfold graph_symmetric_s3 graph_symmetric_k2
   dsimp only
   rw[if_neg (by omega),wr (by omega) (by omega)]
 have outer:=iter_ifS (step:=graph_symmetric_s2 1000 ps) (K:=fun x=>graph_symmetric_k1 x.2) (bad:=false) ps.length (fun v=>LinksOk (at' ps (v:Int)) v ps.length) (fun v x=>x.1=(v:Int)∧∀z,z∈x.2↔Read ps v 0 z) ?_ ?_ ?_ 1000 ((0:Int),[]) ⟨rfl,fun z=>⟨fun h=>(by cases h),fun⟨a,b,h1,_⟩=>(by omega)⟩⟩ (by omega)
 rotate_left
 ·rintro v ⟨x1,x2⟩ ag hv ⟨hx,hs⟩ hp
  dsimp only at hx hs
  subst hx
  obtain⟨m',h1,h2⟩:=(inner v x2 ag hv hs).1 hp
  refine⟨((v:Int)+1,m'),⟨by simp,h1⟩,?_⟩
  ·unfold graph_symmetric_s2
   dsimp only
   rw[if_pos (by omega),ckT (by omega)]
   exact h2
 ·rintro v ⟨x1,x2⟩ ag hv ⟨hx,hs⟩ hp
  dsimp only at hx hs
  subst hx
  unfold graph_symmetric_s2
  dsimp only
  rw[if_pos (by omega),ckT (by omega)]
  exact(inner v x2 ag hv hs).2 hp
 ·rintro⟨x1,x2⟩ ag ⟨hx,hs⟩
  dsimp only at hx hs
  subst hx
  unfold graph_symmetric_s2
  dsimp only
  rw[if_neg (by omega)]
 by_cases hL:∀v,v<ps.length->LinksOk (at' ps (v:Int)) v ps.length
 rotate_left
 ·exact⟨fun h=>absurd h.1 hL,fun _=>outer.2 hL⟩
 obtain⟨⟨x1,x2⟩,⟨hx,hs⟩,he⟩:=outer.1 hL
 rw[he]
 dsimp only at hs ⊢
 have hk:graph_symmetric_k1 x2=some (decide (∀z∈x2,¬(Option.getD (mget (z.1.2,z.1.1) x2) (0:Int))≠z.2)):=mrun_all (fun z:(Int×Int)×Int=>(Option.getD (mget (z.1.2,z.1.1) x2) (0:Int))≠z.2) x2
 rw[hk]
 have hiff:(∀z∈x2,¬(Option.getD (mget (z.1.2,z.1.1) x2) (0:Int))≠z.2)↔∀v,v<ps.length->∀i,i<(at' ps (v:Int)).length->SymAt ([],ps) v i:=by
  constructor
  ·intro h v hv i hi
   have hw:=(hL v hv i hi).2.2.1
   have hin:=(hs (((v:Int),(lnk (at' ps (v:Int)) i).1),(lnk (at' ps (v:Int)) i).2)).2 ⟨v,i,.inl hv,hi,rfl⟩
   have h2:=Decidable.not_not.1 (h _ hin)
   dsimp only at h2
   cases hg:mget ((lnk (at' ps (v:Int)) i).1,(v:Int)) x2 with
   |none=>rw[hg]at h2;simp only[Option.getD]at h2;omega
   | some w =>
    rw[hg]at h2;simp only[Option.getD]at h2
    obtain⟨a,b,h3,h4,h5⟩:=(hs _).1 (mget_some hg)
    simp only[Prod.mk.injEq]at h5
    obtain⟨⟨h6,h7⟩,h8⟩:=h5
    refine⟨b,?_,?_,?_⟩
    ·show b<(at' ps (lnk (at' ps (v:Int)) i).1).length
     rw[h6];exact h4
    ·show(lnk (at' ps (lnk (at' ps (v:Int)) i).1) b).1=v
     rw[h6];exact h7.symm
    ·show(lnk (at' ps (lnk (at' ps (v:Int)) i).1) b).2=(lnk (at' ps (v:Int)) i).2
     rw[h6,<-h8];exact h2
  ·intro h z hz hne
   obtain⟨a,b,h3,h4,rfl⟩:=(hs z).1 hz
   have ha:a<ps.length:=by omega
   apply hne
   obtain⟨j,hj1,hj2,hj3⟩:=h a ha b h4
   have hu:=(hL a ha b h4).1
   obtain⟨u,hu'⟩:∃u:Nat,(lnk (at' ps (a:Int)) b).1=u:=⟨(lnk (at' ps (a:Int)) b).1.toNat,by omega⟩
   replace hj1:j<(at' ps (lnk (at' ps (a:Int)) b).1).length:=hj1
   replace hj2:(lnk (at' ps (lnk (at' ps (a:Int)) b).1) j).1=a:=hj2
   replace hj3:(lnk (at' ps (lnk (at' ps (a:Int)) b).1) j).2=(lnk (at' ps (a:Int)) b).2:=hj3
   rw[hu']at hj1 hj2 hj3
   have hun:u<ps.length:=by omega
   dsimp only
   rw[hu',<-hj3]
   have hin:=(hs (((u:Int),(lnk (at' ps (u:Int)) j).1),(lnk (at' ps (u:Int)) j).2)).2 ⟨u,j,.inl hun,hj1,rfl⟩
   rw[hj2]at hin
   cases hg:mget ((u:Int),(a:Int)) x2 with
   |none=>exact absurd hin (mget_none_mem hg)
   | some w =>
    obtain⟨a',b',h3',h4',h5⟩:=(hs _).1 (mget_some hg)
    simp only[Prod.mk.injEq]at h5
    obtain⟨⟨h6,h7⟩,h8⟩:=h5
    have:a'=u:=by omega
    subst this
    have hbj:b'=j:=by
     rcases Nat.lt_trichotomy b' j with hl|hl|hl
     ·exact absurd (h7.symm.trans hj2.symm) ((hL a' hun j hj1).2.2.2 b' hl)
     ·exact hl
     ·exact absurd (hj2.trans h7) ((hL a' hun b' h4').2.2.2 j hl)
    subst hbj
    exact h8
 by_cases hS:∀v,v<ps.length->∀i,i<(at' ps (v:Int)).length->SymAt ([],ps) v i
 ·rw[decide_eq_true (hiff.2 hS)]
  exact⟨fun _=>rfl,fun h=>absurd ⟨hL,hS⟩ h⟩
 ·rw[decide_eq_false (fun h=>hS (hiff.1 h))]
  exact⟨fun h=>absurd h.2 hS,fun _=>rfl⟩
theorem pigeon:∀(N:Nat) (f:Nat->Nat) (k:Nat),(∀i,i<k->f i<N)->(∀i j,i<j->j<k->f i≠f j)->k<=N
 |0,f,k,h,_=>by
  cases k with
  |zero=>omega
  |succ k=>exact absurd (h 0 (by omega)) (by omega)
 | N + 1, f, k, h, hd => by
  by_cases hex:∃a,a<k∧f a=N
  ·obtain⟨a,ha,hfa⟩:=hex
   have:=pigeon N (fun i=>if i<a then f i else f (i+1)) (k - 1) (fun i hi=>by
    split
    ·have:=h i (by omega);have:=hd i a (by omega) ha;omega
    ·have:=h (i+1) (by omega);have:=hd a (i+1) (by omega) (by omega);omega) (fun i j hij hj=>by
    split<;>split
    ·exact hd i j hij (by omega)
    ·exact hd i (j+1) (by omega) (by omega)
    ·omega
    ·exact hd (i+1) (j+1) (by omega) (by omega))
   omega
  ·have:=pigeon N f k (fun i hi=>by
    have:=h i hi
    have:f i≠N:=fun e=>hex ⟨i,hi,e⟩
    omega) hd
   omega
theorem deg_lt {l:List (Int×Int)} {v n:Nat} (hv:v<n) (h:LinksOk l v n):l.length<n:=by
 have:=pigeon n (fun i=>if i=l.length then v else(lnk l i).1.toNat) (l.length+1) (fun i hi=>by
  split
  ·exact hv
  ·have:=(h i (by omega)).1;omega) (fun i j hij hj=>by
  rw[if_neg (by omega)]
  have h1:=(h i (by omega)).1
  split
  ·have:=(h i (by omega)).2.1;omega
  ·have h2:=(h j (by omega)).1
   have:=(h j (by omega)).2.2.2 i hij
   omega)
 omega
theorem valid_eq (g:GR) (hl:light g):(VG g->m_graph_Valid 1000 g=some true)∧(¬VG g->m_graph_Valid 1000 g=some false):=by
 obtain⟨l1,l2,l3⟩:=hl
 unfold m_graph_Valid graph_Valid_k1 graph_Valid_k2
 by_cases h1:g.1.length<1
 ·rw[if_pos (by omega)]
  exact⟨fun h=>by have:=h.n1;have:=h.len;omega,fun _=>rfl⟩
 rw[if_neg (by omega)]
 by_cases h2:24<g.1.length
 ·rw[if_pos (by omega)]
  exact⟨fun h=>by have:=h.n24;have:=h.len;omega,fun _=>rfl⟩
 rw[if_neg (by omega)]
 by_cases h3:g.1.length=g.2.length
 rotate_left
 ·rw[decide_eq_true (by omega)]
  exact⟨fun h=>absurd h.len h3,fun _=>rfl⟩
 rw[decide_eq_false (by omega),if_neg (by simp)]
 by_cases h4:∀k,k<g.1.length->IdOk g.1 k
 rotate_left
 ·rw[(differentIDs_eq g.1 l1).2 h4,bindS rfl]
  exact⟨fun h=>absurd (fun k hk=>⟨(h.node k (by omega)).id,(h.node k (by omega)).ids⟩) h4,fun _=>rfl⟩
 rw[(differentIDs_eq g.1 l1).1 h4,bindS rfl,if_pos rfl]
 by_cases h5:SymPs g.2
 ·rw[(symmetric_eq g.2 l2 l3).1 h5]
  exact⟨fun _=>rfl,fun h=>absurd ⟨by omega,by omega,h3,fun v hv=>⟨(h4 v (by omega)).1,deg_lt hv (h5.1 v hv),h5.1 v hv,(h4 v (by omega)).2⟩,h5.2⟩ h⟩
 ·rw[(symmetric_eq g.2 l2 l3).2 h5]
  exact⟨fun h=>absurd ⟨fun v hv=>(h.node v hv).links,h.sym⟩ h5,fun _=>rfl⟩
theorem VG.light {g:GR} (h:VG g):light g:=⟨by have:=h.n24;have:=h.len;omega,by have:=h.n24;omega,fun v hv=>by have:=(h.node v hv).deg;have:=h.n24;omega⟩
end Go.Proofs.YtfbkplemadmbfaaGreatDoor
end
section
namespace Go.Proofs.YtfbkplemadmbfaaGreatDoor
open Go.Sx
abbrev D (d:List Int) (v:Nat):Int:=at' d (v:Int)
def Adj (g:GR) (v u:Nat):Prop:=∃i,i<(row g v).length∧(lnk (row g v) i).1=(u:Int)
theorem VG.port {g:GR} (h:VG g) {v i:Nat} (hv:v<g.2.length) (hi:i<(row g v).length):∃u:Nat,u<g.2.length∧(lnk (row g v) i).1=(u:Int)∧Adj g v u:=by
 have hu:=((h.node v hv).links i hi).1
 exact⟨(lnk (row g v) i).1.toNat,by omega,by omega,i,hi,by omega⟩
theorem VG.back {g:GR} (h:VG g) {v u:Nat} (hv:v<g.2.length) (ha:Adj g v u):Adj g u v:=by
 obtain⟨i,hi,hu⟩:=ha
 obtain⟨j,hj,hjv,_⟩:=h.sym v hv i hi
 rw[hu]at hj hjv
 exact⟨j,hj,hjv⟩
theorem VG.adj_lt {g:GR} (h:VG g) {v u:Nat} (hv:v<g.2.length) (ha:Adj g v u):u<g.2.length:=by
 obtain⟨i,hi,hu⟩:=ha
 have:=((h.node v hv).links i hi).1
 omega
def cneg (d:List Int):Nat:=d.countP fun x=>decide (x<0)
structure Core (g:GR) (s:Nat) (d:List Int):Prop where
 len:d.length=g.2.length
 lo:∀v,v<g.2.length -> -1<=D d v
 zero:∀v,v<g.2.length->(D d v=0↔v=s)
 near:∀v,v<g.2.length->0<D d v->∃u,u<g.2.length∧Adj g v u∧D d u=D d v - 1
 hi:∀v,v<g.2.length->D d v+(cneg d:Int)<=(g.2.length:Int)
structure Qu (g:GR) (q d:List Int) (b:Int) (done:Nat->Prop):Prop where
 mem:∀y∈q,∃v,v<g.2.length∧y=((v:Nat):Int)∧0<=D d v
 top:∀v,v<g.2.length->D d v<=b
 sort:q.Pairwise fun a c=>at' d a<=at' d c
 done:∀v,v<g.2.length->0<=D d v->((v:Nat):Int)∉q->done v->∀u,u<g.2.length->Adj g v u->0<=D d u∧D d u<=D d v+1
theorem D_getElem {d:List Int} {v:Nat} (h:v<d.length):D d v=d[v]:=by
 rw[D,at'_nat,List.getD_eq_getElem?_getD,List.getElem?_eq_getElem h];rfl
theorem cneg_set {d:List Int} {u:Nat} {x:Int} (hu:u<d.length) (hn:D d u<0) (hx:0<=x):cneg (d.set u x)+1=cneg d:=by
 unfold cneg
 rw[List.countP_set hu]
 have hp:0<d.countP fun x=>decide (x<0):=by
  rw[List.countP_pos_iff]
  exact⟨d[u],List.getElem_mem hu,by rw[<-D_getElem hu];simpa using hn⟩
 rw[D_getElem hu]at hn
 rw[if_pos (by simpa using hn),if_neg (by simp;omega)]
 omega
theorem assign {g:GR} {s:Nat} {q d:List Int} {b:Int} {done:Nat->Prop} (hV:VG g) (hC:Core g s d) {x u:Nat} (hQ:Qu g q d (D d x+1) done) (hx:x<g.2.length) (hx0:0<=D d x) (hu:u<g.2.length) (hun:D d u<0) (ha:Adj g x u):
  Core g s (d.set u (D d x+1))∧Qu g (q++[(u:Int)]) (d.set u (D d x+1)) (D d x+1) done:=by
 have hlen:=hC.len
 have hat:∀v,D (d.set u (D d x+1)) v=if v=u then D d x+1 else D d v:=fun v=>at_set _ _ _ _ (by omega)
 have hcn:=cneg_set (x:=D d x+1) (by omega:u<d.length) hun (by omega)
 refine⟨⟨by simp[hlen],fun v hv=> ?_,fun v hv=> ?_,fun v hv=> ?_,fun v hv=> ?_⟩,⟨fun y hy=> ?_,fun v hv=> ?_,?_,fun v hv h0 hq hd w hw hadj=> ?_⟩⟩
 ·rw[hat];split
  ·omega
  ·exact hC.lo v hv
 ·rw[hat];split
  ·rename_i h;subst h
   have:=(hC.zero v hv)
   constructor
   ·intro;omega
   ·intro h;have:=this.2 h;omega
  ·exact hC.zero v hv
 ·rw[hat];split
  ·rename_i h;subst h
   intro _
   refine⟨x,hx,hV.back hx ha,?_⟩
   rw[hat,if_neg (by intro h;subst h;omega)];omega
  ·intro h0
   obtain⟨w,hw,hadj,he⟩:=hC.near v hv h0
   refine⟨w,hw,hadj,?_⟩
   rw[hat,if_neg (by intro h;subst h;omega)];exact he
 ·rw[hat];split
  ·have:=hC.hi x hx;omega
  ·have:=hC.hi v hv;omega
 ·rcases List.mem_append.1 hy with hy|hy
  ·obtain⟨v,hv,rfl,h0⟩:=hQ.mem y hy
   refine⟨v,hv,rfl,?_⟩
   rw[hat];split<;>omega
  ·simp only[List.mem_singleton]at hy
   refine⟨u,hu,hy,?_⟩
   rw[hat,if_pos rfl];omega
 ·rw[hat];split
  ·omega
  ·exact hQ.top v hv
 ·rw[List.pairwise_append]
  have hq:∀y∈q,at' (d.set u (D d x+1)) y=at' d y:=by
   intro y hy
   obtain⟨v,hv,rfl,h0⟩:=hQ.mem y hy
   have:=hat v
   rw[if_neg (by intro h;subst h;omega)]at this
   exact this
  refine⟨hQ.sort.imp_of_mem fun {a c} h1 h2 h=> ?_,List.pairwise_singleton ..,fun y hy z hz=> ?_⟩
  ·rw[hq a h1,hq c h2];exact h
  ·simp only[List.mem_singleton]at hz
   subst hz
   rw[hq y hy]
   have h2:=hat u
   rw[if_pos rfl]at h2
   obtain⟨v,hv,rfl,h0⟩:=hQ.mem y hy
   have:=hQ.top v hv
   show D d v<=D (d.set u (D d x+1)) u
   omega
 ·have hvu:v≠u:=by
   rintro rfl
   exact hq (by simp)
  rw[hat,if_neg hvu]at h0
  rw[hat v,if_neg hvu]
  have:=hQ.done v hv h0 (fun h=>hq (List.mem_append_left _ h)) hd w hw hadj
  rw[hat w,if_neg (by rintro rfl;omega)]
  exact this
theorem search_inner {g:GR} (hV:VG g) {s x:Nat} (hx:x<g.2.length) (rest d0:List Int) (ag:List Int×List Int->Option (List Int)) (r:List Int->Prop)
  (hC:Core g s d0) (hx0:0<=D d0 x) (hQ:Qu g rest d0 (D d0 x+1) (fun v=>v≠x)) (hm:rest.length+cneg d0<=g.2.length)
  (hag:∀q d,Core g s d->D d x=D d0 x->Qu g q d (D d x+1) (fun _=>True)->q.length+cneg d=rest.length+cneg d0->(∀y∈q,D d0 x<=at' d y)->OK r (ag (q,d)))
  (hge:∀y∈rest,D d0 x<=at' d0 y):
  OK r (iter (graph_search_s2 g ((x:Int)::rest,d0) ag) 1000 ((0:Int),rest,d0)):=by
 have hdeg:=(hV.node x hx).deg
 have h24:=hV.n24
 refine iter_ok (fun z:Int×List Int×List Int=>∃k:Nat,z.1=k∧k<=(row g x).length∧Core g s z.2.2∧D z.2.2 x=D d0 x∧Qu g z.2.1 z.2.2 (D d0 x+1) (fun v=>v≠x)∧z.2.1.length+cneg z.2.2=rest.length+cneg d0∧(∀i,i<k->∀u:Nat,(lnk (row g x) i).1=u->0<=D z.2.2 u)∧(∀y∈z.2.1,D d0 x<=at' z.2.2 y)) (fun z=>31 - z.1.toNat) ?_ 1000 _ ⟨0,rfl,by omega,hC,rfl,hQ,rfl,fun i hi=>by omega,hge⟩ (by simp)
 rintro⟨z1,q,d⟩ ag2 ⟨k,hz,hk,hC,hdx,hQ,hm2,hp,hge⟩ hag2
 dsimp only at hz hC hdx hQ hm2 hp hge
 subst hz
 have hlen:=hC.len
 have e0:at' ((x:Int)::rest) 0=(x:Int):=rfl
 unfold graph_search_s2 graph_search_k3
 dsimp only
 rw[e0]
 by_cases hlt:k<(row g x).length
 ·rw[if_pos (show(k:Int)<((row g x).length:Int) by omega),ckT (show 0<=(k:Int)∧(k:Int)<((row g x).length:Int) by omega)]
  obtain⟨u,hu,hue,hadj⟩:=hV.port hx hlt
  rw[show at' (at' g.2 (x:Int)) (k:Int)=lnk (row g x) k from rfl,hue,ckT (by omega)]
  have hhi:=hC.hi x hx
  by_cases hneg:at' d (u:Int)<0
  ·have hQ':Qu g q d (D d x+1) (fun v=>v≠x):=by rw[hdx];exact hQ
   obtain⟨c1,c2⟩:=assign (b:=0) hV hC hQ' hx (by omega) hu hneg hadj
   have hcn:=cneg_set (x:=D d x+1) (by omega:u<d.length) hneg (by omega)
   have hat:∀v,D (d.set u (D d x+1)) v=if v=u then D d x+1 else D d v:=fun v=>at_set _ _ _ _ (by omega)
   have hxu:x≠u:=by rintro rfl;have:D d x<0:=hneg;omega
   rw[if_pos hneg,ckT (by omega),ckT (by omega),ckT (by simp only[List.length_singleton];omega),wr (x:=(k:Int)+1) (by omega) (by omega),wr (x:=at' d (x:Int)+1) (by show -9223372036854775808<=D d x+1;omega) (by show D d x+1<=_;omega)]
   refine hag2 _ ⟨k+1,by simp,by omega,c1,?_,?_,?_,?_,?_⟩ (by dsimp only;omega)
   ·show D (d.set u (D d x+1)) x=_
    rw[hat,if_neg hxu];exact hdx
   ·rw[<-hdx];exact c2
   ·show(q++[(u:Int)]).length+cneg (d.set u (D d x+1))=_
    simp only[List.length_append,List.length_singleton]
    omega
   ·intro i hi w hw
    show 0<=D (d.set u (D d x+1)) w
    rw[hat]
    split
    ·omega
    ·by_cases hik:i=k
     ·subst hik;omega
     ·exact hp i (by omega) w hw
   ·intro y hy
    show D d0 x<=at' (d.set u (D d x+1)) y
    rcases List.mem_append.1 hy with hy|hy
    ·have h1:=hge y hy
     obtain⟨v,hv,rfl,h0⟩:=hQ.mem y hy
     have h2:=hat v
     rw[if_neg (by intro h;subst h;have:D d v<0:=hneg;omega)]at h2
     rw[show at' (d.set u (D d x+1)) (v:Int)=D d v from h2]
     exact h1
    ·simp only[List.mem_singleton]at hy
     subst hy
     rw[show at' (d.set u (D d x+1)) (u:Int)=D d x+1 from(hat u).trans (if_pos rfl)]
     omega
  ·rw[if_neg hneg,wr (by omega) (by omega)]
   refine hag2 _ ⟨k+1,by simp,by omega,hC,hdx,hQ,hm2,?_,hge⟩ (by dsimp only;omega)
   intro i hi w hw
   by_cases hik:i=k
   ·subst hik
    have:w=u:=by omega
    subst this
    show 0<=at' d (w:Int)
    omega
   ·exact hp i (by omega) w hw
 ·rw[if_neg (show¬(k:Int)<((row g x).length:Int) by omega)]
  have hke:k=(row g x).length:=by omega
  refine hag q d hC hdx ⟨hQ.mem,fun v hv=>by rw[hdx];exact hQ.top v hv,hQ.sort,fun v hv h0 hq _ u hu hadj=> ?_⟩ hm2 hge
  by_cases hvx:v=x
  ·subst hvx
   obtain⟨i,hi,hie⟩:=hadj
   exact⟨hp i (by omega) u hie,by rw[hdx];exact hQ.top u hu⟩
  ·exact hQ.done v hv h0 hq hvx u hu hadj
structure Dist (g:GR) (s:Nat) (d:List Int):Prop where
 len:d.length=g.2.length
 lo:∀v,v<g.2.length -> -1<=D d v
 zero:∀v,v<g.2.length->(D d v=0↔v=s)
 near:∀v,v<g.2.length->0<D d v->∃u,u<g.2.length∧Adj g v u∧D d u=D d v - 1
 next:∀v,v<g.2.length->0<=D d v->∀u,u<g.2.length->Adj g v u->0<=D d u∧D d u<=D d v+1
 hi:∀v,v<g.2.length->D d v<=(g.2.length:Int)
theorem search_loop {g:GR} (hV:VG g) {s:Nat} (d0:List Int) (q0:List Int) (hC:Core g s d0) (hQ:Qu g q0 d0 (match q0 with|[]=>1000|y::_=>at' d0 y+1) (fun _=>True)) (hm:q0.length+cneg d0<=g.2.length):
  OK (Dist g s) (iter (graph_search_s1 1000 g) 1000 (q0,d0)):=by
 have h24:=hV.n24
 refine iter_ok (fun z:List Int×List Int=>Core g s z.2∧Qu g z.1 z.2 (match z.1 with|[]=>1000|y::_=>at' z.2 y+1) (fun _=>True)∧z.1.length+cneg z.2<=g.2.length) (fun z=>z.1.length+cneg z.2) ?_ 1000 _ ⟨hC,hQ,hm⟩ (by dsimp only;omega)
 rintro⟨q,d⟩ ag ⟨hC,hQ,hm⟩ hag
 dsimp only at hC hQ hm
 unfold graph_search_s1 graph_search_k2
 dsimp only
 cases q with
 |nil=>
  rw[if_neg (by simp)]
  exact⟨d,rfl,hC.len,hC.lo,hC.zero,hC.near,fun v hv h0 u hu hadj=>hQ.done v hv h0 (by simp) trivial u hu hadj,fun v hv=>by have:=hC.hi v hv;omega⟩
 | cons y rest =>
  obtain⟨x,hx,rfl,hx0⟩:=hQ.mem y (List.mem_cons_self ..)
  have e0:at' ((x:Int)::rest) 0=(x:Int):=rfl
  rw[if_pos (by simp only[List.length_cons];omega),ckT (by simp only[List.length_cons];omega),ckT (by simp only[List.length_cons];omega),e0,ckT (by omega)]
  have hs:=List.pairwise_cons.1 hQ.sort
  simp only[List.length_cons]at hm
  refine search_inner hV hx rest d ag _ hC hx0 ⟨fun z hz=>hQ.mem z (List.mem_cons_of_mem _ hz),hQ.top,hs.2,fun v hv h0 hq hvx u hu hadj=>hQ.done v hv h0 (fun h=> ?_) trivial u hu hadj⟩ (by omega) (fun q' d' c1 c2 c3 c4 c5=> ?_) hs.1
  ·rcases List.mem_cons.1 h with h|h
   ·exact hvx (by omega)
   ·exact hq h
  ·refine hag (q',d') ⟨c1,⟨c3.mem,fun v hv=> ?_,c3.sort,c3.done⟩,by dsimp only;omega⟩ (by simp only[List.length_cons];omega)
   dsimp only
   have ht:=c3.top v hv
   cases q' with
   |nil=>
    dsimp only
    have:=c1.hi x hx
    omega
   |cons z zs=>
    dsimp only
    have:=c5 z (List.mem_cons_self ..)
    omega
theorem search_ok {g:GR} (hV:VG g) {s:Nat} (hs:s<g.2.length):OK (Dist g s) (m_graph_search 1000 g (s:Int)):=by
 have h24:=hV.n24
 unfold m_graph_search
 rw[ckT (by omega)]
 refine iter_ok (fun z:Int×List Int=>∃k:Nat,z.1=k∧k<=g.2.length∧z.2.length=g.2.length∧∀v,v<k->D z.2 v = -1) (fun z=>31 - z.1.toNat) ?_ 1000 _ ⟨0,rfl,by omega,by simp,fun v hv=>by omega⟩ (by simp)
 rintro⟨z1,d⟩ ag ⟨k,hz,hk,hlen,hd⟩ hag
 dsimp only at hz hlen hd
 subst hz
 unfold graph_search_s3
 simp only[List.length_replicate,Int.toNat_natCast]
 by_cases hlt:k<g.2.length
 ·rw[if_pos (by omega),ckT (by omega),wr (by omega) (by omega)]
  refine hag _ ⟨k+1,by simp,by omega,by simp[hlen],fun v hv=> ?_⟩ (by dsimp only;omega)
  show at' (d.set k (-1)) (v:Int) = -1
  rw[at_set _ _ _ _ (by omega)]
  split
  ·rfl
  ·exact hd v (by omega)
 ·rw[if_neg (by omega)]
  unfold graph_search_k1
  rw[ckT (by omega)]
  have hd':∀v,v<g.2.length->D d v = -1:=fun v hv=>hd v (by omega)
  have hat:∀v,D (d.set s 0) v=if v=s then 0 else D d v:=fun v=>at_set _ _ _ _ (by omega)
  have hcn:=cneg_set (x:=0) (by omega:s<d.length) (by rw[hd' s hs];omega) (by omega)
  have hcl:cneg d<=d.length:=List.countP_le_length ..
  refine search_loop hV _ _ ⟨by simp[hlen],fun v hv=> ?_,fun v hv=> ?_,fun v hv=> ?_,fun v hv=> ?_⟩ ⟨fun y hy=> ?_,fun v hv=> ?_,List.pairwise_singleton ..,fun v hv h0 hq=> ?_⟩ ?_
  ·rw[Int.toNat_natCast,hat];split
   ·omega
   ·rw[hd' v hv];omega
  ·rw[Int.toNat_natCast,hat];split
   ·rename_i h;exact⟨fun _=>h,fun _=>rfl⟩
   ·rename_i h;rw[hd' v hv];exact⟨fun h2=>by omega,fun h2=>absurd h2 h⟩
  ·rw[Int.toNat_natCast,hat];split
   ·omega
   ·rw[hd' v hv];omega
  ·rw[Int.toNat_natCast,hat];split
   ·omega
   ·rw[hd' v hv];omega
  ·simp only[List.mem_singleton]at hy
   refine⟨s,hs,hy,?_⟩
   rw[Int.toNat_natCast,hat,if_pos rfl];omega
  ·rw[Int.toNat_natCast]
   have h2:at' (d.set s 0) (s:Int)=0:=(hat s).trans (if_pos rfl)
   show D (d.set s 0) v<=at' (d.set s 0) (s:Int)+1
   rw[h2,hat];split
   ·omega
   ·rw[hd' v hv];omega
  ·rw[Int.toNat_natCast,hat,if_neg (by rintro rfl;exact hq (by simp)),hd' v hv]at h0
   omega
  ·rw[Int.toNat_natCast]
   simp only[List.length_singleton]
   omega
end Go.Proofs.YtfbkplemadmbfaaGreatDoor
end
section
namespace Go.Proofs.YtfbkplemadmbfaaGreatDoor
open Go.Sx
theorem distances_ok {g:GR} (hV:VG g) {s:Nat} (hs:s<g.2.length):OK (Dist g s) (m_graph_Distances 1000 g (s:Int)):=by
 unfold m_graph_Distances graph_Distances_k1
 rw[(valid_eq g hV.light).1 hV,bindS rfl,if_neg (by simp),if_neg (by omega),decide_eq_false (by omega),if_neg (by simp)]
 obtain⟨d,hd,hD⟩:=search_ok hV hs
 rw[hd]
 exact⟨d,rfl,hD⟩
end Go.Proofs.YtfbkplemadmbfaaGreatDoor
end
section
namespace Go.Proofs.YtfbkplemadmbfaaGreatDoor
open Go.Sx
def Walk (g:GR) (s:Nat):Nat->Nat->Prop
 |0,v=>v=s∧s<g.2.length
 |k+1,v=>∃u,Walk g s k u∧Adj g u v
theorem Walk.lt {g:GR} (hV:VG g) {s:Nat}:∀{k v:Nat},Walk g s k v->v<g.2.length
 |0,_,h=>by obtain⟨rfl,h⟩:=h;exact h
 |_+1,_,h=>by obtain⟨u,h1,h2⟩:=h;exact hV.adj_lt (Walk.lt hV h1) h2
theorem Dist.le {g:GR} (hV:VG g) {s:Nat} {d:List Int} (h:Dist g s d):∀{k v:Nat},Walk g s k v->0<=D d v∧D d v<=k
 |0,v,hw=>by
  obtain⟨rfl,hs⟩:=hw
  have:=(h.zero v hs).2 rfl
  omega
 |k+1,v,hw=>by
  obtain⟨u,h1,h2⟩:=hw
  have hu:=Walk.lt hV h1
  have h3:=Dist.le hV h h1
  have h4:=h.next u hu h3.1 v (hV.adj_lt hu h2) h2
  omega
theorem Dist.walk {g:GR} (hV:VG g) {s:Nat} {d:List Int} (h:Dist g s d):∀(k v:Nat),v<g.2.length->D d v=k->Walk g s k v
 |0,v,hv,he=>by
  have:=(h.zero v hv).1 he
  exact⟨this,by omega⟩
 |k+1,v,hv,he=>by
  obtain⟨u,hu,hadj,hd⟩:=h.near v hv (by omega)
  exact⟨u,Dist.walk hV h k u hu (by omega),hV.back hv hadj⟩
theorem Dist.pos {g:GR} (hV:VG g) {s:Nat} {d:List Int} (h:Dist g s d) {v:Nat} (hv:v<g.2.length) (h0:0<=D d v):Walk g s (D d v).toNat v:=
 Dist.walk hV h _ v hv (by omega)
end Go.Proofs.YtfbkplemadmbfaaGreatDoor
end
section
namespace Go.Proofs.YtfbkplemadmbfaaGreatDoor
open Go.Sx
end Go.Proofs.YtfbkplemadmbfaaGreatDoor
end
section
namespace Go.Proofs.YtfbkplemadmbfaaGreatDoor
open Go.Sx
end Go.Proofs.YtfbkplemadmbfaaGreatDoor
end
section
namespace Go.Proofs.YtfbkplemadmbfaaGreatDoor
open Go.Sx
open Classical in
noncomputable def ind (p:Prop):Nat:=if p then 1 else 0
end Go.Proofs.YtfbkplemadmbfaaGreatDoor
end
section
namespace Go.Proofs.YtfbkplemadmbfaaGreatDoor
open Go.Sx
theorem wrapU (a:Nat) (h:a<4294967296):IntKind.u32.wrap (a:Int)=a:=by rw[<-wI_eq];exact if_pos ⟨by omega,by omega⟩
def N32 (x:Int):Nat:=(BitVec.ofInt 32 x).toNat
theorem N32_lt (x:Int):N32 x<4294967296:=(BitVec.ofInt 32 x).isLt
theorem N32_nat {a:Nat} (h:a<4294967296):N32 (a:Int)=a:=by
 unfold N32;rw[BitVec.ofInt_natCast,BitVec.toNat_ofNat];exact Nat.mod_eq_of_lt h
theorem bAnd_eq (x y:Int):bAnd .u32 x y=((N32 x &&& N32 y:Nat):Int):=by
 show IntKind.u32.wrap (((BitVec.ofInt 32 x &&& BitVec.ofInt 32 y).toNat:Nat):Int)=_
 rw[BitVec.toNat_and]
 exact wrapU _ (Nat.lt_of_le_of_lt Nat.and_le_left (N32_lt x))
theorem bOr_eq (x y:Int):bOr .u32 x y=((N32 x ||| N32 y:Nat):Int):=by
 show IntKind.u32.wrap (((BitVec.ofInt 32 x ||| BitVec.ofInt 32 y).toNat:Nat):Int)=_
 rw[BitVec.toNat_or]
 exact wrapU _ (Nat.or_lt_two_pow (n:=32) (N32_lt x) (N32_lt y))
theorem pow32 {k:Nat} (hk:k<32):2^k<4294967296:=Nat.pow_lt_pow_right (n:=32) (by omega) hk
theorem bShl1 {k:Nat} (hk:k<32):bShl .u32 1 (k:Int)=((2^k:Nat):Int):=by
 show IntKind.u32.wrap (1*2^(min ((k:Int).toNat) 32))=_
 rw[Int.toNat_natCast,Nat.min_eq_left (by omega),Int.one_mul,show(2:Int)^k=((2^k:Nat):Int) by simp]
 exact wrapU _ (pow32 hk)
theorem bShr_eq {a k:Nat} (hk:k<32):bShr .u32 (a:Int) (k:Int)=((a / 2^k:Nat):Int):=by
 show Int.fdiv (a:Int) (2^(min ((k:Int).toNat) 32))=_
 rw[Int.toNat_natCast,Nat.min_eq_left (by omega),show(2:Int)^k=((2^k:Nat):Int) by simp,Int.fdiv_eq_ediv_of_nonneg _ (Int.natCast_nonneg _)]
 simp
theorem hasBit {a k:Nat} (hk:k<32) (ha:a<4294967296):bAnd .u32 (bShr .u32 (a:Int) (k:Int)) 1=1↔a.testBit k=true:=by
 have h1:N32 1=1:=N32_nat (a:=1) (by omega)
 rw[bShr_eq hk,bAnd_eq,N32_nat (Nat.lt_of_le_of_lt (Nat.div_le_self _ _) ha),h1,Nat.and_one_is_mod,Nat.testBit_eq_decide_div_mod_eq,decide_eq_true_eq]
 omega
def Indep (g:GR) (s:Nat):Prop:=(∀v,s.testBit v=true->v<g.2.length)∧∀v u,s.testBit v=true->s.testBit u=true->¬Adj g v u
theorem wU64 {k:Nat} (hk:k<32):wI .u64 (k:Int)=k:=by
 show IntKind.u64.wrap (k:Int)=k
 have:∀j:Fin 32,IntKind.u64.wrap ((j.1:Nat):Int)=(j.1:Nat):=by decide
 exact this ⟨k,hk⟩
theorem has_eq {s v:Nat} (hs:s<4294967296) (hv:v<32):m_ref01_Has 1000 (s:Int) (v:Int)=some (s.testBit v):=by
 unfold m_ref01_Has ref01_Has_k1
 rw[if_pos (by omega),if_pos (by omega),wU64 hv,ckT (by omega)]
 congr 1
 by_cases h:s.testBit v=true
 ·rw[h];exact decide_eq_true ((hasBit hv hs).2 h)
 ·rw[Bool.not_eq_true]at h
  rw[h];exact decide_eq_false fun h2=>by rw[(hasBit hv hs).1 h2]at h;cases h
theorem refAll_ok {n:Nat} (hn:n<=24):OK (fun r:Int=>∃m:Nat,r=m∧m<4294967296∧∀v,m.testBit v=true↔v<n) (m_ref01_All 1000 (n:Int)):=by
 unfold m_ref01_All
 refine iter_ok (fun z:Int×Int=>∃k:Nat,z.2=k∧k<=n∧∃m:Nat,z.1=m∧m<4294967296∧∀v,m.testBit v=true↔v<k) (fun z=>31 - z.2.toNat) ?_ 1000 _ ⟨0,rfl,by omega,0,rfl,by omega,fun v=>by simp⟩ (by simp)
 rintro⟨a,z⟩ ag ⟨k,hz,hk,m,hm,hm32,hb⟩ hag
 dsimp only at hz hm
 subst hz hm
 unfold ref01_All_s1 ref01_All_k2 ref01_All_k1
 dsimp only
 by_cases hlt:k<n
 ·rw[if_pos (by omega),if_pos (by rw[decide_eq_true_eq];omega),wU64 (by omega),ckT (by omega),bShl1 (by omega),bOr_eq,N32_nat hm32,N32_nat (pow32 (by omega)),wr (by omega) (by omega)]
  refine hag _ ⟨k+1,by simp,by omega,_,rfl,Nat.or_lt_two_pow (n:=32) hm32 (pow32 (by omega)),fun v=> ?_⟩ (by dsimp only;omega)
  rw[Nat.testBit_or,Nat.testBit_two_pow,Bool.or_eq_true,hb v,decide_eq_true_eq]
  omega
 ·rw[if_neg (by omega),if_neg (by simp)]
  have:k=n:=by omega
  subst this
  exact⟨_,rfl,m,rfl,hm32,hb⟩
end Go.Proofs.YtfbkplemadmbfaaGreatDoor
end
section
namespace Go.Proofs.YtfbkplemadmbfaaGreatDoor
open Go.Sx
def T (e:List Int) (k v w:Nat):Int:=if 0<=D e w∧(D e w<k∨(D e w=k∧w<v))then D e w else -1
end Go.Proofs.YtfbkplemadmbfaaGreatDoor
end
section
namespace Go.Proofs.YtfbkplemadmbfaaGreatDoor
open Go.Sx
end Go.Proofs.YtfbkplemadmbfaaGreatDoor
end
section
namespace Go.Proofs.YtfbkplemadmbfaaGreatDoor
open Go.Sx
theorem iter_ifB {X R:Type} {step:X->(X->Option R)->Option R} {K:X->Option R} {bad:R} (N:Nat) (p:Nat->Prop) (I:Nat->X->Prop) (B:Nat)
  (hok:∀(k:Nat) x ag,k<N->k<B->I k x->p k->∃x',I (k+1) x'∧step x ag=ag x') (hbad:∀(k:Nat) x ag,k<N->k<B->I k x->¬p k->step x ag=some bad) (hend:∀x ag,I N x->N<B->step x ag=K x):
  ∀(fuel:Nat) (x:X),I 0 x->B<=fuel->(N<B∨∃k,k<N∧k<B∧¬p k)->((∀k,k<N->p k)->∃x',I N x'∧iter step fuel x=K x')∧(¬(∀k,k<N->p k)->iter step fuel x=some bad):=by
 intro fuel x hI hf hB
 have bads:∀(d a fuel:Nat) (x:X),I a x->a+d<N->a+d<B->¬p (a+d)->d<fuel->iter step fuel x=some bad:=by
  intro d
  induction d with
  |zero=>
   intro a fuel x hI h1 h2 hp hf
   obtain⟨f,rfl⟩:∃f,fuel=f+1:=⟨fuel - 1,by omega⟩
   exact hbad a x _ h1 h2 hI hp
  | succ d ih =>
   intro a fuel x hI h1 h2 hp hf
   obtain⟨f,rfl⟩:∃f,fuel=f+1:=⟨fuel - 1,by omega⟩
   by_cases hpa:p a
   ·obtain⟨x',hI',hs⟩:=hok a x (iter step f) (by omega) (by omega) hI hpa
    have hs:iter step (f+1) x=iter step f x':=hs
    rw[hs]
    exact ih (a+1) f x' hI' (by omega) (by omega) (by rw[show a+1+d=a+(d+1) by omega];exact hp) (by omega)
   ·exact hbad a x _ (by omega) (by omega) hI hpa
 have goods:∀(d a fuel:Nat) (x:X),I a x->a+d=N->N<B->(∀k,a<=k->k<N->p k)->d<fuel->∃x',I N x'∧iter step fuel x=K x':=by
  intro d
  induction d with
  |zero=>
   intro a fuel x hI h1 h2 hp hf
   obtain⟨f,rfl⟩:∃f,fuel=f+1:=⟨fuel - 1,by omega⟩
   obtain rfl:a=N:=by omega
   exact⟨x,hI,hend x _ hI h2⟩
  |succ d ih=>
   intro a fuel x hI h1 h2 hp hf
   obtain⟨f,rfl⟩:∃f,fuel=f+1:=⟨fuel - 1,by omega⟩
   obtain⟨x',hI',hs⟩:=hok a x (iter step f) (by omega) (by omega) hI (hp a (Nat.le_refl _) (by omega))
   have hs:iter step (f+1) x=iter step f x':=hs
   rw[hs]
   exact ih (a+1) f x' hI' (by omega) h2 (fun k h1 h2=>hp k (by omega) h2) (by omega)
 constructor
 ·intro h
  rcases hB with hB|⟨k,h1,_,h2⟩
  ·exact goods N 0 fuel x hI (by omega) hB (fun k _ hk=>h k hk) (by omega)
  ·exact absurd (h k h1) h2
 ·intro h
  have:∃k,k<N∧k<B∧¬p k:=by
   rcases hB with hB|hB
   ·apply Classical.byContradiction
    intro hc
    exact h fun k hk=>Classical.byContradiction fun hp=>hc ⟨k,hk,by omega,hp⟩
   ·exact hB
  obtain⟨k,h1,h2,h3⟩:=this
  exact bads k 0 fuel x hI (by omega) (by omega) (by rw[Nat.zero_add];exact h3) (by omega)
theorem row_bound {ps:List (List (Int×Int))} (hn:ps.length<=30) {v:Nat} (hv:v<ps.length):(at' ps (v:Int)).length<1000∨∃k,k<(at' ps (v:Int)).length∧k<1000∧¬LinkOk (at' ps (v:Int)) v ps.length k:=by
 by_cases h:(at' ps (v:Int)).length<1000
 ·exact .inl h
 ·right
  apply Classical.byContradiction
  intro hc
  have hok:∀k,k<40->LinkOk (at' ps (v:Int)) v ps.length k:=fun k hk=>Classical.byContradiction fun hp=>hc ⟨k,by omega,by omega,hp⟩
  have:=pigeon ps.length (fun i=>(lnk (at' ps (v:Int)) i).1.toNat) 40 (fun i hi=>by have:=(hok i hi).1;omega) (fun i j hij hj he=>by
   have h1:=(hok i (by omega)).1
   have h2:=(hok j hj).1
   have h3:=(hok j hj).2.2.2 i hij
   exact h3 (by omega))
  omega
theorem refValid_gen (g:GR):(VG g->m_ref01_Valid 1000 g=some true)∧(¬VG g->m_ref01_Valid 1000 g=some false):=by
 unfold m_ref01_Valid
 rw[refIn_eq,bindS rfl]
 by_cases h1:1<=g.2.length∧g.2.length<=24
 rotate_left
 ·rw[decide_eq_false (by omega)]
  exact⟨fun h=>absurd ⟨h.n1,h.n24⟩ h1,fun _=>rfl⟩
 rw[decide_eq_true (by omega),if_neg (by simp)]
 by_cases h2:g.1.length=g.2.length
 rotate_left
 ·rw[decide_eq_true (by omega)]
  exact⟨fun h=>absurd h.len h2,fun _=>rfl⟩
 rw[decide_eq_false (by omega)]
 unfold ref01_Valid_k1
 rw[if_neg (by simp)]
 have hids:∀(v:Nat) (ag:Int->Option Bool),v<g.2.length->((∀k,k<v->idOf g k≠idOf g v)->iter (ref01_Valid_s4 g v ag) 1000 0=ag ((v:Int)+1))∧(¬(∀k,k<v->idOf g k≠idOf g v)->iter (ref01_Valid_s4 g v ag) 1000 0=some false):=by
  intro v ag hv
  refine iter_if v _ (fun k ag2 hk hp=> ?_) (fun k ag2 hk hp=> ?_) (fun ag2=> ?_) 1000 (by omega)
  ·unfold ref01_Valid_s4
   rw[if_pos (by omega),ckT (by omega),ckT (by omega),if_neg hp,wr (by omega) (by omega)]
  ·unfold ref01_Valid_s4
   rw[if_pos (by omega),ckT (by omega),ckT (by omega),if_pos (Decidable.not_not.1 hp)]
  ·unfold ref01_Valid_s4 ref01_Valid_k6
   rw[if_neg (by omega),wr (by omega) (by omega)]
 have outer:=iter_if (step:=ref01_Valid_s3 1000 g) (K:=ref01_Valid_k2 1000 g ()) (bad:=false) g.2.length (NodeOk g) (fun v ag hv hp=> ?_) (fun v ag hv hp=> ?_) (fun ag=> ?_) 1000 (by omega)
 rotate_left
 ·unfold ref01_Valid_s3 ref01_Valid_k7
  rw[if_pos (by omega),ckT (by omega),refIn_eq,decide_eq_true hp.id,bindS rfl,if_neg (by simp),ckT (by omega),if_neg (show¬((g.2.length:Int)<=((row g v).length:Int))from by have:=hp.deg;omega),ckT (by omega),(linksValid_eq (row g v) v g.2.length (by have:=hp.deg;omega) (by omega)).1 hp.links,bindS rfl,if_neg (by simp)]
  exact(hids v ag hv).1 hp.ids
 ·unfold ref01_Valid_s3 ref01_Valid_k7
  rw[if_pos (by omega),ckT (by omega),refIn_eq]
  by_cases a1:0<=idOf g v∧idOf g v<=255
  rotate_left
  ·rw[decide_eq_false a1];rfl
  rw[decide_eq_true a1,bindS rfl,if_neg (by simp),ckT (by omega)]
  by_cases a2:(row g v).length<g.2.length
  rotate_left
  ·rw[if_pos (show(g.2.length:Int)<=((row g v).length:Int) by omega)];rfl
  rw[if_neg (show¬(g.2.length:Int)<=((row g v).length:Int) by omega),ckT (by omega)]
  by_cases a3:LinksOk (row g v) v g.2.length
  rotate_left
  ·rw[(linksValid_eq (row g v) v g.2.length (by omega) (by omega)).2 a3];rfl
  rw[(linksValid_eq (row g v) v g.2.length (by omega) (by omega)).1 a3,bindS rfl,if_neg (by simp)]
  exact(hids v ag hv).2 fun a4=>hp ⟨a1,a2,a3,a4⟩
 ·unfold ref01_Valid_s3
  rw[if_neg (by omega)]
 by_cases hn:∀v,v<g.2.length->NodeOk g v
 rotate_left
 ·exact⟨fun h=>absurd h.node hn,fun _=>outer.2 hn⟩
 rw[outer.1 hn]
 unfold ref01_Valid_k2
 have inner:∀(v:Nat) (ag:Int->Option Bool),v<g.2.length->((∀i,i<(row g v).length->SymAt g v i)->iter (ref01_Valid_s2 1000 g v ag) 1000 0=ag ((v:Int)+1))∧(¬(∀i,i<(row g v).length->SymAt g v i)->iter (ref01_Valid_s2 1000 g v ag) 1000 0=some false):=by
  intro v ag hv
  have hv3:=(hn v hv).deg
  have body:∀(i:Nat) ag2,i<(row g v).length->(SymAt g v i->ref01_Valid_s2 1000 g v ag i ag2=ag2 ((i:Int)+1))∧(¬SymAt g v i->ref01_Valid_s2 1000 g v ag i ag2=some false):=by
   intro i ag2 hi
   unfold ref01_Valid_s2
   rw[ckT (by omega),if_pos (show(i:Int)<((row g v).length:Int) by omega),ckT (by omega),ckT (show 0<=(i:Int)∧(i:Int)<((row g v).length:Int) by omega)]
   have hu:=((hn v hv).links i hi).1
   obtain⟨u,hu'⟩:∃u:Nat,(lnk (row g v) i).1=u:=⟨(lnk (row g v) i).1.toNat,by omega⟩
   have hun:u<g.2.length:=by omega
   unfold SymAt
   rw[show(at' (at' g.2 (v:Int)) (i:Int))=lnk (row g v) i from rfl,hu',refPort_eq g u v hun (by have:=(hn u hun).deg;omega),bindS rfl]
   have hlk:=(hn u hun).links
   rcases portOf_cases (row g u) v with⟨j,hj,hjv,hjf,he⟩|⟨hf,he⟩
   ·rw[he,if_neg (by omega),ckT (by omega),ckT (show 0<=(j:Int)∧(j:Int)<((at' g.2 (u:Int)).length:Int)from⟨by omega,by have:j<(row g u).length:=hj;exact_mod_cast this⟩)]
    unfold ref01_Valid_k5
    constructor
    ·rintro⟨k,hk,hkv,hkw⟩
     have hkj:k=j:=by
      rcases Nat.lt_trichotomy k j with h|h|h
      ·exact absurd hkv (hjf k h)
      ·exact h
      ·exact absurd (hjv.trans hkv.symm) ((hlk k hk).2.2.2 j h)
     subst hkj
     rw[if_neg (by rw[decide_eq_false];simp;exact fun h=>h hkw),wr (by omega) (by omega)]
    ·intro h
     rw[if_pos]
     exact decide_eq_true fun hw=>h ⟨j,hj,hjv,hw⟩
   ·rw[he,if_pos (by decide)]
    exact⟨fun⟨j,hj,hjv,_⟩=>absurd hjv (hf j hj),fun _=>rfl⟩
  refine iter_if (row g v).length _ (fun i ag2 hi hp=>(body i ag2 hi).1 hp) (fun i ag2 hi hp=>(body i ag2 hi).2 hp) (fun ag2=> ?_) 1000 (by omega)
  unfold ref01_Valid_s2 ref01_Valid_k4
  rw[ckT (by omega),if_neg (show¬(((row g v).length:Nat):Int)<((row g v).length:Int) by omega),wr (by omega) (by omega)]
 have outer2:=iter_if (step:=ref01_Valid_s1 1000 g) (K:=some true) (bad:=false) g.2.length (fun v=>∀i,i<(row g v).length->SymAt g v i) (fun v ag hv hp=> ?_) (fun v ag hv hp=> ?_) (fun ag=> ?_) 1000 (by omega)
 ·exact⟨fun h=>outer2.1 h.sym,fun h=>outer2.2 fun hs=>h ⟨h1.1,h1.2,h2,hn,hs⟩⟩
 ·unfold ref01_Valid_s1
  rw[if_pos (by omega)]
  exact(inner v ag hv).1 hp
 ·unfold ref01_Valid_s1
  rw[if_pos (by omega)]
  exact(inner v ag hv).2 hp
 ·unfold ref01_Valid_s1 ref01_Valid_k3
  rw[if_neg (by omega)]
theorem symmetric_gen (ps:List (List (Int×Int))) (hn:ps.length<=30):(SymPs ps->m_graph_symmetric 1000 ps=some true)∧(¬SymPs ps->m_graph_symmetric 1000 ps=some false):=by
 unfold m_graph_symmetric
 have inner:∀(v:Nat) (m:List ((Int×Int)×Int)) ag,v<ps.length->(∀z,z∈m↔Read ps v 0 z)->
   (LinksOk (at' ps (v:Int)) v ps.length->∃m',(∀z,z∈m'↔Read ps (v+1) 0 z)∧iter (graph_symmetric_s3 ps ((v:Int),m) ag) 1000 ((0:Int),m)=ag ((v:Int)+1,m'))∧
   (¬LinksOk (at' ps (v:Int)) v ps.length->iter (graph_symmetric_s3 ps ((v:Int),m) ag) 1000 ((0:Int),m)=some false):=by
  intro v m ag hv hm
  have hbnd:=row_bound hn hv
  have key:=iter_ifB (step:=graph_symmetric_s3 ps ((v:Int),m) ag) (K:=fun x=>ag ((v:Int)+1,x.2)) (bad:=false) (at' ps (v:Int)).length (LinkOk (at' ps (v:Int)) v ps.length) (fun i x=>x.1=(i:Int)∧∀z,z∈x.2↔Read ps v i z) 1000 ?_ ?_ ?_ 1000 ((0:Int),m) ⟨rfl,hm⟩ (by omega) hbnd
  ·refine⟨fun h=> ?_,fun h=>key.2 h⟩
   obtain⟨x,⟨hx1,hx2⟩,hx⟩:=key.1 h
   refine⟨x.2,fun z=>(hx2 z).trans ⟨?_,?_⟩,hx⟩
   ·rintro⟨a,b,h1,h2,h3⟩;exact⟨a,b,by omega,h2,h3⟩
   ·rintro⟨a,b,h1,h2,h3⟩
    refine⟨a,b,?_,h2,h3⟩
    by_cases ha:a=v
    ·subst ha;exact .inr ⟨rfl,h2⟩
    ·omega
  ·rintro i ⟨x1,x2⟩ ag2 hi hi2 ⟨hx,hs⟩ ⟨p1,p2,p3,p4⟩
   dsimp only at hx hs
   subst hx
   have hg:mget (((v:Int),(lnk (at' ps (v:Int)) i).1)) x2=none:=by
    apply mget_none
    intro w hw
    obtain⟨a,b,h1,h2,h3⟩:=(hs _).1 hw
    simp only[Prod.mk.injEq]at h3
    obtain⟨⟨h4,h5⟩,_⟩:=h3
    have:a=v:=by omega
    subst this
    have hb:b<i:=by omega
    exact p4 b hb h5.symm
   refine⟨((i:Int)+1,mset (((v:Int),(lnk (at' ps (v:Int)) i).1)) (lnk (at' ps (v:Int)) i).2 x2),⟨by simp,fun z=> ?_⟩,?_⟩
   ·dsimp only
    rw[mem_mset hg,hs]
    constructor
    ·rintro(rfl|⟨a,b,h1,h2,h3⟩)
     ·exact⟨v,i,.inr ⟨rfl,by omega⟩,hi,rfl⟩
     ·exact⟨a,b,by omega,h2,h3⟩
    ·rintro⟨a,b,h1,h2,h3⟩
     by_cases hab:a=v∧b=i
     ·left;rw[h3,hab.1,hab.2]
     ·right;exact⟨a,b,by omega,h2,h3⟩
   ·replace p1:0<=(at' (at' ps (v:Int)) (i:Int)).1∧(at' (at' ps (v:Int)) (i:Int)).1<=(ps.length:Int) - 1:=p1
    replace p3:1<=(at' (at' ps (v:Int)) (i:Int)).2∧(at' (at' ps (v:Int)) (i:Int)).2<=15:=p3
    unfold graph_symmetric_s3 graph_symmetric_k3 graph_symmetric_k4
    dsimp only
    rw[if_pos (by omega),ckT (by omega),if_neg (by omega),if_neg (by omega),if_neg (by rw[decide_eq_false p2];simp),if_neg (by omega),if_neg (by rw[decide_eq_false (by omega)];simp),hg,if_neg (by simp),wr (by omega) (by omega)]
  ·rintro i ⟨x1,x2⟩ ag2 hi hi2 ⟨hx,hs⟩ hp
   dsimp only at hx hs
   subst hx
   unfold graph_symmetric_s3 graph_symmetric_k3 graph_symmetric_k4
   dsimp only
   rw[if_pos (by omega),ckT (by omega)]
   by_cases h1:(lnk (at' ps (v:Int)) i).1<0
   ·rw[if_pos h1,if_pos rfl]
   rw[if_neg h1]
   by_cases h2:(ps.length:Int)<=(lnk (at' ps (v:Int)) i).1
   ·rw[if_pos h2,if_pos rfl]
   rw[if_neg h2]
   by_cases h3:(lnk (at' ps (v:Int)) i).1=v
   ·rw[if_pos (decide_eq_true h3)]
   rw[if_neg (by rw[decide_eq_false h3];simp)]
   by_cases h4:(lnk (at' ps (v:Int)) i).2<1
   ·rw[if_pos h4,if_pos rfl]
   rw[if_neg h4]
   by_cases h5:15<(lnk (at' ps (v:Int)) i).2
   ·rw[if_pos (decide_eq_true h5)]
   rw[if_neg (by rw[decide_eq_false h5];simp)]
   have:∃k,k<i∧(lnk (at' ps (v:Int)) k).1=(lnk (at' ps (v:Int)) i).1:=by
    apply Classical.byContradiction
    intro hc
    exact hp ⟨by omega,h3,by omega,fun k hk he=>hc ⟨k,hk,he⟩⟩
   obtain⟨k,hk,he⟩:=this
   have hin:=(hs _).2 ⟨v,k,.inr ⟨rfl,hk⟩,by omega,rfl⟩
   rw[if_pos]
   rw[<-he]
   cases hg:mget (((v:Int),(lnk (at' ps (v:Int)) k).1)) x2 with
   |some w=>rfl
   | none => exact absurd hin (by
     intro hin
     exact mget_none_mem hg hin)
  ·rintro⟨x1,x2⟩ ag2 ⟨hx,hs⟩ _
   dsimp only at hx hs
   subst hx
   unfold graph_symmetric_s3 graph_symmetric_k2
   dsimp only
   rw[if_neg (by omega),wr (by omega) (by omega)]
 have outer:=iter_ifS (step:=graph_symmetric_s2 1000 ps) (K:=fun x=>graph_symmetric_k1 x.2) (bad:=false) ps.length (fun v=>LinksOk (at' ps (v:Int)) v ps.length) (fun v x=>x.1=(v:Int)∧∀z,z∈x.2↔Read ps v 0 z) ?_ ?_ ?_ 1000 ((0:Int),[]) ⟨rfl,fun z=>⟨fun h=>(by cases h),fun⟨a,b,h1,_⟩=>(by omega)⟩⟩ (by omega)
 rotate_left
 ·rintro v ⟨x1,x2⟩ ag hv ⟨hx,hs⟩ hp
  dsimp only at hx hs
  subst hx
  obtain⟨m',h1,h2⟩:=(inner v x2 ag hv hs).1 hp
  refine⟨((v:Int)+1,m'),⟨by simp,h1⟩,?_⟩
  ·unfold graph_symmetric_s2
   dsimp only
   rw[if_pos (by omega),ckT (by omega)]
   exact h2
 ·rintro v ⟨x1,x2⟩ ag hv ⟨hx,hs⟩ hp
  dsimp only at hx hs
  subst hx
  unfold graph_symmetric_s2
  dsimp only
  rw[if_pos (by omega),ckT (by omega)]
  exact(inner v x2 ag hv hs).2 hp
 ·rintro⟨x1,x2⟩ ag ⟨hx,hs⟩
  dsimp only at hx hs
  subst hx
  unfold graph_symmetric_s2
  dsimp only
  rw[if_neg (by omega)]
 by_cases hL:∀v,v<ps.length->LinksOk (at' ps (v:Int)) v ps.length
 rotate_left
 ·exact⟨fun h=>absurd h.1 hL,fun _=>outer.2 hL⟩
 obtain⟨⟨x1,x2⟩,⟨hx,hs⟩,he⟩:=outer.1 hL
 rw[he]
 dsimp only at hs ⊢
 have hk:graph_symmetric_k1 x2=some (decide (∀z∈x2,¬(Option.getD (mget (z.1.2,z.1.1) x2) (0:Int))≠z.2)):=mrun_all (fun z:(Int×Int)×Int=>(Option.getD (mget (z.1.2,z.1.1) x2) (0:Int))≠z.2) x2
 rw[hk]
 have hiff:(∀z∈x2,¬(Option.getD (mget (z.1.2,z.1.1) x2) (0:Int))≠z.2)↔∀v,v<ps.length->∀i,i<(at' ps (v:Int)).length->SymAt ([],ps) v i:=by
  constructor
  ·intro h v hv i hi
   have hw:=(hL v hv i hi).2.2.1
   have hin:=(hs (((v:Int),(lnk (at' ps (v:Int)) i).1),(lnk (at' ps (v:Int)) i).2)).2 ⟨v,i,.inl hv,hi,rfl⟩
   have h2:=Decidable.not_not.1 (h _ hin)
   dsimp only at h2
   cases hg:mget ((lnk (at' ps (v:Int)) i).1,(v:Int)) x2 with
   |none=>rw[hg]at h2;simp only[Option.getD]at h2;omega
   | some w =>
    rw[hg]at h2;simp only[Option.getD]at h2
    obtain⟨a,b,h3,h4,h5⟩:=(hs _).1 (mget_some hg)
    simp only[Prod.mk.injEq]at h5
    obtain⟨⟨h6,h7⟩,h8⟩:=h5
    refine⟨b,?_,?_,?_⟩
    ·show b<(at' ps (lnk (at' ps (v:Int)) i).1).length
     rw[h6];exact h4
    ·show(lnk (at' ps (lnk (at' ps (v:Int)) i).1) b).1=v
     rw[h6];exact h7.symm
    ·show(lnk (at' ps (lnk (at' ps (v:Int)) i).1) b).2=(lnk (at' ps (v:Int)) i).2
     rw[h6,<-h8];exact h2
  ·intro h z hz hne
   obtain⟨a,b,h3,h4,rfl⟩:=(hs z).1 hz
   have ha:a<ps.length:=by omega
   apply hne
   obtain⟨j,hj1,hj2,hj3⟩:=h a ha b h4
   have hu:=(hL a ha b h4).1
   obtain⟨u,hu'⟩:∃u:Nat,(lnk (at' ps (a:Int)) b).1=u:=⟨(lnk (at' ps (a:Int)) b).1.toNat,by omega⟩
   replace hj1:j<(at' ps (lnk (at' ps (a:Int)) b).1).length:=hj1
   replace hj2:(lnk (at' ps (lnk (at' ps (a:Int)) b).1) j).1=a:=hj2
   replace hj3:(lnk (at' ps (lnk (at' ps (a:Int)) b).1) j).2=(lnk (at' ps (a:Int)) b).2:=hj3
   rw[hu']at hj1 hj2 hj3
   have hun:u<ps.length:=by omega
   dsimp only
   rw[hu',<-hj3]
   have hin:=(hs (((u:Int),(lnk (at' ps (u:Int)) j).1),(lnk (at' ps (u:Int)) j).2)).2 ⟨u,j,.inl hun,hj1,rfl⟩
   rw[hj2]at hin
   cases hg:mget ((u:Int),(a:Int)) x2 with
   |none=>exact absurd hin (mget_none_mem hg)
   | some w =>
    obtain⟨a',b',h3',h4',h5⟩:=(hs _).1 (mget_some hg)
    simp only[Prod.mk.injEq]at h5
    obtain⟨⟨h6,h7⟩,h8⟩:=h5
    have:a'=u:=by omega
    subst this
    have hbj:b'=j:=by
     rcases Nat.lt_trichotomy b' j with hl|hl|hl
     ·exact absurd (h7.symm.trans hj2.symm) ((hL a' hun j hj1).2.2.2 b' hl)
     ·exact hl
     ·exact absurd (hj2.trans h7) ((hL a' hun b' h4').2.2.2 j hl)
    subst hbj
    exact h8
 by_cases hS:∀v,v<ps.length->∀i,i<(at' ps (v:Int)).length->SymAt ([],ps) v i
 ·rw[decide_eq_true (hiff.2 hS)]
  exact⟨fun _=>rfl,fun h=>absurd ⟨hL,hS⟩ h⟩
 ·rw[decide_eq_false (fun h=>hS (hiff.1 h))]
  exact⟨fun h=>absurd h.2 hS,fun _=>rfl⟩
theorem valid_gen (g:GR):(VG g->m_graph_Valid 1000 g=some true)∧(¬VG g->m_graph_Valid 1000 g=some false):=by
 unfold m_graph_Valid graph_Valid_k1 graph_Valid_k2
 by_cases h1:g.1.length<1
 ·rw[if_pos (by omega)]
  exact⟨fun h=>by have:=h.n1;have:=h.len;omega,fun _=>rfl⟩
 rw[if_neg (by omega)]
 by_cases h2:24<g.1.length
 ·rw[if_pos (by omega)]
  exact⟨fun h=>by have:=h.n24;have:=h.len;omega,fun _=>rfl⟩
 rw[if_neg (by omega)]
 by_cases h3:g.1.length=g.2.length
 rotate_left
 ·rw[decide_eq_true (by omega)]
  exact⟨fun h=>absurd h.len h3,fun _=>rfl⟩
 rw[decide_eq_false (by omega),if_neg (by simp)]
 by_cases h4:∀k,k<g.1.length->IdOk g.1 k
 rotate_left
 ·rw[(differentIDs_eq g.1 (by omega)).2 h4,bindS rfl]
  exact⟨fun h=>absurd (fun k hk=>⟨(h.node k (by omega)).id,(h.node k (by omega)).ids⟩) h4,fun _=>rfl⟩
 rw[(differentIDs_eq g.1 (by omega)).1 h4,bindS rfl,if_pos rfl]
 by_cases h5:SymPs g.2
 ·rw[(symmetric_gen g.2 (by omega)).1 h5]
  exact⟨fun _=>rfl,fun h=>absurd ⟨by omega,by omega,h3,fun v hv=>⟨(h4 v (by omega)).1,deg_lt hv (h5.1 v hv),h5.1 v hv,(h4 v (by omega)).2⟩,h5.2⟩ h⟩
 ·rw[(symmetric_gen g.2 (by omega)).2 h5]
  exact⟨fun h=>absurd ⟨fun v hv=>(h.node v hv).links,h.sym⟩ h5,fun _=>rfl⟩
end Go.Proofs.YtfbkplemadmbfaaGreatDoor
end
end
section
namespace Go.Sx
theorem iter_for {X R:Type} {step:X->(X->Option R)->Option R} {K:Option R} (N:Nat) (F:Nat->X) (hstep:∀(k:Nat) ag,k<N->step (F k) ag=ag (F (k+1))) (hend:∀ag,step (F N) ag=K):∀fuel,N<fuel->iter step fuel (F 0)=K:=by
 have key:∀(d a fuel:Nat),a+d=N->d<fuel->iter step fuel (F a)=K:=by
  intro d
  induction d with
  |zero=>
   intro a fuel ha hf
   obtain rfl:a=N:=by omega
   obtain⟨f,rfl⟩:∃f,fuel=f+1:=⟨fuel - 1,by omega⟩
   exact hend _
  |succ d ih=>
   intro a fuel ha hf
   obtain⟨f,rfl⟩:∃f,fuel=f+1:=⟨fuel - 1,by omega⟩
   show step (F a) (iter step f)=K
   rw[hstep a _ (by omega)]
   exact ih (a+1) f (by omega) (by omega)
 exact fun fuel hf=>key N 0 fuel (by omega) hf
theorem iter_inv {X R:Type} {step:X->(X->Option R)->Option R} {K:X->Option R} (N:Nat) (I:Nat->X->Prop) (hstep:∀(k:Nat) x ag,k<N->I k x->∃x',I (k+1) x'∧step x ag=ag x') (hend:∀x ag,I N x->step x ag=K x):∀fuel x,I 0 x->N<fuel->∃x',I N x'∧iter step fuel x=K x':=by
 have key:∀(d a fuel:Nat) (x:X),a+d=N->d<fuel->I a x->∃x',I N x'∧iter step fuel x=K x':=by
  intro d
  induction d with
  |zero=>
   intro a fuel x ha hf hI
   obtain rfl:a=N:=by omega
   obtain⟨f,rfl⟩:∃f,fuel=f+1:=⟨fuel - 1,by omega⟩
   exact⟨x,hI,hend _ _ hI⟩
  |succ d ih=>
   intro a fuel x ha hf hI
   obtain⟨f,rfl⟩:∃f,fuel=f+1:=⟨fuel - 1,by omega⟩
   obtain⟨x',hI',hs⟩:=hstep a x (iter step f) (by omega) hI
   obtain⟨x2,h1,h2⟩:=ih (a+1) f x' (by omega) (by omega) hI'
   exact⟨x2,h1,by rw[<-h2];exact hs⟩
 exact fun fuel x hI hf=>key N 0 fuel x (by omega) hf hI
def anyN (q:Nat->Bool):Nat->Bool
 |0=>false
 |k+1=>anyN q k||q k
theorem anyN_iff {q:Nat->Bool}:∀{k:Nat},anyN q k=true↔∃i,i<k∧q i=true
 |0=>by simp[anyN]
 | k + 1 => by
  simp only[anyN,Bool.or_eq_true,anyN_iff (k:=k)]
  constructor
  ·rintro(⟨i,h1,h2⟩|h)
   ·exact⟨i,by omega,h2⟩
   ·exact⟨k,by omega,h⟩
  ·rintro⟨i,h1,h2⟩
   by_cases e:i=k
   ·subst e;exact .inr h2
   ·exact .inl ⟨i,by omega,h2⟩
def maskN (p:Nat->Bool):Nat->Nat
 |0=>0
 |k+1=>if p k then maskN p k ||| 2^k else maskN p k
theorem maskN_lt (p:Nat->Bool):∀k,maskN p k<2^k
 |0=>by simp[maskN]
 |k+1=>by
  have h:=maskN_lt p k
  simp only[maskN]
  split
  ·exact Nat.or_lt_two_pow (by omega) (Nat.pow_lt_pow_right (by omega) (by omega))
  ·omega
theorem maskN_bit (p:Nat->Bool) (j:Nat):∀k,(maskN p k).testBit j=(decide (j<k)&&p j)
 |0=>by simp[maskN]
 | k + 1 => by
  have h:=maskN_bit p j k
  simp only[maskN]
  by_cases e:j=k
  ·subst e
   cases hp:p j<;>simp[h,hp]
  ·have e2:decide (j<k+1)=decide (j<k):=decide_eq_decide.2 (by omega)
   have e3:¬k=j:=fun h=>e h.symm
   split
   ·rw[Nat.testBit_or,h,Nat.testBit_two_pow,e2];simp[e3]
   ·rw[h,e2]
end Go.Sx
end
section
namespace Go.Proofs.YtfbkplemadmbfaaGreatDoor
open Go.Sx
def ref01_Neighbours_k1  (a7:Int):Option (Int):=
 some (a7)
def ref01_Neighbours_k2 (a12:Int×Int) (ag11:(Int×Int)->Option (Int)) (a17:Int):Option (Int):=
 ag11 (a17,(wI .i64 (a12.2+(1:Int))))
def ref01_Neighbours_k3 (a22:Int×Int) (ag21:(Int×Int)->Option (Int)) (a28:Int):Option (Int):=
 ag21 (a28,(wI .i64 (a22.2+(1:Int))))
def ref01_Neighbours_s2 (fuel:Nat) (p0:List (Int)×(List (List (Int×Int)))) (p1:Int) (a12:Int×Int) (ag11:(Int×Int)->Option (Int)) (a22:Int×Int) (ag21:(Int×Int)->Option (Int)):Option (Int):=
 ck (0<=a12.2∧a12.2<(List.length p0.2:Int)) (if a22.2<(List.length (at' p0.2 a12.2):Int)then(ck (0<=a12.2∧a12.2<(List.length p0.2:Int)) (ck (0<=a22.2∧a22.2<(List.length (at' p0.2 a12.2):Int)) (Option.bind (m_ref01_Has fuel p1 ((at' (at' p0.2 a12.2) a22.2).1)) fun r32=>(if r32=true then(ck (0<=(wI .u64 a12.2)) (ref01_Neighbours_k3 a22 ag21 (bOr .u32 a22.1 (bShl .u32 (1:Int) (wI .u64 a12.2)))))else(ref01_Neighbours_k3 a22 ag21 (a22.1))))))else(ref01_Neighbours_k2 a12 ag11 (a22.1)))
def ref01_Neighbours_s1 (fuel:Nat) (p0:List (Int)×(List (List (Int×Int)))) (p1:Int) (a12:Int×Int) (ag11:(Int×Int)->Option (Int)):Option (Int):=
 if a12.2<(List.length p0.2:Int)then(iter (ref01_Neighbours_s2 fuel p0 p1 a12 ag11) fuel (a12.1,(0:Int)))else(ref01_Neighbours_k1  (a12.1))
def m_ref01_Neighbours (fuel:Nat) (p0:List (Int)×(List (List (Int×Int)))) (p1:Int):Option (Int):=
 Option.bind (m_ref01_Valid fuel ((p0.1,p0.2))) fun r2=>(if(!r2)=true then(some (0:Int))else(iter (ref01_Neighbours_s1 fuel p0 p1) fuel ((0:Int),(0:Int))))
theorem body36:HasBody Tryz.prog 36:=Tryz.call36
theorem t_ref01_Neighbours (fuel:Nat) {p0:List (Int)×(List (List (Int×Int)))} {p1:Int} (v0:Value)  (v1:Value)  (z2:List (Value×List (Int×Int))) (r:Int) (h:m_ref01_Neighbours fuel p0 p1=some r):
  Meets Tryz.prog 36 #[Value.agg #[v0,v1],Value.int .u32 (p1)] [Sl RI64 v0 p0.1,S2 RI64I64p v1 z2 p0.2] (fun x:Unit=>Value.int .u32 (r)) (fun x l=>l) (fun _ l=>l):=by
 refine Meets.of (vs:=[Value.agg #[v0,v1],Value.int .u32 (p1)]) Tryz.func36 rfl Tryz.ntmps36 rfl fun c=> ?_
 unfold m_ref01_Neighbours at h
 refine J.seq<|J.region<|J.loud (Loud.box (cs:=[v0,v1]) rfl rfl) rfl fun b1=>J.quiet (Y.assign rfl) rfl<|J.done<|J.thenN<|J.seq<|J.seq<|J.region<|J.quiet (Y.loadBAll 0 rfl rfl rfl rfl) rfl ?_
 have h:=bnd h;obtain⟨r2,hr3,h⟩:=h
 refine J.loud (Loud.callL body34 (t_ref01_Valid fuel v0 v1 z2 r2 hr3) rfl (LentAll.cons (Lent.fact 0 rfl) (LentAll.cons (Lent.fact 1 rfl) .nil)) (fun _ _=>rfl)) rfl fun x4=>J.quiet (Y.not rfl) rfl<|J.done<|J.thenN ?_
 refine J.cond (by exact rfl) (fun hp5=> ?_) (fun hp5=> ?_)
 ·have h:=ifP hp5 h
  refine J.seq<|J.region<|J.quiet (Y.assign rfl) rfl<|J.done<|J.thenN<|J.ret<|J.thenR ?_
  obtain rfl:=Option.some.inj h
  exact J.retG1 (()) rfl rfl (RV.tmp rfl) (SubM.nil) LentAll.nil
 ·have h:=ifBN hp5 h
  refine J.skip<|J.thenN<|J.seq<|J.region<|J.quiet (Y.assign rfl) rfl<|J.done<|J.thenN<|J.seq<|J.midI (A:=Int) (B:=Unit) (fun a7=>ref01_Neighbours_k1  a7=some r) (fun a7 b8=>[(5,Value.int .u32 (a7))]) (fun a7 b8=>[]) (fun a7 b8=>[Sl RI64 v0 p0.1,S2 RI64I64p v1 z2 p0.2]) ?_ ?_
  ·refine J.seq<|J.region<|J.quiet (Y.assign rfl) rfl<|J.done<|J.thenN<|J.block<|J.loopI (A:=Int×Int) (B:=Unit) (ref01_Neighbours_s1 fuel p0 p1) (fun a12 b13=>[(1,Value.int .u32 (p1)),(2,Value.pointer (some ⟨b1,0,none⟩)),(5,Value.int .u32 (a12.1)),(6,Value.int .i64 (a12.2))]) (fun a12 b13=>[Blk b1 [v0,v1] 25]) (fun a12 b13=>[Sl RI64 v0 p0.1,S2 RI64I64p v1 z2 p0.2]) ((0:Int),(0:Int)) (()) h SF (SubM.refl _) (LentAll.refl _ _) ?_
   clear h
   intro k14 a12 b13 h
   unfold ref01_Neighbours_s1 at h
   refine J.seq<|J.seq<|J.region<|J.quiet (Y.move rfl) rfl<|J.quiet (Y.fieldB rfl rfl rfl rfl rfl) rfl<|J.quiet (Y.loadB 0 rfl rfl rfl rfl rfl) rfl<|J.quiet (Y.lenN rfl (Lent.fact 1 rfl) rfl) rfl<|J.quiet (Y.lss rfl rfl) rfl<|J.done<|J.thenN ?_
   refine J.condD (by exact rfl) (fun hp15=> ?_) (fun hp15=> ?_)
   ·have h:=ifP hp15 h
    refine J.skip<|J.thenN<|J.seq<|J.midI (A:=Int) (B:=Unit) (fun a17=>ref01_Neighbours_k2 a12 (iter (ref01_Neighbours_s1 fuel p0 p1) k14) a17=some r) (fun a17 b18=>[(1,Value.int .u32 (p1)),(2,Value.pointer (some ⟨b1,0,none⟩)),(5,Value.int .u32 (a17)),(6,Value.int .i64 (a12.2))]) (fun a17 b18=>[Blk b1 [v0,v1] 25]) (fun a17 b18=>[Sl RI64 v0 p0.1,S2 RI64I64p v1 z2 p0.2]) ?_ ?_
    ·refine J.block<|J.seq<|J.region<|J.quiet (Y.assign rfl) rfl<|J.done<|J.thenN<|J.block<|J.loopI (A:=Int×Int) (B:=Unit) (ref01_Neighbours_s2 fuel p0 p1 a12 (iter (ref01_Neighbours_s1 fuel p0 p1) k14)) (fun a22 b23=>[(1,Value.int .u32 (p1)),(2,Value.pointer (some ⟨b1,0,none⟩)),(5,Value.int .u32 (a22.1)),(6,Value.int .i64 (a12.2)),(7,Value.int .i64 (a22.2))]) (fun a22 b23=>[Blk b1 [v0,v1] 25]) (fun a22 b23=>[Sl RI64 v0 p0.1,S2 RI64I64p v1 z2 p0.2]) (a12.1,(0:Int)) (()) h SF (SubM.refl _) (LentAll.refl _ _) ?_
     clear h
     intro k24 a22 b23 h
     unfold ref01_Neighbours_s2 at h
     refine J.seq<|J.seq<|J.region<|J.quiet (Y.move rfl) rfl<|J.quiet (Y.fieldB rfl rfl rfl rfl rfl) rfl<|J.quiet (Y.loadB 0 rfl rfl rfl rfl rfl) rfl<|J.quiet (Y.move rfl) rfl ?_
     have h:=ck_some h;obtain⟨hc25,h⟩:=h
     refine J.quiet (Y.indexN rfl rfl (Lent.fact 1 rfl) rfl rfl hc25) rfl<|J.quiet (Y.loadRow rfl (Lent.fact 1 rfl) rfl rfl hc25) rfl<|J.quiet (Y.lenS rfl (Lent.el (Lent.fact 1 rfl) hc25.1 hc25.2) rfl) rfl<|J.quiet (Y.lss rfl rfl) rfl<|J.done<|J.thenN ?_
     refine J.condD (by exact rfl) (fun hp26=> ?_) (fun hp26=> ?_)
     ·have h:=ifP hp26 h
      refine J.skip<|J.thenN<|J.seq<|J.midI (A:=Int) (B:=Unit) (fun a28=>ref01_Neighbours_k3 a22 (iter (ref01_Neighbours_s2 fuel p0 p1 a12 (iter (ref01_Neighbours_s1 fuel p0 p1) k14)) k24) a28=some r) (fun a28 b29=>[(1,Value.int .u32 (p1)),(2,Value.pointer (some ⟨b1,0,none⟩)),(5,Value.int .u32 (a28)),(6,Value.int .i64 (a12.2)),(7,Value.int .i64 (a22.2))]) (fun a28 b29=>[Blk b1 [v0,v1] 25]) (fun a28 b29=>[Sl RI64 v0 p0.1,S2 RI64I64p v1 z2 p0.2]) ?_ ?_
      ·refine J.block<|J.seq<|J.region<|J.quiet (Y.move rfl) rfl<|J.quiet (Y.fieldB rfl rfl rfl rfl rfl) rfl<|J.quiet (Y.loadB 0 rfl rfl rfl rfl rfl) rfl<|J.quiet (Y.move rfl) rfl ?_
       have h:=ck_some h;obtain⟨hc30,h⟩:=h
       refine J.quiet (Y.indexN rfl rfl (Lent.fact 1 rfl) rfl rfl hc30) rfl<|J.quiet (Y.loadRow rfl (Lent.fact 1 rfl) rfl rfl hc30) rfl<|J.quiet (Y.move rfl) rfl ?_
       have h:=ck_some h;obtain⟨hc31,h⟩:=h
       refine J.quiet (Y.indexS rfl rfl (Lent.el (Lent.fact 1 rfl) hc30.1 hc30.2) rfl rfl hc31) rfl<|J.quiet (Y.fieldEl rfl rfl rfl rfl rfl) rfl<|J.quiet (Y.loadS rfl (Lent.el (Lent.fact 1 rfl) hc30.1 hc30.2) rfl rfl rfl RI64I64pc0 hc31) rfl ?_
       have h:=bnd h;obtain⟨r32,hr33,h⟩:=h
       refine J.loud (Loud.callL body74 (t_ref01_Has fuel  r32 hr33) rfl .nil (fun _ _=>rfl)) rfl fun x34=>J.done<|J.thenN ?_
       refine J.cond (by exact rfl) (fun hp35=> ?_) (fun hp35=> ?_)
       ·have h:=ifP hp35 h
        refine J.region<|J.quiet (Y.move rfl) rfl<|J.quiet (Y.move rfl) rfl<|J.quiet (Y.conv rfl rfl rfl) rfl ?_
        have h:=ck_some h;obtain⟨hc36,h⟩:=h
        refine J.quiet (Y.shl rfl rfl hc36) rfl<|J.quiet (Y.or rfl rfl) rfl<|J.quiet (Y.assign rfl) rfl<|J.done<|J.inN<|J.thenN ?_
        exact J.meetI (bOr .u32 a22.1 (bShl .u32 (1:Int) (wI .u64 a12.2))) (()) h SF (SubM.refl _) (LentAll.refl _ _)
       ·have h:=ifBN hp35 h
        refine J.skip<|J.inN<|J.thenN ?_
        exact J.meetI (a22.1) (()) h SF (SubM.refl _) (LentAll.refl _ _)
      ·clear h
       intro a28 b29 h
       unfold ref01_Neighbours_k3 at h
       refine J.region<|J.quiet (Y.move rfl) rfl<|J.quiet (Y.addW rfl rfl) rfl<|J.quiet (Y.assign rfl) rfl<|J.done<|J.thenN ?_
       exact J.againI (a28,(wI .i64 (a22.2+(1:Int)))) (()) h SF (SubM.refl _) (LentAll.refl _ _)
     ·have h:=ifN hp26 h
      refine J.exit<|J.thenX<|J.thenX<|J.inX<|J.inN<|J.thenN ?_
      exact J.meetI (a22.1) (()) h SF (SubM.refl _) (LentAll.refl _ _)
    ·clear h
     intro a17 b18 h
     unfold ref01_Neighbours_k2 at h
     refine J.region<|J.quiet (Y.move rfl) rfl<|J.quiet (Y.addW rfl rfl) rfl<|J.quiet (Y.assign rfl) rfl<|J.done<|J.thenN ?_
     exact J.againI (a17,(wI .i64 (a12.2+(1:Int)))) (()) h SF (SubM.refl _) (LentAll.refl _ _)
   ·have h:=ifN hp15 h
    refine J.exit<|J.thenX<|J.thenX<|J.inX<|J.thenN ?_
    exact J.meetI (a12.1) (()) h SF (SubM.nil) (LentAll.refl _ _)
  ·clear h
   intro a7 b8 h
   unfold ref01_Neighbours_k1 at h
   refine J.seq<|J.region<|J.quiet (Y.move rfl) rfl<|J.quiet (Y.assign rfl) rfl<|J.done<|J.thenN<|J.ret ?_
   obtain rfl:=Option.some.inj h
   exact J.retG1 (()) rfl rfl (RV.tmp rfl) (SubM.refl _) LentAll.nil
end Go.Proofs.YtfbkplemadmbfaaGreatDoor
end
section
namespace Go.Proofs.YtfbkplemadmbfaaGreatDoor
open Go Go.Sx
theorem bAndN {a b:Nat} (ha:a<4294967296) (hb:b<4294967296):bAnd .u32 (a:Int) (b:Int)=((a &&& b:Nat):Int):=by rw[bAnd_eq,N32_nat ha,N32_nat hb]
theorem bOrN {a b:Nat} (ha:a<4294967296) (hb:b<4294967296):bOr .u32 (a:Int) (b:Int)=((a ||| b:Nat):Int):=by rw[bOr_eq,N32_nat ha,N32_nat hb]
theorem or_lt {a b:Nat} (ha:a<4294967296) (hb:b<4294967296):a ||| b<4294967296:=Nat.or_lt_two_pow (n:=32) ha hb
theorem and_lt {a b:Nat} (ha:a<4294967296):a &&& b<4294967296:=Nat.lt_of_le_of_lt Nat.and_le_left ha
theorem bOrBit {a k:Nat} (ha:a<4294967296) (hk:k<32):bOr .u32 (a:Int) (bShl .u32 1 (k:Int))=((a ||| 2^k:Nat):Int):=by rw[bShl1 hk,bOrN ha (pow32 hk)]
theorem noBit {a k:Nat} (hk:k<32) (ha:a<4294967296):bAnd .u32 (bShr .u32 (a:Int) (k:Int)) 1=0↔a.testBit k=false:=by
 have h1:N32 1=1:=N32_nat (a:=1) (by omega)
 rw[bShr_eq hk,bAnd_eq,N32_nat (Nat.lt_of_le_of_lt (Nat.div_le_self _ _) ha),h1,Nat.and_one_is_mod,Nat.testBit_eq_decide_div_mod_eq,decide_eq_false_iff_not]
 omega
theorem maskN32 (p:Nat->Bool) {k:Nat} (hk:k<=32):maskN p k<4294967296:=Nat.lt_of_lt_of_le (maskN_lt p k) (Nat.pow_le_pow_right (n:=2) (by omega) hk)
theorem nat_ext {a b:Nat} (h:∀i,a.testBit i=b.testBit i):a=b:=Nat.eq_of_testBit_eq h
def addB (q:Bool) (m v:Nat):Nat:=if q then m ||| 2^v else m
theorem addB_lt {q:Bool} {m v:Nat} (hm:m<4294967296) (hv:v<32):addB q m v<4294967296:=by
 unfold addB;split
 ·exact or_lt hm (pow32 hv)
 ·exact hm
theorem or_idem (m v:Nat):(m ||| 2^v) ||| 2^v=m ||| 2^v:=by rw[Nat.or_assoc,Nat.or_self]
theorem wInc {i:Nat} (h:i<1000000):wI .i64 ((i:Int)+1)=(i:Int)+1:=wr (by omega) (by omega)
theorem VG.to {g:GR} (hV:VG g) {v i:Nat} (hv:v<g.2.length) (hi:i<(row g v).length):∃u:Nat,u<g.2.length∧(lnk (row g v) i).1=(u:Int):=by
 obtain⟨u,h1,h2,_⟩:=hV.port hv hi
 exact⟨u,h1,h2⟩
def nbr (g:GR) (s:Nat) (v i:Nat):Bool:=s.testBit (lnk (row g v) i).1.toNat
theorem neighbours_eq {g:GR} (hV:VG g) {s:Nat} (hs:s<4294967296):m_ref01_Neighbours 1000 g (s:Int)=some ((maskN (fun v=>anyN (nbr g s v) (row g v).length) g.2.length:Nat):Int):=by
 have h24:=hV.n24
 unfold m_ref01_Neighbours
 rw[(refValid_gen g).1 hV,bindS rfl,if_neg (by simp)]
 refine iter_for (F:=fun v:Nat=>(((maskN (fun v=>anyN (nbr g s v) (row g v).length) v:Nat):Int),(v:Int))) g.2.length (fun v ag hv=> ?_) (fun ag=> ?_) 1000 (by omega)
 ·unfold ref01_Neighbours_s1
  simp only
  rw[if_pos (by omega)]
  have hdeg:(at' g.2 (v:Int)).length<g.2.length:=(hV.node v hv).deg
  have hm:=maskN32 (fun v=>anyN (nbr g s v) (row g v).length) (k:=v) (by omega)
  have key:=iter_for (step:=ref01_Neighbours_s2 1000 g (s:Int) (((maskN (fun v=>anyN (nbr g s v) (row g v).length) v:Nat):Int),(v:Int)) ag) (K:=ag (((addB (anyN (nbr g s v) (row g v).length) (maskN (fun v=>anyN (nbr g s v) (row g v).length) v) v:Nat):Int),(v:Int)+1)) (F:=fun i:Nat=>(((addB (anyN (nbr g s v) i) (maskN (fun v=>anyN (nbr g s v) (row g v).length) v) v:Nat):Int),(i:Int))) (row g v).length (fun i ag2 hi=> ?_) (fun ag2=> ?_) 1000 (by show(at' g.2 (v:Int)).length<1000;omega)
  ·exact key
  ·obtain⟨u,hu,hue⟩:=hV.to hv hi
   have hue':(at' (at' g.2 (v:Int)) (i:Int)).1=(u:Int):=hue
   have hi':i<(at' g.2 (v:Int)).length:=hi
   unfold ref01_Neighbours_s2 ref01_Neighbours_k3
   simp only
   rw[ckT (by omega),if_pos (by omega),ckT (by omega),ckT (by omega),hue',has_eq hs (by omega),bindS rfl,wU64 (by omega),wInc (by omega)]
   have hnb:nbr g s v i=s.testBit u:=by unfold nbr;rw[hue];rfl
   have ha:=addB_lt (q:=anyN (nbr g s v) i) hm (show v<32 by omega)
   by_cases hq:s.testBit u=true
   ·rw[if_pos hq,ckT (by omega),bOrBit ha (by omega)]
    have:anyN (nbr g s v) (i+1)=true:=by simp[anyN,hnb,hq]
    have e:addB (anyN (nbr g s v) i) (maskN (fun v=>anyN (nbr g s v) (row g v).length) v) v ||| 2^v=addB true (maskN (fun v=>anyN (nbr g s v) (row g v).length) v) v:=by
     unfold addB
     split
     ·exact or_idem _ _
     ·rfl
    rw[this,e];rfl
   ·rw[if_neg hq]
    have:anyN (nbr g s v) (i+1)=anyN (nbr g s v) i:=by simp[anyN,hnb,hq]
    simp only[this]
    rfl
  ·unfold ref01_Neighbours_s2 ref01_Neighbours_k2
   simp only
   rw[ckT (by omega),if_neg (by show¬(((row g v).length:Nat):Int)<((row g v).length:Int);omega),wInc (by omega)]
 ·unfold ref01_Neighbours_s1 ref01_Neighbours_k1
  simp only
  rw[if_neg (by omega)]
end Go.Proofs.YtfbkplemadmbfaaGreatDoor
end
section
namespace Go.Proofs.YtfbkplemadmbfaaGreatDoor
open Go Go.Sx
def Ball (g:GR) (s r v:Nat):Prop:=∃f,s.testBit f=true∧∃m,m<=r∧Walk g f m v
theorem Ball.lt {g:GR} (hV:VG g) {s r v:Nat} (h:Ball g s r v):v<g.2.length:=by
 obtain⟨f,_,m,_,hw⟩:=h
 exact Walk.lt hV hw
theorem Walk.from {g:GR} {s:Nat}:∀{k v:Nat},Walk g s k v->s<g.2.length
 |0,_,h=>h.2
 |_+1,_,h=>by obtain⟨u,h1,_⟩:=h;exact Walk.from h1
theorem ball_zero {g:GR} {s v:Nat}:Ball g s 0 v↔s.testBit v=true∧v<g.2.length:=by
 constructor
 ·rintro⟨f,hf,m,hm,hw⟩
  obtain rfl:m=0:=by omega
  obtain⟨rfl,h⟩:=hw
  exact⟨hf,h⟩
 ·rintro⟨h1,h2⟩
  exact⟨v,h1,0,by omega,rfl,h2⟩
theorem ball_succ {g:GR} (hV:VG g) {s r v:Nat}:Ball g s (r+1) v↔Ball g s r v∨(v<g.2.length∧∃u,Adj g v u∧Ball g s r u):=by
 constructor
 ·rintro⟨f,hf,m,hm,hw⟩
  by_cases h:m<=r
  ·exact .inl ⟨f,hf,m,h,hw⟩
  ·obtain⟨k,rfl⟩:∃k,m=k+1:=⟨m - 1,by omega⟩
   obtain⟨u,h1,h2⟩:=hw
   have hu:=Walk.lt hV h1
   exact .inr ⟨hV.adj_lt hu h2,u,hV.back hu h2,f,hf,k,by omega,h1⟩
 ·rintro(⟨f,hf,m,hm,hw⟩|⟨hv,u,ha,f,hf,m,hm,hw⟩)
  ·exact⟨f,hf,m,by omega,hw⟩
  ·exact⟨f,hf,m+1,by omega,u,hw,hV.back hv ha⟩
theorem ball_mono {g:GR} {s r q v:Nat} (h:Ball g s r v) (hq:r<=q):Ball g s q v:=by
 obtain⟨f,hf,m,hm,hw⟩:=h
 exact⟨f,hf,m,by omega,hw⟩
theorem ball_big {g:GR} (hV:VG g) {s r v:Nat} (h:Ball g s r v):Ball g s g.2.length v:=by
 obtain⟨f,hf,m,hm,hw⟩:=h
 have hs:=Walk.from hw
 have hv:=Walk.lt hV hw
 obtain⟨d,_,hd⟩:=search_ok hV hs
 have h1:=Dist.le hV hd hw
 have h2:=hd.hi v hv
 exact⟨f,hf,(D d v).toNat,by omega,Dist.pos hV hd hv h1.1⟩
structure Nr (g:GR) (s k:Nat) (l:List Int):Prop where
 len:l.length=g.2.length
 lo:∀v,v<g.2.length -> -1<=D l v
 hi:∀v,v<g.2.length->D l v<=(g.2.length:Int)
 near:∀v,v<g.2.length->0<=D l v->∃f,f<k∧s.testBit f=true∧Walk g f (D l v).toNat v
 le:∀v f m,f<k->s.testBit f=true->Walk g f m v->0<=D l v∧D l v<=m
theorem Nr.ball {g:GR} (hV:VG g) {s:Nat} {l:List Int} (h:Nr g s g.2.length l) {v r:Nat} (hv:v<g.2.length):(0<=D l v∧D l v<=(r:Int))↔Ball g s r v:=by
 constructor
 ·rintro⟨h1,h2⟩
  obtain⟨f,hf,hb,hw⟩:=h.near v hv h1
  exact⟨f,hb,_,by omega,hw⟩
 ·rintro⟨f,hb,m,hm,hw⟩
  have:=h.le v f m (Walk.from hw) hb hw
  omega
end Go.Proofs.YtfbkplemadmbfaaGreatDoor
end
