/- Models and proofs. Conditions: none. -/
import Derived.Test.YthnplbmmlbnelaaGreatZCLy1
import Derived.OpenShut
import Derived.JoinedCond
import Derived.Lib.AppendZeros
set_option linter.unusedVariables false
set_option linter.unusedSimpArgs false
set_option maxHeartbeats 4000000
set_option maxRecDepth 20000
section
set_option linter.unusedSectionVars false
namespace Go.Sx
open Go.RowKit Go.ChangeMaps
section
variable {κ ν:Type} [DecidableEq κ] {ek:κ->Value} {ev:ν->Value} {R:Type}
def rem (l:List (κ×ν)) (seen:List Nat):List (κ×ν):=((List.range l.length).filter (fun i=> !seen.contains i)).filterMap (fun i=>l[i]?)
end
section
variable {P:Program} {rd:Option Nat} {c:xK} {n:Sz} {σ σ':Fr} {M L M' L':List bB} {Q:Exit->Act->World->Prop} {ops:Array Oper} {rest:List Oper}
variable {d:Option Tmp} {ty:TypeId} {pos:String} {aft:Array Edge} {g:Option (Nat×Bool)}
variable {κ ν:Type} [DecidableEq κ] {ek:κ->Value} {ev:ν->Value} {R:Type}
theorem Cw.plain {kt:TypeId} {d:TypeDesc} (hu:P.underlying kt=some d) (chk:∀b k w,(Instr.checkKey b 10000 kt (ek k)).run P w = .ok () w) (now:∀a b,Instr.sameNow d (ek a) (ek b)=some (decide (a=b)))
  (same:∀k,Instr.sameBits 10000 (ek k) (ek k)=true):Cw P kt ek:=by
 refine⟨chk,fun {ν'} ev' k l w=> ?_,same⟩
 have fn:∀(l:List (κ×ν')) (i:Nat),Instr.findNow d (ek k) (AN ek ev' i l) i=some (ND ev' k i l):=by
  intro l
  induction l with
  |nil=>intro i;simp[AN,ND,Instr.findNow]
  |cons x xs ih=>
   intro i
   simp only[AN,ND,Instr.findNow,now]
   by_cases h:k=x.1
   ·simp[h]
   ·simp[h,ih]
 unfold Instr.findKey
 simp[run_underlying hu w,fn]
end
end Go.Sx
end
section
namespace Go.Sx
open Go.RowKit
section
section
variable {P:Program} {rd:Option Nat} {c:xK} {n:Sz} {σ σ':Fr} {M L M' L':List bB} {Q:Exit->Act->World->Prop} {ops:Array Oper} {rest:List Oper} {K:Act->World->Prop} {G:Act->World->Prop}
variable {d:Option Tmp} {D:Nat} {ty:TypeId} {pos:String} {aft:Array Edge} {g:Option (Nat×Bool)}
variable {α β:Type} {e:jN α} {r:iO α}
theorem Ln {A:Type} {val:A->Value} {M' L':A->List bB} {op:Op} (ho:aR P c n σ M L ⟨none,op,ty,pos,aft,none⟩ val M' L') (h:∀x,J c n σ (M' x) (L' x) (wpList P ops Q rest)):
  J c n σ M L (wpList P ops Q (⟨none,op,ty,pos,aft,none⟩::rest)):=fun a w s t=>
 jU rfl (FJ (kE (fun a' w' ⟨x,he,ht⟩=>by subst he;exact h x _ w' s ht) (ho a w s t)))
end
end
section
section
variable {P:Program} {rd:Option Nat} {c:xK} {n:Sz} {σ σ':Fr} {M L M' L':List bB} {Q:Exit->Act->World->Prop} {ops:Array Oper} {rest:List Oper} {K:Act->World->Prop} {G:Act->World->Prop}
variable {d:Option Tmp} {D:Nat} {ty:TypeId} {pos:String} {aft:Array Edge} {g:Option (Nat×Bool)}
variable {α β:Type} {e:jN α} {r:iO α}
theorem BH [cQ P] (i:Nat) {T T':TypeId} {s2:Nat} {z:Value} {dT:TypeDesc} {x y:Operand} {b:Nat} {cs vs:List Value} (hx:ev σ x=some (.pointer (some ⟨b,0,none⟩)))
  (hy:ev σ y=some (.agg vs.toArray)) (hv:vs.all one=true) (hM:M[i]? = some (dD b cs T')) (hT:cQ.tab P T=some ⟨dT,vs.length,s2,z⟩) (hl:Nat.beq vs.length cs.length=true):
  aR P c n σ M L ⟨none,.store T x y,ty,pos,aft,none⟩ (fun _:Unit=>undef) (fun _=>M.set i (dD b vs T')) (fun _=>L):=fun a w s t=>by
 obtain⟨F,hF⟩:=t.res hM
 have hlen:vs.length=cs.length:=Nat.eq_of_beq_eq_true hl
 have hone:∀v∈vs,v.oneCell'=true:=fun v hvm=>k_ (by simpa using List.all_eq_true.1 hv v hvm)
 obtain⟨iT,hiT,hsz,_,_⟩:=(cQ.ok hT).info
 have hst:=run_storeVar_row (P:=P) w b T' T cs.toArray vs.toArray hF.2 (by simp[hiT,hsz]) (by simp[hlen]) (by simpa using hone)
 have hrun:(execOp a.eval ⟨none,.store T x y,ty,pos,aft,none⟩).run P w = .ok .skip (w.setRow b vs.toArray):=by
  simp[execOp,s.eval hx,s.eval hy,Instr.storeAt,Instr.sureAddr,hst]
 simp only[Oper.wp,hrun,Oper.upon]
 exact⟨(),trivial,t.fill hM⟩
section
variable {l:List Oper} {m:List Nat} {k0:Nat} {H Bs:List (Nat×List bB×List bB)} {rs:List Nat}
theorem II {A:Type} {val:A->Value} {M' L':A->List bB} {i:Nat} {op:Op}
  (hi:l[i]? = some ⟨none,op,ty,pos,aft,none⟩) (hk:Nat.blt i k0=true) (hl:dO op=true) (ho:aR P c n σ M L ⟨none,op,ty,pos,aft,none⟩ val M' L')
  (hB:∀x,zD (before m i) (M' x) (L' x) Bs) (h:∀x,JR c n σ (M' x) (L' x) ((i,M,L)::H) Bs (RW P l.toArray Q (before m) (cO l) k0 rs)):
  JR c n σ M L H Bs (RW P l.toArray Q (before m) (cO l) k0 (i::rs)):=fun a w X Y s t hX hY=>by
 have hi':l.toArray[i]? = some ⟨none,op,ty,pos,aft,none⟩:=by simpa using hi
 simp only[RW,hi']
 rw[if_pos (by simp[Region.wanted])]
 refine .inr (.inr ⟨by simpa [Nat.blt_eq]using hk,by simp[cO,hi,hl],kE ?_ (ho a w s t)⟩)
 rintro a' w' ⟨x,rfl,ht⟩
 exact⟨(hB x).use ht hY,h x _ w' _ Y s ht ⟨rfl,t,hX⟩ hY⟩
end
theorem AV [cQ P] {T E:TypeId} {k s1 s2 s3 s4:Nat} {z z':Value} {dE:TypeDesc} {x y:Operand} {b:Nat} {i:Int} (j:Nat) (hx:ev σ x=some (.pointer (some ⟨b,0,none⟩))) (hy:ev σ y=some (.int .i64 i))
  (hT:cQ.tab P T=some ⟨.array k E,s1,s2,z⟩) (hE:cQ.tab P E=some ⟨dE,s3,s4,z'⟩) (h3:(s3==0)=false) (hi:i=(j:Int)) (hj:Nat.blt j k=true):
  Y P c n σ M L ⟨d,.indexAddr T x y,ty,pos,aft,g⟩ (.pointer (some ⟨b,j*s3,none⟩)):=by
 have hj':j<k:=by simpa [Nat.blt_eq]using hj
 have:=Ab (P:=P) (c:=c) (n:=n) (σ:=σ) (M:=M) (L:=L) (d:=d) (ty:=ty) (pos:=pos) (aft:=aft) (g:=g) (i:=i) hx hy hT hE h3 (by omega)
 rwa[show i.toNat=j by omega]at this
theorem Ea [cQ P] [Inhabited α] (j:Nat) {T:TypeId} {s2 k o q:Nat} {z:Value} {dT:TypeDesc} {x y:Operand} {v u:Value} {us:List Value} {i:Int} {xs:List α} (yv:α) (h:0<=i∧i<xs.length) (hx:ev σ x=some (Dm v (i.toNat*q+o))) (hy:ev σ y=some u)
  (hf:M[j]? = some (Ar e v xs)) (hq:e.sz=q) (hu:u.cells=us.toArray) (hk:us.length=k) (ho:Nat.ble (o+k) q=true) (hyv:e.enc yv=(e.enc (at' xs i)).take o++us++(e.enc (at' xs i)).drop (o+k)) (h1u:us.all one=true) (hT:cQ.tab P T=some ⟨dT,k,s2,z⟩):
  aR P c n σ M L ⟨none,.store T x y,ty,pos,aft,none⟩ (fun _:Unit=>undef) (fun _=>M.set j (Ar e v (xs.set i.toNat yv))) (fun _=>L):=fun a w s t=>by
 subst hq hk
 have hok:o+us.length<=e.sz:=by simpa using ho
 have hi:i.toNat<xs.length:=by omega
 have t0:=t
 obtain⟨hoo,FF,hO,hLL⟩:=t0
 obtain⟨h0,hone,hh⟩:=hO.res j _ hf
 rcases hh with⟨_,rfl⟩|⟨b,off,cap,T',cur,rfl,hFb,hbk,hcp,hc,ht⟩
 ·simp at hi
 -- the parts of the row
 obtain⟨l,x0,tl,hxs,hl⟩:∃l x0 tl,xs=l++x0::tl∧l.length=i.toNat:=⟨xs.take i.toNat,xs[i.toNat],xs.drop (i.toNat+1),by rw[List.getElem_cons_drop,List.take_append_drop],by simp;omega⟩
 have hat:at' xs i=x0:=by
  rw[at',List.getD_eq_getElem?_getD,<-hl,hxs,List.getElem?_append_right (Nat.le_refl _)];simp
 rw[hat]at hyv
 have eE:=e.len x0
 have eA:(cellsOf e l).length=i.toNat*e.sz:=by rw[dN,hl]
 have hcells:cellsOf e xs=cellsOf e l++(e.enc x0++cellsOf e tl):=by rw[hxs];simp[cellsOf]
 have hset:cellsOf e (xs.set i.toNat yv)=cellsOf e l++(e.enc yv++cellsOf e tl):=by
  have:xs.set i.toNat yv=l++yv::tl:=by rw[hxs,<-hl,List.set_append_right _ _ (Nat.le_refl _)];simp
  rw[this];simp[cellsOf]
 have hmul:xs.length*e.sz<=cap*e.sz:=Nat.mul_le_mul_right _ hcp
 obtain⟨Hd,R,hcur,hH⟩:∃Hd R,cur.toList=Hd++(cellsOf e l++(e.enc x0++(cellsOf e tl++R)))∧Hd.length=off:=by
  refine⟨cur.toList.take off,(cur.toList.drop off).drop (xs.length*e.sz),?_,by simp;omega⟩
  have e1:cellsOf e l++(e.enc x0++(cellsOf e tl++(cur.toList.drop off).drop (xs.length*e.sz)))=cur.toList.drop off:=by
   have:cellsOf e l++(e.enc x0++(cellsOf e tl++(cur.toList.drop off).drop (xs.length*e.sz)))=cellsOf e xs++(cur.toList.drop off).drop (xs.length*e.sz):=by rw[hcells];simp
   rw[this,<-ht,List.take_append_drop]
  rw[e1,List.take_append_drop]
 have hsize:cur.size=cur.toList.length:=by simp
 have hp1:cur.toList.take (off+(i.toNat*e.sz+o))=Hd++(cellsOf e l++(e.enc x0).take o):=by
  have:cur.toList=(Hd++(cellsOf e l++(e.enc x0).take o))++((e.enc x0).drop o++(cellsOf e tl++R)):=by
   rw[hcur,List.append_assoc,List.append_assoc,<-List.append_assoc ((e.enc x0).take o),List.take_append_drop]
  rw[this]
  exact List.take_left' (by simp[hH,eA,eE];omega)
 have hp2:cur.toList.drop (off+(i.toNat*e.sz+o)+us.length)=(e.enc x0).drop (o+us.length)++(cellsOf e tl++R):=by
  have:cur.toList=(Hd++(cellsOf e l++(e.enc x0).take (o+us.length)))++((e.enc x0).drop (o+us.length)++(cellsOf e tl++R)):=by
   rw[hcur,List.append_assoc,List.append_assoc,<-List.append_assoc ((e.enc x0).take (o+us.length)),List.take_append_drop]
  rw[this]
  exact List.drop_left' (by simp[hH,eA,eE];omega)
 have hbound:(i.toNat+1)*e.sz<=xs.length*e.sz:=Nat.mul_le_mul_right _ (by omega)
 have hb2:(i.toNat+1)*e.sz=i.toNat*e.sz+e.sz:=by rw[Nat.add_mul,Nat.one_mul]
 have hfit:off+(i.toNat*e.sz+o)+0+us.length<=cur.size:=by omega
 have hst:=run_storeCells_at P b (off+(i.toNat*e.sz+o)) T' us 0 cur w hbk hfit (fun u hu=>k_ (List.all_eq_true.1 h1u u hu))
 simp only[Nat.add_zero]at hst
 have hsz:(cQ.ok hT).run_size w=(cQ.ok hT).run_size w:=rfl
 have hrun:(execOp a.eval ⟨none,.store T x y,ty,pos,aft,none⟩).run P w = .ok .skip (w.setRow b (cur.toList.take (off+(i.toNat*e.sz+o))++us++cur.toList.drop (off+(i.toNat*e.sz+o)+us.length)).toArray):=by
  simp[execOp,s.eval hx,s.eval hy,Dm,Gk,Instr.storeAt,Instr.sureAddr,storeVar,hu,(cQ.ok hT).run_size w,dS,hst]
 simp only[Oper.wp,hrun,Oper.upon]
 refine⟨(),trivial,?_⟩
 refine CC hoo hO hLL hf rfl rfl rfl (by simp) (fun k _ hk'=>setRow_other w b k _ (fun e=>hk' (by subst e;exact hFb))) (F':=FF j) ?_ (fun k hk=> .inl hk)
 have hlen2:(e.enc yv).length=e.sz:=e.len yv
 refine⟨by simpa using h0,?_,.inr ⟨b,off,cap,T',_,by simp,hFb,setRow_heap w b _ _ T' _ hbk,by simpa using hcp,?_,?_⟩⟩
 ·rw[hset]
  rw[hcells]at hone
  simp only[List.all_append,Bool.and_eq_true]at hone ⊢
  refine⟨hone.1,?_,hone.2.2⟩
  rw[hyv]
  simp only[List.all_append,Bool.and_eq_true]
  refine⟨⟨List.all_eq_true.2 fun u hu=>List.all_eq_true.1 hone.2.1 u (List.mem_of_mem_take hu),h1u⟩,List.all_eq_true.2 fun u hu=>List.all_eq_true.1 hone.2.1 u (List.mem_of_mem_drop hu)⟩
 ·simp only[List.size_toArray,List.length_append,List.length_take,List.length_drop]
  omega
 ·show((cur.toList.take _++us++cur.toList.drop _).drop off).take ((xs.set i.toNat yv).length*e.sz)=_
  rw[hp1,hp2,hset,hyv,List.length_set]
  have e3:(Hd++(cellsOf e l++(e.enc x0).take o)++us++((e.enc x0).drop (o+us.length)++(cellsOf e tl++R)))=Hd++((cellsOf e l++(((e.enc x0).take o++us++(e.enc x0).drop (o+us.length))++cellsOf e tl))++R):=by simp
  rw[e3,<-hH,List.drop_left]
  refine List.take_left' ?_
  have hT2:(cellsOf e tl).length=tl.length*e.sz:=dN e tl
  have hxl:xs.length=i.toNat+1+tl.length:=by rw[hxs,<-hl];simp;omega
  rw[hyv]at hlen2
  rw[List.length_append,List.length_append,hlen2,eA,hT2,hxl,Nat.add_mul,Nat.add_mul,Nat.one_mul]
  omega
end
end
section
section
variable {P:Program} {rd:Option Nat} {c:xK} {n:Sz} {σ:Fr} {M L:List bB} {Q:Exit->Act->World->Prop} {ops:Array Oper} {rest:List Oper} {d:Option Tmp} {ty:TypeId} {pos:String} {aft:Array Edge} {g:Option (Nat×Bool)} {α:Type} {e:jN α} {r:iO α} {G:Act->World->Prop}
theorem SK (a b:ByteArray):(a==b)=decide (a=b):=by
 obtain⟨x⟩:=a
 obtain⟨y⟩:=b
 have:((⟨x⟩:ByteArray)==⟨y⟩)=(x==y):=rfl
 rw[this]
 by_cases h:x=y<;>simp[h]
def dC (a b:ByteArray):Bool:=a.toList==b.toList
theorem Ha {op:BinOp} {t:TypeId} {x y:Operand} {a b:ByteArray} {w:World}:(eqGuard op t x y (.string a) (.string b)).run P w = .ok () w:=by
 unfold eqGuard;cases op<;>simp
theorem cX {t t':TypeId} {x y:Operand} {a b:ByteArray} (hx:ev σ x=some (.string a)) (hy:ev σ y=some (.string b)):Y P c n σ M L ⟨d,.binOp .eql t x y t',ty,pos,aft,g⟩ (.bool (dC a b)):=fun ac w s _=>by
 simp[execOp,s.eval hx,s.eval hy,binOp,Op.stringOp,Ha,dC]
theorem Oc {t t':TypeId} {x y:Operand} {a b:ByteArray} (hx:ev σ x=some (.string a)) (hy:ev σ y=some (.string b)):Y P c n σ M L ⟨d,.binOp .neq t x y t',ty,pos,aft,g⟩ (.bool (!dC a b)):=fun ac w s _=>by
 simp[execOp,s.eval hx,s.eval hy,binOp,Op.stringOp,Ha,dC]
end
end
end Go.Sx
end
section
namespace Go.Sx
section
variable {P:Program} {M L:List bB} {α β γ:Type} {r:iO α} {s:iO γ} {q:iO β}
def Fh (s:ByteArray):List Int:=s.data.toList.map fun b=>(b.toNat:Int)
theorem Ac [cQ P] {c:xK} {n:Sz} {σ:Fr} {d:Option Tmp} {ty:TypeId} {pos:String} {aft:Array Edge} {g:Option (Nat×Bool)} {T:TypeId} {s1 s2:Nat} {z:Value} {x y:Operand} {s:ByteArray} {xs:List Int} {k:IntKind} {i:Int} (hx:ev σ x=some (.string s)) (hy:ev σ y=some (.int k i)) (hT:cQ.tab P T=some ⟨.string,s1,s2,z⟩) (hb:Fh s=xs) (h:0<=i∧i<xs.length):
  Y P c n σ M L ⟨d,.index T x y,ty,pos,aft,g⟩ (.int .u8 (at' xs i)):=fun a w st t=>by
 subst hb
 obtain⟨h0,h1⟩:=h
 obtain⟨j,rfl⟩:∃j:Nat,i=(j:Int):=⟨i.toNat,by omega⟩
 have hl:j<s.data.toList.length:=by unfold Fh at h1;simp at h1 ⊢;omega
 have hj:j<s.size:=by have:=Lib.size_eq s;simp at hl;omega
 have hg:s[j]? = some (s.data.toList[j]):=by
  rw[getElem?_pos s j hj];rfl
 have ha:at' (Fh s) (j:Int)=((s.data.toList[j]).toNat:Int):=by
  unfold at' Fh
  simp[List.getD_eq_getElem?_getD,List.getElem?_eq_getElem hl]
 rw[ha]
 simp[execOp,st.eval hx,st.eval hy,Instr.index,asIntOf,(cQ.ok hT).run_und w,hg]
end
end Go.Sx
end
section
namespace Go.Sx
open Go.RowKit
section
theorem bK.ix {M M':List bB} (l:List Nat) (hn:decide l.Nodup=true) (h:l.map (fun i=>M[i]?)=M'.map some):bK M M':=by
 have hn:l.Nodup:=of_decide_eq_true hn
 have hl:l.length=M'.length:=by simpa using congrArg List.length h
 refine⟨fun i=>l.getD i 0,fun i j hi hj e=> ?_,fun i m hm=> ?_⟩
 ·have h1:i<l.length:=by omega
  have h2:j<l.length:=by omega
  simp only[List.getD_eq_getElem?_getD,List.getElem?_eq_getElem h1,List.getElem?_eq_getElem h2,Option.getD_some]at e
  exact(List.getElem_inj hn).1 e
 ·have hi:i<l.length:=by rw[hl];exact(List.getElem?_eq_some_iff.1 hm).1
  have:=congrArg (fun q=>q[i]?) h
  simp only[List.getElem?_map,List.getElem?_eq_getElem hi,hm,Option.map_some,Option.some.injEq]at this
  simpa [List.getD_eq_getElem?_getD,List.getElem?_eq_getElem hi]using this
end
section
variable {P:Program} {rd:Option Nat} {c:xK} {n:Sz} {σ:Fr} {M L:List bB} {Q:Exit->Act->World->Prop} {ops:Array Oper} {rest:List Oper} {d:Nat} {ty:TypeId} {pos:String} {aft:Array Edge} {x y:Operand} {v:Value} {K:Act->World->Prop}
abbrev vS (x:ByteArray):Value:= .string x
abbrev vB (x:Bool):Value:= .bool x
theorem eO {β:Type} {p G:Prop} {_:Decidable p} {u:Option β} {r:β} (h:ck p u=some r) (k:p->u=some r->G):G:=k (HQ h).1 (HQ h).2
theorem eM {β γ:Type} {G:Prop} {u:Option β} {f:β->Option γ} {r:γ} (h:u.bind f=some r) (k:∀y,u=some y->f y=some r->G):G:=by
  obtain⟨y,h1,h2⟩:=ZS h
  exact k y h1 h2
theorem hI (l:List Nat) {L0:List bB} (h:l.map (L[·]?)=L0.map some):aO M L L0:=fun f hf=>by
  have hm:some f∈l.map (L[·]?):=h▸List.mem_map_of_mem hf
  obtain⟨j,_,hj⟩:=List.mem_map.1 hm
  exact dA j hj
theorem tM.ix (l:List Nat) {L0:List bB} (h:l.map (L[·]?)=L0.map some):tM L L0:=fun f hf=>by
  have hm:some f∈l.map (L[·]?):=h▸List.mem_map_of_mem hf
  obtain⟨j,_,hj⟩:=List.mem_map.1 hm
  exact List.mem_of_getElem? hj
theorem lN {f:bB} (i:Nat) (h:L[i]? = some f):tM L [f]:=tM.cons (List.mem_of_getElem? h) tM.nil
/-- which of the early loads must still hold,with the numbers of what they have read -/
def Tq (A:Nat->Bool):List (List Nat×List Nat)->List (Nat×List bB×List bB)->List (List Nat×List Nat×List bB×List bB)
  |_,[]=>[]
  |q,(j,Mx,Lx)::B=>bif A j||(Mx.isEmpty&&Lx.isEmpty)then Tq A q B else((q.headD ([],[])).1,(q.headD ([],[])).2,Mx,Lx)::Tq A q.tail B
theorem CJ {A:Nat->Bool} (q:List (List Nat×List Nat)) {B:List (Nat×List bB×List bB)} (h:(Tq A q B).map (fun z=>(decide z.1.Nodup,z.1.map (M[·]?),z.2.1.map (L[·]?)))=(Tq A q B).map (fun z=>(true,z.2.2.1.map some,z.2.2.2.map some))):zD A M L B:=by
  induction B generalizing q with
  |nil=>exact zD.z
  | cons b B ih =>
    obtain⟨j,Mx,Lx⟩:=b
    cases ha:A j with
    |true=>exact zD.b ha (ih q (by simpa [Tq,ha]using h))
    | false =>
      cases he:(Mx.isEmpty&&Lx.isEmpty)with
      | true =>
        obtain⟨e1,e2⟩:=Bool.and_eq_true_iff.1 he
        rw[List.isEmpty_iff]at e1 e2
        subst e1;subst e2
        exact zD.h bK.nil tM.nil (ih q (by simpa [Tq,ha]using h))
      | false =>
        simp only[Tq,ha,he,Bool.or_self,cond_false,List.map_cons,List.cons.injEq,Prod.mk.injEq]at h
        exact zD.h (bK.ix _ h.1.1 h.1.2.1) (tM.ix _ h.1.2.2) (ih q.tail h.2)
def Wd (A:Nat->Bool):List (Nat×List bB×List bB)->Bool
  | []=>true
  |(j,_,_)::H=>bif A j then Wd A H else false
theorem LD {A:Nat->Bool} {Mx Lx:List bB} {H:List (Nat×List bB×List bB)} (h:Wd A H=true):bD A Mx Lx H:=by
  induction H with
  |nil=>exact bD.z
  | cons b B ih =>
    obtain⟨j,_,_⟩:=b
    cases ha:A j with
    |false=>simp[Wd,ha]at h
    |true=>exact bD.b ha (ih (by simpa [Wd,ha]using h))
theorem UW {A:Nat->Bool} {H:List (Nat×List bB×List bB)}:bD A [] [] H:=by
  induction H with
  |nil=>exact bD.z
  |cons b B ih=>exact bD.h bK.nil tM.nil ih
theorem bO {T:Operand} (h:(ev σ T,ev σ x,Nat.blt d n.sz)=(some (.bool true),some v,true)) (k:J c n ((d,v)::σ) M L (wpList P ops Q rest)):J c n σ M L (wpList P ops Q (⟨some d,.pick T x y,ty,pos,aft,none⟩::rest)):=by
  simp only[Prod.mk.injEq]at h
  exact aD (vT h.1 h.2.1) h.2.2 k
theorem bR {T:Operand} (h:(ev σ T,ev σ y,Nat.blt d n.sz)=(some (.bool false),some v,true)) (k:J c n ((d,v)::σ) M L (wpList P ops Q rest)):J c n σ M L (wpList P ops Q (⟨some d,.pick T x y,ty,pos,aft,none⟩::rest)):=by
  simp only[Prod.mk.injEq]at h
  exact aD (qI h.1 h.2.1) h.2.2 k
theorem gI {vs:List Value} {i:Nat} (h:(ev σ x,vs[i]?,Nat.blt d n.sz)=(some (.tuple vs.toArray),some v,true)) (k:J c n ((d,v)::σ) M L (wpList P ops Q rest)):J c n σ M L (wpList P ops Q (⟨some d,.extract x i,ty,pos,aft,none⟩::rest)):=by
  simp only[Prod.mk.injEq]at h
  exact aD (ML h.1 h.2.1) h.2.2 k
theorem rV {t t':TypeId} {i:IntKind} {p q:Int} (h:(ev σ x,ev σ y,Nat.blt d n.sz)=(some (.int i p),some (.int i q),true)) (k:J c n ((d,.bool (decide (p≠q)))::σ) M L (wpList P ops Q rest)):J c n σ M L (wpList P ops Q (⟨some d,.binOp .neq t x y t',ty,pos,aft,none⟩::rest)):=by
  simp only[Prod.mk.injEq]at h
  exact aD (xB h.1 h.2.1) h.2.2 k
theorem Eo {t t':TypeId} {i:IntKind} {p q:Int} (h:(ev σ x,ev σ y,Nat.blt d n.sz)=(some (.int i p),some (.int i q),true)) (k:J c n ((d,.int i (oY i p q))::σ) M L (wpList P ops Q rest)):J c n σ M L (wpList P ops Q (⟨some d,.binOp .and t x y t',ty,pos,aft,none⟩::rest)):=by
  simp only[Prod.mk.injEq]at h
  exact aD (IW h.1 h.2.1) h.2.2 k
theorem cY [cQ P] {α:Type} {r:iO α} {T E:TypeId} {s1 s2:Nat} {z:Value} {xs:List α} (hf:aM M L (Sl r v xs)) (h:(ev σ x,cQ.tab P T,Nat.blt d n.sz)=(some v,some ⟨.slice E,s1,s2,z⟩,true)) (k:J c n ((d,.int .i64 xs.length)::σ) M L (wpList P ops Q rest)):J c n σ M L (wpList P ops Q (⟨some d,.call ⟨.builtin .len,#[x],#[T]⟩,ty,pos,aft,none⟩::rest)):=by
  simp only[Prod.mk.injEq]at h
  exact aD (eX h.1 hf h.2.1) h.2.2 k
variable {l:List Oper} {m:List Nat} {k0:Nat} {H Bs:List (Nat×List bB×List bB)} {rs:List Nat}
theorem Gi {id:Nat} {r:List Nat} (m:List Nat) (k0:Nat) (hm:P.follows .mixedOrders=true) (h:JR c n σ M L [] [] (RW P l.toArray Q (before m) (cO l) k0 r)) (hc:chk l m k0=true:=by decide +kernel) (e:List.range l.length=r:=by exact rfl) (hd:l.all fV=true:=by rfl):J c n σ M L ((Code.region id l.toArray true).wpr rd P Q):=IJ m k0 hm hc (JR.open e h) hd
theorem rH {i dd:Nat} {op:Op} (hi:l[i]? = some ⟨some dd,op,ty,pos,aft,none⟩) (hy:Y P c n σ [] [] ⟨some dd,op,ty,pos,aft,none⟩ v)
    (h:JR c n ((dd,v)::σ) M L H ((i,[],[])::Bs) (RW P l.toArray Q (before m) (cO l) k0 rs))
    (hk:Nat.blt i k0=true:=by exact rfl) (hl:dO op=false:=by exact rfl) (hd:Nat.blt dd n.sz=true:=by exact rfl):JR c n σ M L H Bs (RW P l.toArray Q (before m) (cO l) k0 (i::rs)):=cN hi bK.nil tM.nil hy UW h hk hl hd
theorem dB {f:bB} (h:L[0]? =some f):aM M L f:=dA 0 h
theorem eZ {f:bB} (h:L[1]? =some f):aM M L f:=dA 1 h
theorem Ck {f:bB} (h:L[2]? =some f):aM M L f:=dA 2 h
end
end Go.Sx
end
section
namespace Go.Sx
section
abbrev bV:=List Int
abbrev cA:=List (Int×Int)
abbrev d_:=List bV
abbrev aaS:=List cA
abbrev dZ:=ByteArray×(List (ByteArray×Int×Int×Int×Int×Int))×(List (ByteArray×cA×(List (Int×cA))))
abbrev xZ:=((ByteArray×(List (ByteArray×Int×Int×Int×Int×Int))×(List (ByteArray×cA×(List (Int×cA)))))×Int)
abbrev oM:=ByteArray×cA×(List (Int×cA))
abbrev fZ:=(Int×Int)
abbrev EB:=List (ByteArray×cA×(List (Int×cA)))
abbrev GE:=List (ByteArray×Int×Int×Int×Int×Int)
abbrev JI:=bV×(List (ByteArray×Int×Int×Int×Int×Int))
abbrev Gd:=ByteArray×Int×Int×Int×Int×Int
abbrev JJ:=((ByteArray×cA×(List (Int×cA))))
abbrev lO:=Int×Int
abbrev mY:=(cA×Int)
abbrev nT:=List Value
abbrev Ml:=(Int×bV×(List (ByteArray×Int×Int×Int×Int×Int)))
abbrev Hl:=(Int×Int×bV×List (Bool)×Int)
abbrev Mm:=Int×bV×(List (ByteArray×Int×Int×Int×Int×Int))
abbrev Hm:=Int×Int×bV×List (Bool)×Int
abbrev Mn:=(Int×(List (ByteArray×cA×(List (Int×cA)))))
abbrev Mo:=Int×(List (ByteArray×cA×(List (Int×cA))))
abbrev zB:=Int×Int×Int
abbrev Hn:=Value×(List (Value×Value))
abbrev Mq:=(List (ByteArray×cA×(List (Int×cA))))
abbrev So:=(ByteArray×(List (ByteArray×Int×Int×Int×Int×Int))×(List (ByteArray×cA×(List (Int×cA)))))×Int
abbrev Dj:=List (Nat×Nat)
abbrev PS:=cA×(List (Int×cA))×cA×(List (Int×cA))
abbrev zX:=cA×bV
abbrev Mr:=(Int×(List (ByteArray×Bool)))
abbrev Ms:=Int×(List (ByteArray×Bool))
end
section
abbrev oI:Value:=Value.slice none 0 0
abbrev xJ:List Value:=[vS (ByteArray.mk #[]),oI,oI]
abbrev Wi:List Value:=[vS (ByteArray.mk #[]),vI (0:Int),vI (0:Int),vI (0:Int),vI (0:Int),vI (0:Int)]
end
end Go.Sx
end
section
namespace Go.Sx
open Go.RowKit
section
def Pw {α β:Type} (f:α->β->bB) (la:List α) (lb:List β):bB where
 p w S:=la.length=lb.length∧∀(i:Nat) a b,la[i]? = some a->lb[i]? = some b->(f a b).p w S
 mono:=fun⟨h1,h2⟩ h=>⟨h1,fun i a b ha hb=>(f a b).mono (h2 i a b ha hb) h⟩
section
variable {M L:List bB} {α β:Type} {f:α->β->bB} {la cs:List α} {lb ds:List β} {a:α} {b:β}
theorem mX:aM M L (Pw f [] []):=fun _ _ _ _ _ _ _ _=>⟨rfl,fun i a b ha=>by simp at ha⟩
theorem IM (n:Nat) (h:aM M L (f a b)):aM M L (Pw f (List.replicate n a) (List.replicate n b)):=fun w S T U h1 h2 h3 h4=>⟨by simp,fun i x y hx hy=>by
 obtain⟨_,rfl⟩:=List.mem_replicate.1 (List.mem_of_getElem? hx)
 obtain⟨_,rfl⟩:=List.mem_replicate.1 (List.mem_of_getElem? hy)
 exact h w S T U h1 h2 h3 h4⟩
theorem w_ (h:aM M L (Pw f la lb)) (k:aM M L (Pw f cs ds)):aM M L (Pw f (la++cs) (lb++ds)):=fun w S T U h1 h2 h3 h4=>by
 obtain⟨a1,a2⟩:=h w S T U h1 h2 h3 h4
 obtain⟨b1,b2⟩:=k w S T U h1 h2 h3 h4
 refine⟨by simp[a1,b1],fun i x y hx hy=> ?_⟩
 by_cases e:i<la.length
 ·rw[List.getElem?_append_left e]at hx
  rw[List.getElem?_append_left (by omega)]at hy
  exact a2 i x y hx hy
 ·rw[List.getElem?_append_right (by omega)]at hx
  rw[List.getElem?_append_right (by omega),<-a1]at hy
  exact b2 _ x y hx hy
theorem IL (h:aM M L (f a b)):aM M L (Pw f [a] [b]):=IM 1 h
theorem xM (h:aM M L (f a b)) (k:aM M L (Pw f la lb)):aM M L (Pw f (a::la) (b::lb)):=w_ (IL h) k
theorem bY [Inhabited α] [Inhabited β] {k:Int} (h:aM M L (Pw f la lb)) (h0:0<=k) (h1:k<lb.length):aM M L (f (at' la k) (at' lb k)):=h.mono fun {w U} hp=>by
 obtain⟨a1,a2⟩:=hp
 exact a2 k.toNat _ _ (lR h0 (by omega)) (lR h0 h1)
theorem bZ {g:bB} (h:aM [] L g):fX M L M (g::L):=fun c w ⟨ho,F,hF,hL⟩=>⟨ho,F,hF,fun x hx=>by
 rcases List.mem_cons.1 hx with rfl|hx
 ·exact h w (zI c F) (fun _ _=>False) (zI c F) hL (fun i m hm=>by simp at hm) (fun _ h=>h) (fun _ _ h=>h.elim)
 ·exact hL x hx⟩
theorem oD (M1 M2:List bB) {g:bB} (hM:bK M (M1++M2)) (h:aM M1 L g):fX M L M2 (g::L):=fun c w t=>by
 obtain⟨ho,F,hF,hL⟩:=t.weak hM (fun _ h=>h)
 refine⟨ho,fun i k=>i<M2.length∧F (i+M1.length) k,⟨fun i m hm=> ?_,fun i k hk=>hF.rng _ k hk.2,fun i j k hi hj=>by have:=hF.dis _ _ k hi.2 hj.2;omega⟩,fun x hx=> ?_⟩
 ·have hi:=aV hm
  exact bB.same (hF.res (i+M1.length) m (by rw[List.getElem?_append_right (by omega),Nat.add_sub_cancel];exact hm)) (fun k hk=>⟨hi,hk⟩) (fun _ _ _=>rfl)
 ·have wide:∀k,zI c F k->zI c (fun i k=>i<M2.length∧F (i+M1.length) k) k:=fun k hk=>⟨hk.1,fun i hi=>hk.2 _ hi.2⟩
  rcases List.mem_cons.1 hx with rfl|hx
  ·refine h w (zI c F) (fun i k=>i<M1.length∧F i k) _ hL (fun i m hm=> ?_) wide (fun i k hk=> ?_)
   ·have hi:=aV hm
    exact bB.same (hF.res i m (by rw[List.getElem?_append_left hi];exact hm)) (fun k hk=>⟨hi,hk⟩) (fun _ _ _=>rfl)
   ·refine⟨.inr (hF.rng i k hk.2).1,fun j hj=> ?_⟩
    have:=hF.dis _ _ k hk.2 hj.2
    omega
  ·exact bB.same (hL x hx) wide (fun _ _ _=>rfl)
end
end
section
section
variable {P:Program} {rd:Option Nat} {c:xK} {n:Sz} {σ:Fr} {M L:List bB} {Q:Exit->Act->World->Prop} {ops:Array Oper} {rest:List Oper} {d:Option Tmp} {ty:TypeId} {pos:String} {aft:Array Edge} {g:Option (Nat×Bool)} {α:Type} {e:jN α} {r:iO α}
@[reducible] def tg {β:Type} (_:Nat) (x:β):β:=x
end
end
end Go.Sx
end
section
namespace Go.Sx
open Go.RowKit Go.ChangeShapes Go.WideShapes Go.ChangeAt Go.Proofs Go.Joins Go.Deep
section
variable {H:Type} {enc:TypeId×Value->H} {P:Program} {w:World} {base:Nat} {spare:Nat->Bool} {held:Bool}
theorem BL {α:Type} (l:List α) (d:α):l=(List.range l.length).map fun i=>l.getD i d:=by
 apply List.ext_getElem?
 intro i
 by_cases h:i<l.length
 ·simp[h]
 ·simp[h]
theorem Pj {r:Reach} {b0:Nat} {t:TypeId} {fs:Array Field} {v:Value} {d:DataW H} {p:List MemPlace} (hs:P.underlying t=some (.struct fs)) (hone:oneCellFields P fs=true) (hC:P.cellsOf t=fs.size)
  (hv:Value.okWide P w r b0 t v) (h:DataW.Trod enc P w base spare held t v d p):
  ∃(V:Nat->Value) (Y:Nat->DataW H×List MemPlace) (n:Nat),v = .agg ((List.range fs.size).map V).toArray∧∀(i:Nat) (f:Field),fs[i]? = some f->DataW.trod enc P w base spare held n f.type [V i]=some (Y i):=by
 obtain⟨cs,rfl,hsz⟩:=okWide_struct hs hv
 obtain⟨fuel,hf⟩:=h
 obtain⟨xs,n,_,_,_,hlen,hg⟩:=DataW.trod_struct hs hf
 refine⟨fun i=>cs.toList.getD i undef,fun i=>xs.getD i (.nil,[]),n,?_,fun i f hi=> ?_⟩
 ·congr 1
  apply Array.toList_inj.1
  show cs.toList=(List.range fs.size).map fun i=>cs.toList.getD i undef
  have h2:fs.size=cs.toList.length:=by rw[<-hC,<-hsz];rfl
  rw[h2]
  exact BL cs.toList undef
 ·have hlt:i<fs.size:=(Array.getElem?_eq_some_iff.1 hi).1
  obtain⟨o,k⟩:=hone_of hone i f hi
  have g:=hg i f hi
  have hcl:(Value.cells (.agg cs)).toList=cs.toList:=rfl
  have hl:i<cs.toList.length:=by rw[Array.length_toList];omega
  rw[o,k,hcl,take1_drop _ _ undef hl]at g
  rw[g]
  have hx:i<xs.length:=by omega
  simp[hx]
theorem Qd {n:Int} (h:(Lit.int .u32 n).wf=true):0<=n∧n<4294967296:=by
 simp only[Lit.wf,Bool.and_eq_true,decide_eq_true_eq]at h
 have e1:IntKind.u32.min=0:=by decide
 have e2:IntKind.u32.max=4294967295:=by decide
 omega
end
end Go.Sx
end
section
namespace Go.Sx
open Go.RowKit
section
section
variable {P:Program} {rd:Option Nat} {c:xK} {n:Sz} {σ:Fr} {M L:List bB} {d:Option Tmp} {ty:TypeId} {pos:String} {aft:Array Edge} {g:Option (Nat×Bool)}
def Gm (s:ByteArray) (i:Int):Int:=((s[i.toNat]?).map fun b=>(b.toNat:Int)).getD 0
theorem xA [cQ P] {T:TypeId} {s1 s2:Nat} {z:Value} {x:Operand} {s:ByteArray} (hx:ev σ x=some (.string s)) (hT:cQ.tab P T=some ⟨.string,s1,s2,z⟩):
  Y P c n σ M L ⟨d,.call ⟨.builtin .len,#[x],#[T]⟩,ty,pos,aft,g⟩ (.int .i64 (s.size:Int)):=fun a w t _=>by
 simp[execOp,resolve,invoke,builtin,t.eval hx,Builtin.len_,(cQ.ok hT).run_und w,goInt]
theorem EG [cQ P] {T:TypeId} {s1 s2:Nat} {z:Value} {x y:Operand} {s:ByteArray} {i:Int} (hx:ev σ x=some (.string s)) (hy:ev σ y=some (.int .i64 i)) (hT:cQ.tab P T=some ⟨.string,s1,s2,z⟩) (h:0<=i∧i<(s.size:Int)):
  Y P c n σ M L ⟨d,.index T x y,ty,pos,aft,g⟩ (.int .u8 (Gm s i)):=fun a w t _=>by
 have hlt:i.toNat<s.size:=by omega
 have hs:s[i.toNat]? = some s[i.toNat]:=getElem?_pos s i.toNat hlt
 simp[execOp,t.eval hx,t.eval hy,Instr.index,asIntOf,(cQ.ok hT).run_und w,h.1,hs,Gm]
variable {α:Type} {e:jN α}
theorem Qo [cQ P] (j:Nat) {T E:TypeId} {s1 s2 s3 s4:Nat} {z z':Value} {dE:TypeDesc} {x hi:Operand} {v:Value} {i:Int} {xs:List α} (h:0<=i∧i<=xs.length) (hx:ev σ x=some v) (hhi:ev σ hi=some (.int .i64 i)) (hf:M[j]? = some (Ar e v xs))
  (hT:cQ.tab P T=some ⟨.slice E,s1,s2,z⟩) (hE:cQ.tab P E=some ⟨dE,s3,s4,z'⟩) (h3:e.sz=s3):
  aR P c n σ M L ⟨d,.slice T x none (some hi) none,ty,pos,aft,g⟩ (fun v':Value=>v') (fun v'=>M.set j (Ar e v' (xs.take i.toNat))) (fun _=>L):=fun a w s t=>by
 subst h3
 obtain⟨h0,h1⟩:=h
 obtain⟨F,hF⟩:=t.res hf
 have hlen:(xs.take i.toNat).length=i.toNat:=by rw[List.length_take];omega
 have hdl:(cellsOf e (xs.take i.toNat))=(cellsOf e xs).take (i.toNat*e.sz):=by
  have:cellsOf e xs=cellsOf e (xs.take i.toNat)++cellsOf e (xs.drop i.toNat):=by rw[<-pH,List.take_append_drop]
  have hl:(cellsOf e (xs.take i.toNat)).length=i.toNat*e.sz:=by rw[dN,hlen]
  rw[this,<-hl,List.take_left]
 have hall:(cellsOf e (xs.take i.toNat)).all one=true:=by
  rw[hdl,List.all_eq_true];intro u hu;exact List.all_eq_true.1 hF.2.1 u (List.mem_of_mem_take hu)
 obtain⟨hl,h1c,hh⟩:=hF
 rcases hh with⟨rfl,rfl⟩|⟨b,off,cap,T',cur,rfl,hFb,hb,hk,hc,ht⟩
 ·have hi0:i=0:=by simp at h1;omega
  subst hi0
  have hrun:(execOp a.eval ⟨d,.slice T x none (some hi) none,ty,pos,aft,g⟩).run P w = .ok (.value (.slice none 0 0)) w:=by
   simp[execOp,s.eval hx,s.eval hhi,Instr.sliceAt,Instr.slice,(cQ.ok hT).run_und w,Instr.sliceBounds,Instr.sliceBound,asIntOf,(cQ.ok hE).run_size w]
  simp only[Oper.wp,hrun,Oper.upon]
  refine⟨.slice none 0 0,rfl,?_⟩
  have:M.set j (Ar e (.slice none 0 0) (([]:List α).take (0:Int).toNat))=M:=by
   apply List.ext_getElem?
   intro q
   by_cases eq:q=j
   ·subst eq;rw[List.getElem?_set_self (aV hf),hf];rfl
   ·rw[List.getElem?_set_ne (Ne.symm eq)]
  rw[this];exact t
 ·have hle:i<=(xs.length:Int):=h1
  have hlc:i<=(cap:Int):=by omega
  have hrun:(execOp a.eval ⟨d,.slice T x none (some hi) none,ty,pos,aft,g⟩).run P w = .ok (.value (.slice (some ⟨b,off,none⟩) i.toNat cap)) w:=by
   simp[execOp,s.eval hx,s.eval hhi,Instr.sliceAt,Instr.slice,(cQ.ok hT).run_und w,Instr.sliceBounds,Instr.sliceBound,asIntOf,(cQ.ok hE).run_size w,h0,hlc,dS]
  simp only[Oper.wp,hrun,Oper.upon]
  refine⟨_,rfl,?_⟩
  refine t.upd hf rfl rfl rfl (Nat.le_refl _) fun F hF _=>⟨fun _ _ _=>rfl,F,?_,fun _ h=> .inl h⟩
  obtain⟨_,_,hh⟩:=hF
  rcases hh with⟨hv,_⟩|⟨b',off',cap',T'',cur',hv,hFb',hb',_⟩
  ·cases hv
  ·cases hv
   rw[hb]at hb';cases hb'
   refine⟨by rw[hlen];omega,hall,.inr ⟨b,off,cap,T',cur,by rw[hlen],hFb',hb,by rw[hlen];omega,hc,?_⟩⟩
   rw[hlen,hdl,<-ht,List.take_take,Nat.min_eq_left (Nat.mul_le_mul_right _ (by omega))]
theorem Kf {w:World} {F:Nat->Prop} {v:Value} {xs:List α} {k:Int} {sz:Nat} (hF:AM e w F v xs) (h0:0<=k) (h1:k<=(xs.length:Int)):AM e w F (It v (0:Int).toNat k.toNat sz) (xs.take k.toNat):=by
 have hlen:(xs.take k.toNat).length=k.toNat:=by rw[List.length_take];omega
 have hdl:(cellsOf e (xs.take k.toNat))=(cellsOf e xs).take (k.toNat*e.sz):=by
  have:cellsOf e xs=cellsOf e (xs.take k.toNat)++cellsOf e (xs.drop k.toNat):=by rw[<-pH,List.take_append_drop]
  have hl:(cellsOf e (xs.take k.toNat)).length=k.toNat*e.sz:=by rw[dN,hlen]
  rw[this,<-hl,List.take_left]
 have hall:(cellsOf e (xs.take k.toNat)).all one=true:=by
  rw[hdl,List.all_eq_true];intro u hu;exact List.all_eq_true.1 hF.2.1 u (List.mem_of_mem_take hu)
 obtain⟨hl,_,hh⟩:=hF
 rcases hh with⟨rfl,rfl⟩|⟨b,off,cap,T',cur,rfl,hFb,hb,hk,hc,ht⟩
 ·have hi0:k=0:=by simp at h1;omega
  subst hi0
  exact⟨by simp,rfl,.inl ⟨rfl,rfl⟩⟩
 ·have e1:It (.slice (some ⟨b,off,none⟩) xs.length cap) (0:Int).toNat k.toNat sz = .slice (some ⟨b,off,none⟩) k.toNat cap:=by
   unfold It
   simp[dS]
  rw[e1]
  refine⟨by rw[hlen];omega,hall,.inr ⟨b,off,cap,T',cur,by rw[hlen],hFb,hb,by rw[hlen];omega,hc,?_⟩⟩
  rw[hlen,hdl,<-ht,List.take_take,Nat.min_eq_left (Nat.mul_le_mul_right _ (by omega))]
theorem B_ (j:Nat) {v:Value} {xs:List α} {k:Int} {sz:Nat} (hf:M[j]? = some (Ar e v xs)) (h:0<=(0:Int)∧0<=k∧k<=(xs.length:Int)):fX M L (M.set j (Ar e (It v (0:Int).toNat k.toNat sz) (xs.take k.toNat))) L:=fun c w t=>
 t.upd hf rfl rfl rfl (Nat.le_refl _) fun F hF _=>⟨fun _ _ _=>rfl,F,Kf hF h.2.1 h.2.2,fun _ h=> .inl h⟩
end
end
section
def bB.and (f g:bB):bB where
 p w S:=f.p w S∧g.p w S
 mono:=fun h k=>⟨f.mono h.1 k,g.mono h.2 k⟩
def HA {β:Type} (q:iO β):iO (List β) where
 sz:=1
 pos:=Nat.one_pos
 R w S cs xs:=∃v,cs=[v]∧Dl q w S v xs
 len:=by rintro _ _ _ _ ⟨v,rfl,_⟩;rfl
 mono:=by rintro _ _ _ _ _ _ ⟨v,rfl,h⟩ k;exact⟨v,rfl,h.mono k⟩
def jN.rep1 {α:Type} (e:jN α):iO α where
 sz:=e.sz
 pos:=e.pos
 R _ _ cs x:=cs=e.enc x∧(e.enc x).all one=true
 len h:=by rw[h.1];exact e.len _
 mono h _:=h
theorem AM.rep1 {α:Type} {e:jN α} {w:World} {F:Nat->Prop} {v:Value} {xs:List α} (h:AM e w F v xs):Dl e.rep1 w F v xs:=by
 have h':=h
 obtain⟨hl,h1,hh⟩:=h
 rcases hh with⟨rfl,rfl⟩|⟨b,off,cap,T,cur,rfl,hF,hb,hk,hc,ht⟩
 ·exact⟨none,0,rfl,by simp,.inl rfl⟩
 ·refine⟨_,cap,rfl,by omega,.inr ⟨b,off,rfl,hF,fun i x hx=>⟨e.enc x,fun j u hu=> ?_,rfl,?_⟩⟩⟩
  ·have:=AM.cell h' hx hu
   simp only[Gk,dS]at this
   exact this
  ·refine List.all_eq_true.2 fun u hu=>List.all_eq_true.1 h1 u ?_
   simp only[cellsOf,List.mem_flatMap];exact⟨x,List.mem_of_getElem? hx,hu⟩
section
variable {P:Program} {rd:Option Nat} {c:xK} {n:Sz} {σ:Fr} {M L:List bB} {Q:Exit->Act->World->Prop} {ops:Array Oper} {rest:List Oper} {G:Act->World->Prop} {GR:Act->World->List (Nat×World)->List (Nat×(World->Prop))->Prop} {H Bs:List (Nat×List bB×List bB)}
variable {dt:Option Tmp} {ty:TypeId} {pos:String} {aft:Array Edge} {g:Option (Nat×Bool)}
variable {α δ:Type} {e:jN (α×δ)} {f:α->δ->bB} {r:iO δ} {v u:Value} {us us2:List α} {ds ds2:List δ}
structure Sw (e:jN (α×δ)) (f:α->δ->bB) (r:iO δ):Prop where
 sz:r.sz=e.sz
 fwd:∀{w S a d},(f a d).p w S->r.R w S (e.enc (a,d)) d
 bwd:∀{w S cs d},r.R w S cs d->∃a,cs=e.enc (a,d)∧(f a d).p w S
 one:∀{w S a d},(f a d).p w S->(e.enc (a,d)).all one=true
def Rz (e:jN (α×δ)) (v:Value) (us:List α) (ds:List δ):bB where
 p w S:=us.length=ds.length∧Dl e.rep1 w S v (us.zip ds)
 mono:=fun h k=>⟨h.1,h.2.mono k⟩
def Ad (e:jN (α×δ)) (v:Value) (us:List α) (ds:List δ):bB where
 p w F:=us.length=ds.length∧AM e w F v (us.zip ds)
 mono:=fun h k=>⟨h.1,(Ar e v (us.zip ds)).mono h.2 k⟩
theorem MG {i:Nat} {a:α} {d:δ} (ha:us[i]? = some a) (hd:ds[i]? = some d):(us.zip ds)[i]? = some (a,d):=List.getElem?_zip_eq_some.2 ⟨ha,hd⟩
theorem wZ (h:us.length=ds.length):(us.zip ds).length=ds.length:=by rw[List.length_zip];omega
theorem RX (h:us.length=ds.length):us.zip ds++us2.zip ds2=(us++us2).zip (ds++ds2):=(List.zip_append h).symm
theorem Ef {α:Type} (Pr:Nat->α->Prop):∀m:Nat,(∀i,i<m->∃a,Pr i a)->∃us:List α,us.length=m∧∀(i:Nat) a,us[i]? = some a->Pr i a
 |0,_=>⟨[],rfl,fun i a h=>by simp at h⟩
 | m + 1, h => by
  obtain⟨us,hl,hu⟩:=Ef Pr m fun i hi=>h i (by omega)
  obtain⟨a,ha⟩:=h m (by omega)
  refine⟨us++[a],by simp[hl],fun i b hb=> ?_⟩
  by_cases hi:i<us.length
  ·rw[List.getElem?_append_left hi]at hb;exact hu i b hb
  ·rw[List.getElem?_append_right (by omega)]at hb
   have h0:i - us.length=0:=by have:=aV hb;simp at this;omega
   rw[h0]at hb;simp at hb
   subst hb
   have:i=m:=by omega
   subst this;exact ha
theorem Rn (hD:Sw e f r) {w:World} {S:Nat->Prop} (h:Dl r w S v ds):∃us:List α,us.length=ds.length∧Dl e.rep1 w S v (us.zip ds)∧∀(i:Nat) a d,us[i]? = some a->ds[i]? = some d->(f a d).p w S:=by
 obtain⟨a,cap,hv,hb,h⟩:=h
 rcases h with rfl|⟨b,off,ha,hS,h⟩
 ·exact⟨[],rfl,⟨a,cap,hv,hb,.inl rfl⟩,fun i a d h=>by simp at h⟩
 ·obtain⟨us,hl,hu⟩:=Ef (fun i a=>∃d,ds[i]? = some d∧(∀j u,(e.enc (a,d))[j]? = some u->w.cell? ⟨b,off+(i*r.sz+j),none⟩=some u)∧(f a d).p w S) ds.length fun i hi=>by
   obtain⟨es,h1,h2⟩:=h i ds[i] (List.getElem?_eq_getElem hi)
   obtain⟨a,rfl,ha⟩:=hD.bwd h2
   exact⟨a,_,List.getElem?_eq_getElem hi,h1,ha⟩
  refine⟨us,hl,⟨a,cap,by rw[wZ hl];exact hv,by rw[wZ hl];exact hb,.inr ⟨b,off,ha,hS,fun i x hx=> ?_⟩⟩,fun i a d h1 h2=> ?_⟩
  ·obtain⟨a,d⟩:=x
   obtain⟨ha,hd⟩:=List.getElem?_zip_eq_some.1 hx
   obtain⟨d',hd',h1,h2⟩:=hu i a ha
   rw[hd]at hd';cases hd'
   exact⟨_,fun j u hj=>by rw[show e.rep1.sz=r.sz from hD.sz.symm];exact h1 j u hj,rfl,hD.one h2⟩
  ·obtain⟨d',hd',_,h3⟩:=hu i a h1
   rw[h2]at hd';cases hd'
   exact h3
theorem St.open (hD:Sw e f r) {w:World} (h:aM [] L (Sl r v ds)) (t:St c M L w):∃us,St c M (Rz e v us ds::Pw f us ds::L) w:=by
 obtain⟨ho,F,hF,hL⟩:=t
 have hs:=h w (zI c F) (fun _ _=>False) (zI c F) hL (fun i m hm=>by simp at hm) (fun _ h=>h) (fun _ _ h=>h.elim)
 obtain⟨us,h1,h2,h3⟩:=Rn hD hs
 refine⟨us,ho,F,hF,fun x hx=> ?_⟩
 rcases List.mem_cons.1 hx with rfl|hx
 ·exact⟨h1,h2⟩
 rcases List.mem_cons.1 hx with rfl|hx
 ·exact⟨h1,h3⟩
 ·exact hL x hx
theorem oJ (hD:Sw e f r) (h:aM [] L (Sl r v ds)) (k:∀us,J c n σ M (Rz e v us ds::Pw f us ds::L) G):J c n σ M L G:=fun a w s t=>by
 obtain⟨us,hu⟩:=St.open hD h t
 exact k us a w s hu
theorem tQ (hD:Sw e f r) (h:aM [] L (Sl r v ds)) (k:∀us,JR c n σ M (Rz e v us ds::Pw f us ds::L) H Bs GR):JR c n σ M L H Bs GR:=fun a w X Y s t hX hY=>by
 obtain⟨us,hu⟩:=St.open hD h t
 exact k us a w X Y s hu hX hY
theorem sL {i j:Nat} (hD:Sw e f r) (hi:M[i]? = some (Ad e v us ds)) (hj:L[j]? = some (Pw f us ds)):aM M L (Sl r v ds):=fun w S T U hL hM hS hT=>by
 obtain⟨hl,hp⟩:=hL _ (List.mem_of_getElem? hj)
 obtain⟨_,hA⟩:=hM i _ hi
 have hA:=AM.rep1 hA
 obtain⟨a,cap,hv,hb,h⟩:=hA
 rw[wZ hl]at hv hb
 refine⟨a,cap,hv,hb,?_⟩
 rcases h with h|⟨b,off,ha,hF,h⟩
 ·refine .inl (List.eq_nil_of_length_eq_zero ?_)
  rw[<-wZ hl,h];rfl
 ·refine .inr ⟨b,off,ha,hT i b hF,fun k d hd=> ?_⟩
  have hk:k<us.length:=by rw[hl];exact aV hd
  have ha':=List.getElem?_eq_getElem hk
  obtain⟨es,h1,h2,h3⟩:=h k _ (MG ha' hd)
  have hf:=hp k _ _ ha' hd
  exact⟨es,by rw[hD.sz];exact h1,by rw[h2];exact hD.fwd (bB.wide hf hS)⟩
theorem iY {f g:bB} (h:aM M L (f.and g)):aM M L f:=h.mono fun h=>h.1
theorem iC {f g:bB} (h:aM M L (f.and g)):aM M L g:=h.mono fun h=>h.2
theorem aM.and {f g:bB} (h:aM M L f) (k:aM M L g):aM M L (f.and g):=fun w S T U h1 h2 h3 h4=>⟨h w S T U h1 h2 h3 h4,k w S T U h1 h2 h3 h4⟩
theorem Me [Inhabited α] [Inhabited δ] {w:World} {S:Nat->Prop} (h:(Rz e v us ds).p w S) {i:Int} (h0:0<=i) (h1:i<ds.length):(e.enc (at' us i,at' ds i)).all one=true∧∀j u,(e.enc (at' us i,at' ds i))[j]? = some u->w.cell? (Gk v (i.toNat*e.sz+j))=some u:=by
 obtain⟨hl,h⟩:=h
 obtain⟨es,⟨rfl,h2⟩,h3⟩:=sl_cell h (MG (lR h0 (show i<us.length by omega)) (lR h0 h1))
 exact⟨h2,h3⟩
theorem tR [cQ P] [Inhabited α] [Inhabited δ] {T:TypeId} {s1 s2 q o:Nat} {z:Value} {dT:TypeDesc} {x:Operand} {i:Int} {gv:α->Value} (hx:ev σ x=some (Dm v (i.toNat*q+o))) (hf:aM M L (Rz e v us ds))
  (hT:cQ.tab P T=some ⟨dT,s1,s2,z⟩) (hd:xO dT=false) (hs:e.sz=q) (hc:∀a d,(e.enc (a,d))[o]? = some (gv a)) (h:0<=i∧i<ds.length):
  Y P c n σ M L ⟨dt,.load T x,ty,pos,aft,g⟩ (gv (at' us i)):=fun a w s t=>by
 obtain⟨S,h'⟩:=hf.st t
 have:=(Me h' h.1 h.2).2 o _ (hc _ _)
 rw[hs]at this
 simp[execOp,s.eval hx,Dm,zU (cQ.ok hT) hd this]
theorem eP [cQ P] [Inhabited α] [Inhabited δ] {T:TypeId} {s2 q:Nat} {z:Value} {dT:TypeDesc} {x:Operand} {i:Int} {cs:List Value} (hx:ev σ x=some (Dm v (i.toNat*q))) (hf:aM M L (Rz e v us ds)) (hcs:e.enc (at' us i,at' ds i)=cs)
  (hT:cQ.tab P T=some ⟨dT,cs.length,s2,z⟩) (hd:xO dT=true) (hq:e.sz=q) (h:0<=i∧i<ds.length):Y P c n σ M L ⟨dt,.load T x,ty,pos,aft,g⟩ (.agg cs.toArray):=fun a w s t=>by
 obtain⟨S,h'⟩:=hf.st t
 have hes:=(Me h' h.1 h.2).2
 subst hcs hq
 have:=yY (w:=w) (A:=Gk v (i.toNat*e.sz)) (cs:=e.enc (at' us i,at' ds i)) (cQ.ok hT) hd rfl (fun j u hu=>by rw[HU];exact hes j u hu)
 simp[execOp,s.eval hx,Dm,this]
theorem E_ {g0 g:bB} (i:Nat) (hi:M[i]? = some g0) (h:∀{w F},g0.p w F->g.p w F):fX M L (M.set i g) L:=fun c w t=>by
 obtain⟨ho,F,hF,hL⟩:=t
 have hlt:=aV hi
 refine⟨ho,F,⟨fun j m hm=> ?_,hF.rng,hF.dis⟩,hL⟩
 by_cases ej:i=j
 ·subst ej
  rw[List.getElem?_set_self hlt]at hm
  cases hm
  exact h (hF.res i _ hi)
 ·rw[List.getElem?_set_ne ej]at hm
  exact hF.res j m hm
theorem Bu (e:jN (α×δ)):fX M L (Ad e (.slice none 0 0) [] []::M) L:=fX.add fun _=>⟨rfl,by simp,rfl,.inl ⟨rfl,rfl⟩⟩
theorem aR.conv {A:Type} {o:Oper} {val:A->Value} {M1 M2 L1 L2:A->List bB} (h:aR P c n σ M L o val M1 L1) (k:∀x,fX (M1 x) (L1 x) (M2 x) (L2 x)):aR P c n σ M L o val M2 L2:=fun a w s t=>
 kE (fun _ _ ⟨x,h1,h2⟩=>⟨x,h1,k x c _ h2⟩) (h a w s t)
theorem yT [cQ P] {T E:TypeId} {k s1 s2 s3 s4:Nat} {z z':Value} {dE:TypeDesc} {ps:List (Nat×Operand)} (us:List α) (ds:List δ) (vs:List (Nat×Value))
  (hv:ps.map (fun p=>(p.1,ev σ p.2))=vs.map (fun p=>(p.1,some p.2))) (hT:cQ.tab P T=some ⟨.slice E,s1,s2,z⟩) (hE:cQ.tab P E=some ⟨dE,s3,s4,z'⟩) (hs:Nat.ble (k*s3) 16777216=true)
  (hfill:∀init:Array Value,init.size=k*s3->Instr.fill (fun i=>some (i*s3,s3)) init vs=some (cellsOf e (us.zip ds)).toArray)
  (hk:(us.zip ds).length=k) (hl:Nat.ble (us.zip ds).length 140737488355328=true) (h1:(cellsOf e (us.zip ds)).all one=true) (hu:us.length=ds.length):
  aR P c n σ M L ⟨dt,.buildSlice T k ps.toArray,ty,pos,aft,g⟩ (fun v:Value=>v) (fun v=>Ad e v us ds::M) (fun _=>L):=
 (iR (us.zip ds) vs hv hT hE hs hfill hk hl h1).conv fun v=>E_ 0 rfl fun h=>⟨hu,h⟩
theorem St.appendD [cQ P] {w:World} (t:St c M L w) {i:Nat} {x:Value} {T E ty:TypeId} {s1 s2 s4:Nat} {z z':Value} {dE:TypeDesc} (hf:M[i]? = some (Ad e v us ds)) (h2:us2.length=ds2.length) (hs:Src P e.sz T x ds2.length (cellsOf e (us2.zip ds2)) w) (h1y:(cellsOf e (us2.zip ds2)).all one=true)
  (hT:cQ.tab P T=some ⟨.slice E,s1,s2,z⟩) (hE:cQ.tab P E=some ⟨dE,e.sz,s4,z'⟩) (h4:Nat.ble s4 1024=true) (hl:(ds.length:Int)+ds2.length<=1099511627) (hz:z'.cells.size=e.sz):
  ∃v' w',(Builtin.append_ #[T,T] ty #[v,x]).run P w = .ok v' w'∧St c (M.set i (Ad e v' (us++us2) (ds++ds2))) L w':=by
 have h4':s4<=1024:=by simpa using h4
 obtain⟨_,h1⟩:=t.res hf
 have hlt:=aV hf
 have hb:((us.zip ds).length+(us2.zip ds2).length)*s4<=140737488355328:=by
  rw[wZ h1.1,wZ h2]
  exact Nat.le_trans (Nat.mul_le_mul (show ds.length+ds2.length<=1099511627 by omega) h4') (by decide)
 have t1:=E_ (g:=Ar e v (us.zip ds)) (L:=L) i hf (fun h=>h.2) c w t
 obtain⟨v',w',hr,ht⟩:=t1.append (i:=i) (ty:=ty) (xs:=us.zip ds) (ys:=us2.zip ds2) (List.getElem?_set_self hlt) (by rw[wZ h2];exact hs) h1y hT hE hb (by rw[wZ h1.1,wZ h2];omega) hz
 refine⟨v',w',hr,?_⟩
 have:=E_ (g:=Ad e v' (us++us2) (ds++ds2)) (L:=L) i (List.getElem?_set_self (by simpa using hlt)) (fun h=>⟨by simp[h1.1,h2],by rw[<-RX h1.1];exact h⟩) c w' ht
 simpa [List.set_set]using this
theorem aR.appendD [cQ P] (i j:Nat) {x y:Operand} {T E:TypeId} {s1 s2 s3 s4:Nat} {z z':Value} {dE:TypeDesc} (hx:ev σ x=some v) (hy:ev σ y=some u) (hf:M[i]? = some (Ad e v us ds)) (hg:M[j]? = some (Ad e u us2 ds2))
  (hT:cQ.tab P T=some ⟨.slice E,s1,s2,z⟩) (hE:cQ.tab P E=some ⟨dE,s3,s4,z'⟩) (h3:e.sz=s3) (h4:Nat.ble s4 1024=true) (hl:(ds.length:Int)+ds2.length<=1099511627) (hz:z'.cells.size=s3):
  aR P c n σ M L ⟨dt,.call ⟨.builtin .append,#[x,y],#[T,T]⟩,ty,pos,aft,g⟩ (fun v':Value=>v') (fun v'=>M.set i (Ad e v' (us++us2) (ds++ds2))) (fun _=>L):=fun a w s t=>by
 subst h3
 obtain⟨F,h2,hF⟩:=t.res hg
 obtain⟨v',w',hr,ht⟩:=t.appendD (ty:=ty) hf h2 (by have:=AM.src hF hT;rwa[wZ h2]at this) hF.2.1 hT hE h4 hl hz
 simp only[Oper.wp,xX s hx hy w,hr,Result.andThen_ok,Oper.upon]
 exact⟨v',rfl,ht⟩
theorem Km [cQ P] {β:Type} {e:jN β} {r:iO β} (i:Nat) (hfit:e.Fits r) {x y:Operand} {xs ys:List β} {T E:TypeId} {s1 s2 s3 s4:Nat} {z z':Value} {dE:TypeDesc} (hx:ev σ x=some v) (hy:ev σ y=some u) (hf:M[i]? = some (Ar e v xs)) (hg:aM M L (Sl r u ys))
  (hT:cQ.tab P T=some ⟨.slice E,s1,s2,z⟩) (hE:cQ.tab P E=some ⟨dE,s3,s4,z'⟩) (h3:e.sz=s3) (h:xs.length=ys.length):
  aR P c n σ M L ⟨dt,.call ⟨.builtin .copy,#[x,y],#[T,T]⟩,ty,pos,aft,g⟩ (fun _:Unit=> .int .i64 (ys.length:Int)) (fun _=>M.set i (Ar e v ys)) (fun _=>L):=fun a w s t=>by
 subst h3
 obtain⟨F,hF⟩:=hg.st t
 obtain⟨hs,h1⟩:=EZ hfit hF hT
 have t0:=t
 obtain⟨ho,FF,hO,hLL⟩:=t0
 obtain⟨h0,hone,hh⟩:=hO.res i _ hf
 have hu:=(cQ.ok hT).run_und w
 have hlen:=hs.len w
 have hcl:=hs.cells
 have hcs:(cellsOf e ys).length=ys.length*e.sz:=dN e ys
 rcases hh with⟨rfl,rfl⟩|⟨b,off,cap,T',cur,rfl,hFb,hbk,hcp,hc,ht⟩
 ·have hy0:ys=[]:=List.eq_nil_of_length_eq_zero (by simpa using h.symm)
  subst hy0
  have hrun:(execOp a.eval ⟨dt,.call ⟨.builtin .copy,#[x,y],#[T,T]⟩,ty,pos,aft,g⟩).run P w = .ok (.value (.int .i64 0)) w:=by
   have hcc:cellsOf e ([]:List β)=[]:=rfl
   simp only[List.length_nil]at hlen hcl
   rw[hcc]at hcl
   simp[execOp,resolve,invoke,builtin,s.eval hx,s.eval hy,Builtin.copy_,hu,hlen,hcl,(cQ.ok hE).run_size w,goInt]
  simp only[Oper.wp,hrun,Oper.upon]
  refine⟨(),by first|rfl|trivial,?_⟩
  have:M.set i (Ar e (.slice none 0 0) ([]:List β))=M:=by
   apply List.ext_getElem?
   intro q
   by_cases eq:q=i
   ·subst eq;rw[List.getElem?_set_self (aV hf),hf]
   ·rw[List.getElem?_set_ne (Ne.symm eq)]
  rw[this];exact t
 ·have hmul:xs.length*e.sz<=cap*e.sz:=Nat.mul_le_mul_right _ hcp
  rw[h]at hmul
  have hst:=run_storeCells_at P b off T' (cellsOf e ys) 0 cur w hbk (by rw[hcs];omega) (fun u hu=>k_ (List.all_eq_true.1 h1 u hu))
  simp only[Nat.add_zero]at hst
  have hrun:(execOp a.eval ⟨dt,.call ⟨.builtin .copy,#[x,y],#[T,T]⟩,ty,pos,aft,g⟩).run P w = .ok (.value (.int .i64 (ys.length:Int))) (w.setRow b (cur.toList.take off++cellsOf e ys++cur.toList.drop (off+(cellsOf e ys).length)).toArray):=by
   have hmin:Nat.min ys.length xs.length=ys.length:=by rw[h];exact Nat.min_self _
   simp[execOp,resolve,invoke,builtin,s.eval hx,s.eval hy,Builtin.copy_,hu,hlen,hcl,(cQ.ok hE).run_size w,goInt,hmin,hst]
  simp only[Oper.wp,hrun,Oper.upon]
  refine⟨(),by first|rfl|trivial,?_⟩
  refine CC ho hO hLL hf rfl rfl rfl (by simp) (fun k _ hk'=>setRow_other w b k _ (fun e=>hk' (by subst e;exact hFb))) (F':=FF i) ?_ (fun k hk=> .inl hk)
  refine⟨by omega,h1,.inr ⟨b,off,cap,T',_,by rw[h],hFb,setRow_heap w b _ _ T' _ hbk,by omega,?_,?_⟩⟩
  ·have:cur.size=cur.toList.length:=by simp
   simp only[List.size_toArray,List.length_append,List.length_take,List.length_drop]
   omega
  ·have hto:(cur.toList.take off).length=off:=by simp;omega
   show((cur.toList.take off++cellsOf e ys++cur.toList.drop _).drop off).take (ys.length*e.sz)=_
   rw[List.append_assoc,List.drop_left' hto,List.take_left' hcs]
theorem KS {β:Type} {q:iO β} {w:World} {S:Nat->Prop} {v:Value} {xs:List β} (h:Dl q w S v xs):one v=true:=by
 obtain⟨a,cap,hv,_⟩:=h
 rw[hv];rfl
end
end
end Go.Sx
end
section
namespace Go.Proofs.YthnplbmmlbnelaaGreat
open Go.Sx
section
def QL:bV:=[0,1,1,2,1,2,2,3,1,2,2,3,2,3,3,4,1,2,2,3,2,3,3,4,2,3,3,4,3,4,4,5,1,2,2,3,2,3,3,4,2,3,3,4,3,4,4,5,2,3,3,4,3,4,4,5,3,4,4,5,4,5,5,6,1,2,2,3,2,3,3,4,2,3,3,4,3,4,4,5,2,3,3,4,3,4,4,5,3,4,4,5,4,5,5,6,2,3,3,4,3,4,4,5,3,4,4,5,4,5,5,6,3,4,4,5,4,5,5,6,4,5,5,6,5,6,6,7,1,2,2,3,2,3,3,4,2,3,3,4,3,4,4,5,2,3,3,4,3,4,4,5,3,4,4,5,4,5,5,6,2,3,3,4,3,4,4,5,3,4,4,5,4,5,5,6,3,4,4,5,4,5,5,6,4,5,5,6,5,6,6,7,2,3,3,4,3,4,4,5,3,4,4,5,4,5,5,6,3,4,4,5,4,5,5,6,4,5,5,6,5,6,6,7,3,4,4,5,4,5,5,6,4,5,5,6,5,6,6,7,4,5,5,6,5,6,6,7,5,6,6,7,6,7,7,8]
theorem HP:Fh (ByteArray.mk #[0,1,1,2,1,2,2,3,1,2,2,3,2,3,3,4,1,2,2,3,2,3,3,4,2,3,3,4,3,4,4,5,1,2,2,3,2,3,3,4,2,3,3,4,3,4,4,5,2,3,3,4,3,4,4,5,3,4,4,5,4,5,5,6,1,2,2,3,2,3,3,4,2,3,3,4,3,4,4,5,2,3,3,4,3,4,4,5,3,4,4,5,4,5,5,6,2,3,3,4,3,4,4,5,3,4,4,5,4,5,5,6,3,4,4,5,4,5,5,6,4,5,5,6,5,6,6,7,1,2,2,3,2,3,3,4,2,3,3,4,3,4,4,5,2,3,3,4,3,4,4,5,3,4,4,5,4,5,5,6,2,3,3,4,3,4,4,5,3,4,4,5,4,5,5,6,3,4,4,5,4,5,5,6,4,5,5,6,5,6,6,7,2,3,3,4,3,4,4,5,3,4,4,5,4,5,5,6,3,4,4,5,4,5,5,6,4,5,5,6,5,6,6,7,3,4,4,5,4,5,5,6,4,5,5,6,5,6,6,7,4,5,5,6,5,6,6,7,5,6,6,7,6,7,7,8])=QL:=by kernel_rfl
abbrev YJ:jN ByteArray:=⟨1,Nat.one_pos,fun x=>[.string x],fun _=>rfl⟩
abbrev V_:iO ByteArray:=⟨1,Nat.one_pos,fun _ _ cs x=>cs=[.string x],fun h=>by simp[h],fun h _=>h⟩
theorem Zr:YJ.Fits V_:=⟨rfl,fun h=>h,rfl,fun _=>rfl⟩
theorem RY:V_.Cell 0 (fun x=> .string x):=fun h=>by simp[show _=[_]from h]
abbrev fK:jN Int:=jN.int .i64
abbrev lH:iO Int:=iO.int .i64
theorem jD:fK.Fits lH:=Hx .i64
theorem jP:lH.Cell 0 (fun x=> .int .i64 x):=Hz .i64
abbrev aW:jN (ByteArray×Int×Int×Int×Int×Int):=jN.pair YJ (jN.pair fK (jN.pair fK (jN.pair fK (jN.pair fK (fK)))))
abbrev aQ:iO (ByteArray×Int×Int×Int×Int×Int):=iO.pair V_ (iO.pair lH (iO.pair lH (iO.pair lH (iO.pair lH (lH)))))
theorem bU:aW.Fits aQ:=oC Zr (oC jD (oC jD (oC jD (oC jD (jD)))))
theorem oK:aQ.Cell 0 (fun x=> .string x.1):=pD (RY)
theorem AH:aQ.Cell 1 (fun x=> .int .i64 x.2.1):=AS (pD (jP))
abbrev dR:jN fZ:=jN.pair fK (fK)
abbrev aY:iO fZ:=iO.pair lH (lH)
theorem dI:dR.Fits aY:=oC jD (jD)
theorem j_:aY.Cell 0 (fun x=> .int .i64 x.1):=pD (jP)
theorem BZ:aY.Cell 1 (fun x=> .int .i64 x.2):=AS (jP)
abbrev bA:iO (Int×cA):=iO.pair lH ((HA aY))
abbrev cW:jN ((Value)×(Int×cA)):=⟨2,by decide,fun x=>[Value.int .i64 (x.2.1),x.1],fun _=>rfl⟩
abbrev cG (a:Value) (d:Int×cA):bB:=(Sl aY a d.2)
theorem cL:Sw cW cG bA where
 sz:=rfl
 fwd:=fun {w S a d} h=>⟨[_],_,rfl,rfl,⟨_,rfl,h⟩⟩
 bwd:=by
  rintro w S cs d ⟨c0,z0,rfl,q0,q1⟩
  have q0:c0=[Value.int .i64 (d.1)]:=q0;subst q0
  obtain⟨u1,rfl,q1⟩:=q1
  exact⟨(u1),rfl,q1⟩
 one:=fun {w S a d} h=>(fE rfl (fE (KS h) rfl))
theorem hJ:bA.Cell 0 (fun x=> .int .i64 x.1):=pD (jP)
theorem jE (a:Value) (d:Int×cA):(cW.enc (a,d))[1]? = some a:=rfl
abbrev aK:iO (ByteArray×cA×(List (Int×cA))):=iO.pair V_ (iO.pair (HA aY) ((HA bA)))
abbrev a_:jN ((Value×Value)×(ByteArray×cA×(List (Int×cA)))):=⟨3,by decide,fun x=>[Value.string (x.2.1),x.1.1,x.1.2],fun _=>rfl⟩
abbrev aJ (a:Value×Value) (d:oM):bB:=(bB.and (Sl aY a.1 d.2.1) (Sl bA a.2 d.2.2))
theorem aX:Sw a_ aJ aK where
 sz:=rfl
 fwd:=fun {w S a d} h=>⟨[_],_,rfl,rfl,⟨[_],_,rfl,⟨_,rfl,h.1⟩,⟨_,rfl,h.2⟩⟩⟩
 bwd:=by
  rintro w S cs d ⟨c0,z0,rfl,q0,⟨c1,z1,rfl,q1,q2⟩⟩
  have q0:c0=[Value.string (d.1)]:=q0;subst q0
  obtain⟨u1,rfl,q1⟩:=q1
  obtain⟨u2,rfl,q2⟩:=q2
  exact⟨(u1,u2),rfl,⟨q1,q2⟩⟩
 one:=fun {w S a d} h=>(fE rfl (fE (KS h.1) (fE (KS h.2) rfl)))
theorem gG:aK.Cell 0 (fun x=> .string x.1):=pD (RY)
theorem xN (a:Value×Value) (d:oM):(a_.enc (a,d))[1]? = some a.1:=rfl
theorem jQ (a:Value×Value) (d:oM):(a_.enc (a,d))[2]? = some a.2:=rfl
abbrev Qe:jN Bool:=jN.bool
abbrev YK:iO Bool:=iO.bool
theorem Sy:Qe.Fits YK:=Gj
theorem UH:YK.Cell 0 (fun x=> .bool x):=fun h=>by simp[show _=[_]from h]
def RI (x:Bool):Value:=Value.bool (x)
def GG (x:Int):Value:=Value.int .i64 (x)
def Nz (x:ByteArray):Value:=Value.string (x)
theorem Rc (x y:Gd) (m:Nat) (w:World):(Op.equalIn (m+2) 49 (.agg #[.string x.1,.int .i64 x.2.1,.int .i64 x.2.2.1,.int .i64 x.2.2.2.1,.int .i64 x.2.2.2.2.1,.int .i64 x.2.2.2.2.2]) (.agg #[.string y.1,.int .i64 y.2.1,.int .i64 y.2.2.1,.int .i64 y.2.2.2.1,.int .i64 y.2.2.2.2.1,.int .i64 y.2.2.2.2.2])).run Tryz.prog w = .ok (decide (x=y)) w:=by
 have h3:∀a b:Int,(Op.equalIn (m+1) 3 (.int .i64 a) (.int .i64 b)).run Tryz.prog w = .ok (a==b) w:=by
  intro a b
  simp[Op.equalIn]
 have h9:∀a b:ByteArray,(Op.equalIn (m+1) 9 (.string a) (.string b)).run Tryz.prog w = .ok (decide (a=b)) w:=by
  intro a b
  simp[Op.equalIn,SK]
 have hs:Tryz.prog.stoodInHeld 49=false:=by kernel_rfl
 unfold Op.equalIn
 simp[hs,part,isAgg,h3,h9]
 obtain⟨a0,a1,a2,a3,a4,a5⟩:=x
 obtain⟨c0,c1,c2,c3,c4,c5⟩:=y
 by_cases e0:a0=c0<;>by_cases e1:a1=c1<;>by_cases e2:a2=c2<;>by_cases e3:a3=c3<;>by_cases e4:a4=c4<;>by_cases e5:a5=c5<;>simp[e0,e1,e2,e3,e4,e5,h3,h9]
theorem Nc (x y:Operand) (u v:Array Value) (op:BinOp) (w:World):(eqGuard op 49 x y (.agg u) (.agg v)).run Tryz.prog w = .ok () w:=by
 have hg:Tryz.prog.eqGuardType Tryz.prog.depth 49=false:=by kernel_rfl
 unfold eqGuard
 cases op<;>simp[hg]
theorem QP (x y:Gd) (p q:Operand) (w:World):(eqGuard .neq 49 p q (.agg #[.string x.1,.int .i64 x.2.1,.int .i64 x.2.2.1,.int .i64 x.2.2.2.1,.int .i64 x.2.2.2.2.1,.int .i64 x.2.2.2.2.2]) (.agg #[.string y.1,.int .i64 y.2.1,.int .i64 y.2.2.1,.int .i64 y.2.2.2.1,.int .i64 y.2.2.2.2.1,.int .i64 y.2.2.2.2.2])).run Tryz.prog w = .ok () w∧(binOp .neq 49 (.agg #[.string x.1,.int .i64 x.2.1,.int .i64 x.2.2.1,.int .i64 x.2.2.2.1,.int .i64 x.2.2.2.2.1,.int .i64 x.2.2.2.2.2]) (.agg #[.string y.1,.int .i64 y.2.1,.int .i64 y.2.2.1,.int .i64 y.2.2.2.1,.int .i64 y.2.2.2.2.1,.int .i64 y.2.2.2.2.2])).run Tryz.prog w = .ok (.bool (decide (x≠y))) w:=by
 refine⟨Nc _ _ _ _ _ _,?_⟩
 have h:(Op.equal 49 (.agg #[.string x.1,.int .i64 x.2.1,.int .i64 x.2.2.1,.int .i64 x.2.2.2.1,.int .i64 x.2.2.2.2.1,.int .i64 x.2.2.2.2.2]) (.agg #[.string y.1,.int .i64 y.2.1,.int .i64 y.2.2.1,.int .i64 y.2.2.2.1,.int .i64 y.2.2.2.2.1,.int .i64 y.2.2.2.2.2])).run Tryz.prog w = .ok (decide (x=y)) w:=Rc x y 9998 w
 simp[binOp,h]
theorem Re (x y:lO) (m:Nat) (w:World):(Op.equalIn (m+2) 84 (.agg #[.int .i64 x.1,.int .i64 x.2]) (.agg #[.int .i64 y.1,.int .i64 y.2])).run Tryz.prog w = .ok (decide (x=y)) w:=by
 have h3:∀a b:Int,(Op.equalIn (m+1) 3 (.int .i64 a) (.int .i64 b)).run Tryz.prog w = .ok (a==b) w:=by
  intro a b
  simp[Op.equalIn]
 have hs:Tryz.prog.stoodInHeld 84=false:=by kernel_rfl
 unfold Op.equalIn
 simp[hs,part,isAgg,h3]
 obtain⟨a0,a1⟩:=x
 obtain⟨c0,c1⟩:=y
 by_cases e0:a0=c0<;>by_cases e1:a1=c1<;>simp[e0,e1,h3]
theorem Nf (x y:Operand) (u v:Array Value) (op:BinOp) (w:World):(eqGuard op 84 x y (.agg u) (.agg v)).run Tryz.prog w = .ok () w:=by
 have hg:Tryz.prog.eqGuardType Tryz.prog.depth 84=false:=by kernel_rfl
 unfold eqGuard
 cases op<;>simp[hg]
theorem QQ (x y:lO) (p q:Operand) (w:World):(eqGuard .neq 84 p q (.agg #[.int .i64 x.1,.int .i64 x.2]) (.agg #[.int .i64 y.1,.int .i64 y.2])).run Tryz.prog w = .ok () w∧(binOp .neq 84 (.agg #[.int .i64 x.1,.int .i64 x.2]) (.agg #[.int .i64 y.1,.int .i64 y.2])).run Tryz.prog w = .ok (.bool (decide (x≠y))) w:=by
 refine⟨Nf _ _ _ _ _ _,?_⟩
 have h:(Op.equal 84 (.agg #[.int .i64 x.1,.int .i64 x.2]) (.agg #[.int .i64 y.1,.int .i64 y.2])).run Tryz.prog w = .ok (decide (x=y)) w:=Re x y 9998 w
 simp[binOp,h]
theorem Sf:Cw Tryz.prog 3 GG:=Cw.plain Tryz.underlying3 (fun b k w=>by
 have key:∀m:Nat,(Instr.checkKey b (m+1) 3 (GG k)).run Tryz.prog w = .ok () w:=fun m=>by simp[Instr.checkKey,GG]
 exact key 9999) (fun a b=>by simp[Instr.sameNow,GG];rfl) (fun k=>by
 have key:∀m:Nat,Instr.sameBits (m+1) (GG k) (GG k)=true:=fun m=>by simp[Instr.sameBits,GG]
 exact key 9999)
theorem LM:Cw Tryz.prog 9 Nz:=Cw.plain Tryz.underlying9 (fun b k w=>by
 have key:∀m:Nat,(Instr.checkKey b (m+1) 9 (Nz k)).run Tryz.prog w = .ok () w:=fun m=>by simp[Instr.checkKey,Nz]
 exact key 9999) (fun a b=>by simp[Instr.sameNow,Nz];exact SK a b) (fun k=>by
 have key:∀m:Nat,Instr.sameBits (m+1) (Nz k) (Nz k)=true:=fun m=>by simp[Instr.sameBits,Nz,SK]
 exact key 9999)
theorem xC (u0:Value) (h0:one u0=true) (init:Array Value) (h:init.size=1*1):Instr.fill (fun i=>some (i*1,1)) init [(0,u0)]=some [u0].toArray:=by
 obtain⟨l⟩:=init
 match l,h with
 | [z0],_=>simp[Instr.fill,yB h0]
theorem Jf (u0 u1:Value) (init:Array Value) (h:init.size=1*2):Instr.fill (fun i=>some (i*2,2)) init [(0,.agg #[u0,u1])]=some [u0,u1].toArray:=by
 obtain⟨l⟩:=init
 match l,h with
 | [z0,z1],_=>simp[Instr.fill,Value.cells]
theorem Jg (u0 u1 u2:Value) (init:Array Value) (h:init.size=1*3):Instr.fill (fun i=>some (i*3,3)) init [(0,.agg #[u0,u1,u2])]=some [u0,u1,u2].toArray:=by
 obtain⟨l⟩:=init
 match l,h with
 | [z0,z1,z2],_=>simp[Instr.fill,Value.cells]
theorem Jh (u0 u1 u2 u3 u4 u5:Value) (init:Array Value) (h:init.size=1*6):Instr.fill (fun i=>some (i*6,6)) init [(0,.agg #[u0,u1,u2,u3,u4,u5])]=some [u0,u1,u2,u3,u4,u5].toArray:=by
 obtain⟨l⟩:=init
 match l,h with
 | [z0,z1,z2,z3,z4,z5],_=>simp[Instr.fill,Value.cells]
end
section
def wW (p0:Int) (a2:Bool):Option (Int):=
 if a2=true then(some (-1:Int))else(if p0<=(17:Int)then(some (0:Int))else(if p0<=(29:Int)then(some (1:Int))else(if p0<=(42:Int)then(some (2:Int))else(some (3:Int)))))
def nF (U:Nat) (p0:Int):Option (Int):=
 if p0<(1:Int)then(wW p0 (true))else(wW p0 (decide ((43:Int)<p0)))
theorem HM:bE Tryz.prog 87:=Tryz.call87
theorem xY (U:Nat) {p0:Int} (r:Int) (h:nF U p0=some r):
  aZ Tryz.prog 87 #[vI (p0)] [] (fun x:Unit=>vI (r)) (fun x l=>l) (fun _ l=>l):=by
 refine aZ.of Tryz.func87 rfl Tryz.ntmps87 rfl fun c=>?_
 refine aT<|aB rfl<|aL<|aI<|aP<|aI<|cF (fun a2=>wW p0 a2=some r) (fun a2 b3=>[(0,vI (p0)),(3,vB (a2))]) (fun a2 b3=>[]) ?_ ?_
 ·refine aH<|aA rfl<|cZ rfl<|aA rfl ?_
  refine mW h rfl (fun _ h=>?_) fun _ h=>?_
  ·refine aC rfl<|aC rfl<|bO rfl<|aB rfl<|aL ?_
   exact b_ (true) () h SF rfl
  refine bM rfl<|aF rfl (pF rfl rfl) rfl<|bR rfl<|aB rfl<|aL ?_
  exact b_ (decide ((43:Int)<p0)) () h SF rfl
 intro a2 b3 h
 refine eY h rfl (fun _ h=>?_) fun _ h=>?_
 ·refine aT<|aB rfl<|aL<|aS<|bP<|aG ?_
  cases h
  exact gU rfl
 refine aT<|aA rfl<|aD (oP rfl rfl) rfl<|aB rfl<|aL ?_
 refine fG h rfl (fun h=>?_) fun h=>?_
 ·refine aT<|aB rfl<|aL<|aS<|bP<|aG ?_
  cases h
  exact gU rfl
 refine aT<|aA rfl<|aD (oP rfl rfl) rfl<|aB rfl<|aL ?_
 refine fG h rfl (fun h=>?_) fun h=>?_
 ·refine aT<|aB rfl<|aL<|aS<|bP<|aG ?_
  cases h
  exact gU rfl
 refine aT<|aA rfl<|aD (oP rfl rfl) rfl<|aB rfl<|aL ?_
 refine fG h rfl (fun h=>?_) fun h=>?_
 ·refine aT<|aB rfl<|aL<|aS<|bP<|aG ?_
  cases h
  exact gU rfl
 refine cS<|kB<|aT<|aB rfl<|aL<|aS ?_
 cases h
 exact gU rfl
end
section
def zA  (a5:Unit):Option (Int):=
 some (-1:Int)
def lG (U:Nat) (p0:cA) (a10:lO) (ag9:fZ->Option (Int)):Option (Int):=
 if a10.1<(List.length p0:Int)then(ck (0<=a10.1∧a10.1<(List.length p0:Int)) (Option.bind (nF U ((at' p0 a10.1).1)) fun r15=>(if r15<(0:Int)then(some (-1:Int))else(if(wI .i64 (a10.2+(wI .i64 (r15 - (1:Int)))))=(0:Int)then(some (wI .i64 (a10.1+(1:Int))))else(ag9 ((wI .i64 (a10.1+(1:Int))),(wI .i64 (a10.2+(wI .i64 (r15 - (1:Int)))))))))))else(zA  (()))
def y_ (U:Nat) (p0:cA) (p1:Int) (a2:Bool):Option (Int):=
 if a2=true then(some (-1:Int))else(bH (lG U p0) U (p1,(1:Int)))
def yJ (U:Nat) (p0:cA) (p1:Int):Option (Int):=
 if p1<(0:Int)then(y_ U p0 p1 (true))else(y_ U p0 p1 (decide ((List.length p0:Int)<=p1)))
theorem Ov:bE Tryz.prog 64:=Tryz.call64
theorem FZ (U:Nat) {p0:cA} {p1:Int} (v0:Value) (r:Int) (h:yJ U p0 p1=some r):
  aZ Tryz.prog 64 #[v0,vI (p1)] [Sl aY v0 p0] (fun x:Unit=>vI (r)) (fun x l=>l) (fun _ l=>l):=by
 refine aZ.of Tryz.func64 rfl Tryz.ntmps64 rfl fun c=>?_
 refine aT<|aB rfl<|aL<|aI<|aI<|cF (fun a2=>y_ U p0 p1 a2=some r) (fun a2 b3=>[(0,v0),(1,vI (p1)),(14,vB (a2))]) (fun a2 b3=>[]) ?_ ?_
 ·refine aH<|aA rfl<|cZ rfl<|aA rfl ?_
  refine mW h rfl (fun _ h=>?_) fun _ h=>?_
  ·refine aC rfl<|aC rfl<|aC rfl<|aC rfl<|bO rfl<|aL ?_
   exact b_ (true) () h SF rfl
  refine bM rfl<|bM rfl<|aF rfl (eX rfl (dB rfl) rfl) rfl<|aF rfl (lL rfl rfl) rfl<|bR rfl<|aL ?_
  exact b_ (decide ((List.length p0:Int)<=p1)) () h SF rfl
 intro a2 b3 h
 refine eY h rfl (fun _ h=>?_) fun _ h=>?_
 ·refine aT<|aB rfl<|aL<|aS<|aG ?_
  cases h
  exact gU rfl
 refine bJ<|aI<|cF (fun a5=>zA  a5=some r) (fun a5 b6=>[]) (fun a5 b6=>[]) ?_ ?_
 ·refine aT<|aB rfl<|aL<|aP<|eH (lG U p0) (fun a10 b11=>[(0,v0),(1,vI (a10.1)),(5,vI (a10.2))]) (fun a10 b11=>[]) (p1,(1:Int)) () h SF (bK.refl _) ?_
  intro k12 a10 b11 h
  refine aI<|aT<|aA rfl<|aA rfl<|cY (dB rfl) rfl<|cZ rfl<|aL ?_
  refine fG h rfl (fun h=>?_) fun h=>?_
  ·refine bJ<|aI<|aP<|aT<|aA rfl<|aA rfl<|eO h fun j14 h=>aD (aU rfl rfl (dB rfl) rfl rfl j14) rfl<|aD (cB rfl rfl rfl rfl rfl) rfl<|aD (eQ rfl (dB rfl) rfl rfl rfl j_ j14) rfl<|eM h fun r15 w16 h=>aN (aR.callQ HM (xY U  r15 w16) rfl .nil) rfl fun x17=>aB rfl<|aL<|aI<|aT<|aA rfl<|cZ rfl<|aL ?_
   refine fG h rfl (fun h=>?_) fun h=>?_
   ·refine aT<|aB rfl<|aL<|aS<|aG<|bP<|aG<|aG<|bP<|aG ?_
    cases h
    exact gU rfl
   refine bJ<|aT<|aA rfl<|aA rfl<|aD (vL rfl rfl) rfl<|cU rfl<|aB rfl<|aL<|aT<|aA rfl<|cH rfl<|aL ?_
   refine fG h rfl (fun h=>?_) fun h=>?_
   ·refine aT<|aA rfl<|cU rfl<|aB rfl<|aL<|aS<|bP<|aG<|aG<|bP<|aG ?_
    cases h
    exact gU rfl
   refine cS<|kB<|aH<|aA rfl<|cU rfl<|aB rfl<|aL ?_
   exact AC ((wI .i64 (a10.1+(1:Int))),(wI .i64 (a10.2+(wI .i64 (r15 - (1:Int)))))) () h SF rfl
  refine dY ?_
  exact b_ () (()) h SF rfl
 intro a5 b6 h
 unfold zA at h
 refine aT<|aB rfl<|aL<|aS ?_
 cases h
 exact gU rfl
end
section
def uK (p0:Int) (a10:Bool):Option (Int):=
 if a10=true then(some (2:Int))else(if p0=(43:Int)then(some (3:Int))else(some (-1:Int)))
def uJ (p0:Int) (a6:Bool):Option (Int):=
 if a6=true then(some (1:Int))else(if(30:Int)<=p0 then(uK p0 (decide (p0<=(42:Int))))else(uK p0 (false)))
def uI (p0:Int) (a2:Bool):Option (Int):=
 if a2=true then(some (0:Int))else(if(18:Int)<=p0 then(uJ p0 (decide (p0<=(29:Int))))else(uJ p0 (false)))
def lJ (U:Nat) (p0:Int):Option (Int):=
 if(1:Int)<=p0 then(uI p0 (decide (p0<=(17:Int))))else(uI p0 (false))
theorem HN:bE Tryz.prog 93:=Tryz.call93
theorem wU (U:Nat) {p0:Int} (r:Int) (h:lJ U p0=some r):
  aZ Tryz.prog 93 #[vI (p0)] [] (fun x:Unit=>vI (r)) (fun x l=>l) (fun _ l=>l):=by
 refine aZ.of Tryz.func93 rfl Tryz.ntmps93 rfl fun c=>?_
 refine aT<|aB rfl<|aL<|aI<|aP<|aI<|cF (fun a2=>uI p0 a2=some r) (fun a2 b3=>[(0,vI (p0)),(3,vB (a2))]) (fun a2 b3=>[]) ?_ ?_
 ·refine aH<|aA rfl<|aD (lL rfl rfl) rfl<|aA rfl ?_
  refine mW h rfl (fun _ h=>?_) fun _ h=>?_
  ·refine bM rfl<|aF rfl (oP rfl rfl) rfl<|bO rfl<|aB rfl<|aL ?_
   exact b_ (decide (p0<=(17:Int))) () h SF rfl
  refine aC rfl<|aC rfl<|bR rfl<|aB rfl<|aL ?_
  exact b_ (false) () h SF rfl
 intro a2 b3 h
 refine eY h rfl (fun _ h=>?_) fun _ h=>?_
 ·refine aT<|aB rfl<|aL<|aS<|bP<|aG ?_
  cases h
  exact gU rfl
 refine aI<|cF (fun a6=>uJ p0 a6=some r) (fun a6 b7=>[(0,vI (p0)),(10,vB (a6))]) (fun a6 b7=>[]) ?_ ?_
 ·refine aH<|aA rfl<|aD (lL rfl rfl) rfl<|aA rfl ?_
  refine mW h rfl (fun _ h=>?_) fun _ h=>?_
  ·refine bM rfl<|aF rfl (oP rfl rfl) rfl<|bO rfl<|aB rfl<|aL ?_
   exact b_ (decide (p0<=(29:Int))) () h SF rfl
  refine aC rfl<|aC rfl<|bR rfl<|aB rfl<|aL ?_
  exact b_ (false) () h SF rfl
 intro a6 b7 h
 refine eY h rfl (fun _ h=>?_) fun _ h=>?_
 ·refine aT<|aB rfl<|aL<|aS<|bP<|aG ?_
  cases h
  exact gU rfl
 refine aI<|cF (fun a10=>uK p0 a10=some r) (fun a10 b11=>[(0,vI (p0)),(17,vB (a10))]) (fun a10 b11=>[]) ?_ ?_
 ·refine aH<|aA rfl<|aD (lL rfl rfl) rfl<|aA rfl ?_
  refine mW h rfl (fun _ h=>?_) fun _ h=>?_
  ·refine bM rfl<|aF rfl (oP rfl rfl) rfl<|bO rfl<|aB rfl<|aL ?_
   exact b_ (decide (p0<=(42:Int))) () h SF rfl
  refine aC rfl<|aC rfl<|bR rfl<|aB rfl<|aL ?_
  exact b_ (false) () h SF rfl
 intro a10 b11 h
 refine eY h rfl (fun _ h=>?_) fun _ h=>?_
 ·refine aT<|aB rfl<|aL<|aS<|bP<|aG ?_
  cases h
  exact gU rfl
 refine aT<|aA rfl<|cH rfl<|aB rfl<|aL ?_
 refine fG h rfl (fun h=>?_) fun h=>?_
 ·refine aT<|aB rfl<|aL<|aS<|bP<|aG ?_
  cases h
  exact gU rfl
 refine cS<|kB<|aT<|aB rfl<|aL<|aS ?_
 cases h
 exact gU rfl
end
section
def xW  (a5:Unit):Option (Int):=
 some (-1:Int)
def jS (U:Nat) (p0:cA) (a10:lO) (ag9:fZ->Option (Int)):Option (Int):=
 if a10.2<(List.length p0:Int)then(ck (0<=a10.2∧a10.2<(List.length p0:Int)) (Option.bind (lJ U ((at' p0 a10.2).1)) fun r15=>(if r15<(0:Int)then(some (-1:Int))else(if(wI .i64 (a10.1+(wI .i64 (r15 - (1:Int)))))=(0:Int)then(some (wI .i64 (a10.2+(1:Int))))else(ag9 ((wI .i64 (a10.1+(wI .i64 (r15 - (1:Int))))),(wI .i64 (a10.2+(1:Int)))))))))else(xW  (()))
def xV (U:Nat) (p0:cA) (p1:Int) (a2:Bool):Option (Int):=
 if a2=true then(some (-1:Int))else(bH (jS U p0) U ((1:Int),p1))
def tH (U:Nat) (p0:cA) (p1:Int):Option (Int):=
 if p1<(0:Int)then(xV U p0 p1 (true))else(xV U p0 p1 (decide ((List.length p0:Int)<=p1)))
theorem Ky:bE Tryz.prog 92:=Tryz.call92
theorem Bm (U:Nat) {p0:cA} {p1:Int} (v0:Value) (r:Int) (h:tH U p0 p1=some r):
  aZ Tryz.prog 92 #[v0,vI (p1)] [Sl aY v0 p0] (fun x:Unit=>vI (r)) (fun x l=>l) (fun _ l=>l):=by
 refine aZ.of Tryz.func92 rfl Tryz.ntmps92 rfl fun c=>?_
 refine aT<|aB rfl<|aL<|aI<|aI<|cF (fun a2=>xV U p0 p1 a2=some r) (fun a2 b3=>[(0,v0),(1,vI (p1)),(15,vB (a2))]) (fun a2 b3=>[]) ?_ ?_
 ·refine aH<|aA rfl<|cZ rfl<|aA rfl ?_
  refine mW h rfl (fun _ h=>?_) fun _ h=>?_
  ·refine aC rfl<|aC rfl<|aC rfl<|aC rfl<|bO rfl<|aL ?_
   exact b_ (true) () h SF rfl
  refine bM rfl<|bM rfl<|aF rfl (eX rfl (dB rfl) rfl) rfl<|aF rfl (lL rfl rfl) rfl<|bR rfl<|aL ?_
  exact b_ (decide ((List.length p0:Int)<=p1)) () h SF rfl
 intro a2 b3 h
 refine eY h rfl (fun _ h=>?_) fun _ h=>?_
 ·refine aT<|aB rfl<|aL<|aS<|aG ?_
  cases h
  exact gU rfl
 refine bJ<|aT<|aB rfl<|aL<|aI<|cF (fun a5=>xW  a5=some r) (fun a5 b6=>[]) (fun a5 b6=>[]) ?_ ?_
 ·refine aT<|aA rfl<|aB rfl<|aL<|aP<|eH (jS U p0) (fun a10 b11=>[(0,v0),(5,vI (a10.1)),(6,vI (a10.2))]) (fun a10 b11=>[]) ((1:Int),p1) () h SF (bK.refl _) ?_
  intro k12 a10 b11 h
  refine aI<|aT<|aA rfl<|aA rfl<|cY (dB rfl) rfl<|cZ rfl<|aL ?_
  refine fG h rfl (fun h=>?_) fun h=>?_
  ·refine bJ<|aI<|aP<|aT<|aA rfl<|aA rfl<|eO h fun j14 h=>aD (aU rfl rfl (dB rfl) rfl rfl j14) rfl<|aD (cB rfl rfl rfl rfl rfl) rfl<|aD (eQ rfl (dB rfl) rfl rfl rfl j_ j14) rfl<|eM h fun r15 w16 h=>aN (aR.callQ HN (wU U  r15 w16) rfl .nil) rfl fun x17=>aB rfl<|aL<|aI<|aT<|aA rfl<|cZ rfl<|aL ?_
   refine fG h rfl (fun h=>?_) fun h=>?_
   ·refine aT<|aB rfl<|aL<|aS<|aG<|bP<|aG<|aG<|bP<|aG ?_
    cases h
    exact gU rfl
   refine bJ<|aT<|aA rfl<|aA rfl<|aD (vL rfl rfl) rfl<|cU rfl<|aB rfl<|aL<|aT<|aA rfl<|cH rfl<|aL ?_
   refine fG h rfl (fun h=>?_) fun h=>?_
   ·refine aT<|aA rfl<|cU rfl<|aB rfl<|aL<|aS<|bP<|aG<|aG<|bP<|aG ?_
    cases h
    exact gU rfl
   refine cS<|kB<|aH<|aA rfl<|cU rfl<|aB rfl<|aL ?_
   exact AC ((wI .i64 (a10.1+(wI .i64 (r15 - (1:Int))))),(wI .i64 (a10.2+(1:Int)))) () h SF rfl
  refine dY ?_
  exact b_ () (()) h SF rfl
 intro a5 b6 h
 unfold xW at h
 refine aT<|aB rfl<|aL<|aS ?_
 cases h
 exact gU rfl
end
section
def lF  (a2:Bool):Option (Bool):=
 some (a2)
def lY (U:Nat) (p0:Int):Option (Bool):=
 if(20:Int)<=p0 then(lF  (decide (p0<=(29:Int))))else(lF  (false))
theorem Oy:bE Tryz.prog 91:=Tryz.call91
theorem zV (U:Nat) {p0:Int} (r:Bool) (h:lY U p0=some r):
  aZ Tryz.prog 91 #[vI (p0)] [] (fun x:Unit=>vB (r)) (fun x l=>l) (fun _ l=>l):=by
 refine aZ.of Tryz.func91 rfl Tryz.ntmps91 rfl fun c=>?_
 refine aT<|aB rfl<|aL<|aI<|cF (fun a2=>lF  a2=some r) (fun a2 b3=>[(2,vB (a2))]) (fun a2 b3=>[]) ?_ ?_
 ·refine aH<|aA rfl<|aD (lL rfl rfl) rfl<|aA rfl ?_
  refine mW h rfl (fun _ h=>?_) fun _ h=>?_
  ·refine bM rfl<|aF rfl (oP rfl rfl) rfl<|bO rfl<|aB rfl<|aL ?_
   exact b_ (decide (p0<=(29:Int))) () h SF rfl
  refine aC rfl<|aC rfl<|bR rfl<|aB rfl<|aL ?_
  exact b_ (false) () h SF rfl
 intro a2 b3 h
 unfold lF at h
 refine aS ?_
 cases h
 exact gU rfl
end
section
def kF  (a2:Bool):Option (Bool):=
 some (a2)
def kZ (U:Nat) (p0:Int):Option (Bool):=
 if(20:Int)<=p0 then(kF  (decide (p0<=(29:Int))))else(kF  (false))
theorem Oz:bE Tryz.prog 94:=Tryz.call94
theorem yZ (U:Nat) {p0:Int} (r:Bool) (h:kZ U p0=some r):
  aZ Tryz.prog 94 #[vI (p0)] [] (fun x:Unit=>vB (r)) (fun x l=>l) (fun _ l=>l):=by
 refine aZ.of Tryz.func94 rfl Tryz.ntmps94 rfl fun c=>?_
 refine aT<|aB rfl<|aL<|aI<|cF (fun a2=>kF  a2=some r) (fun a2 b3=>[(2,vB (a2))]) (fun a2 b3=>[]) ?_ ?_
 ·refine aH<|aA rfl<|aD (lL rfl rfl) rfl<|aA rfl ?_
  refine mW h rfl (fun _ h=>?_) fun _ h=>?_
  ·refine bM rfl<|aF rfl (oP rfl rfl) rfl<|bO rfl<|aB rfl<|aL ?_
   exact b_ (decide (p0<=(29:Int))) () h SF rfl
  refine aC rfl<|aC rfl<|bR rfl<|aB rfl<|aL ?_
  exact b_ (false) () h SF rfl
 intro a2 b3 h
 unfold kF at h
 refine aS ?_
 cases h
 exact gU rfl
end
section
def mM  (a4:Bool):Option (Bool):=
 some (a4)
def mN  (a12:Bool):Option (Bool):=
 some (a12)
def qZ (p0:lO) (p1:Int) (a8:Bool):Option (Bool):=
 if a8=true then(if(0:Int)<=p0.2 then(mN  (decide (p0.2<p1)))else(mN  (false)))else(some (decide (p0.2=(0:Int))))
def sP (U:Nat) (p0:lO) (p1:Int):Option (Bool):=
 if p0.1=(1:Int)then(if(0:Int)<=p0.2 then(mM  (decide (p0.2<=(1073741824:Int))))else(mM  (false)))else(if p0.1=(5:Int)then(qZ p0 p1 (decide (p0.1=(5:Int))))else(qZ p0 p1 (decide (p0.1=(12:Int)))))
theorem Ta:bE Tryz.prog 65:=Tryz.call65
theorem Ez (U:Nat) {p0:lO} {p1:Int} (r:Bool) (h:sP U p0 p1=some r):
  aZ Tryz.prog 65 #[Value.agg #[vI (p0.1),vI (p0.2)],vI (p1)] [] (fun x:Unit=>vB (r)) (fun x l=>l) (fun _ l=>l):=by
 refine aZ.of Tryz.func65 rfl Tryz.ntmps65 rfl fun c=>?_
 refine aT<|aN (aR.box (cs:=[vI (p0.1),vI (p0.2)]) rfl rfl) rfl fun b1=>aB rfl<|aL<|aI<|aT<|bQ rfl<|cM 0 rfl<|aL<|aP<|aT<|cH rfl<|aB rfl<|aL ?_
 refine fG h rfl (fun h=>?_) fun h=>?_
 ·refine aI<|cF (fun a4=>mM  a4=some r) (fun a4 b5=>[(4,vB (a4))]) (fun a4 b5=>[]) ?_ ?_
  ·refine aH<|bQ rfl<|cM 0 rfl<|aD (lL rfl rfl) rfl<|aA rfl ?_
   refine mW h rfl (fun _ h=>?_) fun _ h=>?_
   ·refine aF rfl (bW rfl rfl rfl rfl rfl) rfl<|aF rfl (cI 0 rfl rfl rfl rfl rfl) rfl<|aF rfl (oP rfl rfl) rfl<|bO rfl<|aB rfl<|aL ?_
    exact bS (decide (p0.2<=(1073741824:Int))) () h SF .nil (aO.refl _ _)
   refine aC rfl<|aC rfl<|aC rfl<|bR rfl<|aB rfl<|aL ?_
   exact bS (false) () h SF .nil (aO.refl _ _)
  intro a4 b5 h
  unfold mM at h
  refine aS<|bP<|aG ?_
  cases h
  exact gU rfl
 refine aI<|cF (fun a8=>qZ p0 p1 a8=some r) (fun a8 b9=>[(1,vI (p1)),(2,vP b1),(17,vB (a8))]) (fun a8 b9=>[dD b1 [vI (p0.1),vI (p0.2)] 84]) ?_ ?_
 ·refine aT<|cH rfl<|aB rfl<|aL ?_
  refine fG h rfl (fun h=>?_) fun h=>?_
  ·refine bJ ?_
   exact b_ (decide (p0.1=(5:Int))) () h SF rfl
  refine aH<|cH rfl<|aB rfl<|aL ?_
  exact b_ (decide (p0.1=(12:Int))) () h SF rfl
 intro a8 b9 h
 refine eY h rfl (fun _ h=>?_) fun _ h=>?_
 ·refine aI<|cF (fun a12=>mN  a12=some r) (fun a12 b13=>[(4,vB (a12))]) (fun a12 b13=>[]) ?_ ?_
  ·refine aH<|bQ rfl<|cM 0 rfl<|aD (lL rfl rfl) rfl<|aA rfl ?_
   refine mW h rfl (fun _ h=>?_) fun _ h=>?_
   ·refine aF rfl (bW rfl rfl rfl rfl rfl) rfl<|aF rfl (cI 0 rfl rfl rfl rfl rfl) rfl<|bM rfl<|aF rfl (IY rfl rfl) rfl<|bO rfl<|aB rfl<|aL ?_
    exact bS (decide (p0.2<p1)) () h SF .nil (aO.refl _ _)
   refine aC rfl<|aC rfl<|aC rfl<|aC rfl<|bR rfl<|aB rfl<|aL ?_
   exact bS (false) () h SF .nil (aO.refl _ _)
  intro a12 b13 h
  unfold mN at h
  refine aS<|bP<|aG ?_
  cases h
  exact gU rfl
 refine cS<|kB<|aT<|bQ rfl<|cM 0 rfl<|cH rfl<|aB rfl<|aL<|aS ?_
 cases h
 exact vF rfl
end
section
def lB  (a4:Bool):Option (Bool):=
 some (a4)
def lC  (a12:Bool):Option (Bool):=
 some (a12)
def oV (p0:lO) (p1:Int) (a8:Bool):Option (Bool):=
 if a8=true then(if(0:Int)<=p0.2 then(lC  (decide (p0.2<p1)))else(lC  (false)))else(some (decide (p0.2=(0:Int))))
def qR (U:Nat) (p0:lO) (p1:Int):Option (Bool):=
 if p0.1=(1:Int)then(if(0:Int)<=p0.2 then(lB  (decide (p0.2<=(1073741824:Int))))else(lB  (false)))else(if p0.1=(5:Int)then(oV p0 p1 (decide (p0.1=(5:Int))))else(oV p0 p1 (decide (p0.1=(12:Int)))))
theorem Qx:bE Tryz.prog 114:=Tryz.call114
theorem DW (U:Nat) {p0:lO} {p1:Int} (r:Bool) (h:qR U p0 p1=some r):
  aZ Tryz.prog 114 #[Value.agg #[vI (p0.1),vI (p0.2)],vI (p1)] [] (fun x:Unit=>vB (r)) (fun x l=>l) (fun _ l=>l):=by
 refine aZ.of Tryz.func114 rfl Tryz.ntmps114 rfl fun c=>?_
 refine aT<|aN (aR.box (cs:=[vI (p0.1),vI (p0.2)]) rfl rfl) rfl fun b1=>aB rfl<|aL<|aI<|aT<|bQ rfl<|cM 0 rfl<|aL<|aP<|aT<|cH rfl<|aB rfl<|aL ?_
 refine fG h rfl (fun h=>?_) fun h=>?_
 ·refine aI<|cF (fun a4=>lB  a4=some r) (fun a4 b5=>[(4,vB (a4))]) (fun a4 b5=>[]) ?_ ?_
  ·refine aH<|bQ rfl<|cM 0 rfl<|aD (lL rfl rfl) rfl<|aA rfl ?_
   refine mW h rfl (fun _ h=>?_) fun _ h=>?_
   ·refine aF rfl (bW rfl rfl rfl rfl rfl) rfl<|aF rfl (cI 0 rfl rfl rfl rfl rfl) rfl<|aF rfl (oP rfl rfl) rfl<|bO rfl<|aB rfl<|aL ?_
    exact bS (decide (p0.2<=(1073741824:Int))) () h SF .nil (aO.refl _ _)
   refine aC rfl<|aC rfl<|aC rfl<|bR rfl<|aB rfl<|aL ?_
   exact bS (false) () h SF .nil (aO.refl _ _)
  intro a4 b5 h
  unfold lB at h
  refine aS<|bP<|aG ?_
  cases h
  exact gU rfl
 refine aI<|cF (fun a8=>oV p0 p1 a8=some r) (fun a8 b9=>[(1,vI (p1)),(2,vP b1),(17,vB (a8))]) (fun a8 b9=>[dD b1 [vI (p0.1),vI (p0.2)] 84]) ?_ ?_
 ·refine aT<|cH rfl<|aB rfl<|aL ?_
  refine fG h rfl (fun h=>?_) fun h=>?_
  ·refine bJ ?_
   exact b_ (decide (p0.1=(5:Int))) () h SF rfl
  refine aH<|cH rfl<|aB rfl<|aL ?_
  exact b_ (decide (p0.1=(12:Int))) () h SF rfl
 intro a8 b9 h
 refine eY h rfl (fun _ h=>?_) fun _ h=>?_
 ·refine aI<|cF (fun a12=>lC  a12=some r) (fun a12 b13=>[(4,vB (a12))]) (fun a12 b13=>[]) ?_ ?_
  ·refine aH<|bQ rfl<|cM 0 rfl<|aD (lL rfl rfl) rfl<|aA rfl ?_
   refine mW h rfl (fun _ h=>?_) fun _ h=>?_
   ·refine aF rfl (bW rfl rfl rfl rfl rfl) rfl<|aF rfl (cI 0 rfl rfl rfl rfl rfl) rfl<|bM rfl<|aF rfl (IY rfl rfl) rfl<|bO rfl<|aB rfl<|aL ?_
    exact bS (decide (p0.2<p1)) () h SF .nil (aO.refl _ _)
   refine aC rfl<|aC rfl<|aC rfl<|aC rfl<|bR rfl<|aB rfl<|aL ?_
   exact bS (false) () h SF .nil (aO.refl _ _)
  intro a12 b13 h
  unfold lC at h
  refine aS<|bP<|aG ?_
  cases h
  exact gU rfl
 refine cS<|kB<|aT<|bQ rfl<|cM 0 rfl<|cH rfl<|aB rfl<|aL<|aS ?_
 cases h
 exact vF rfl
end
end Go.Proofs.YthnplbmmlbnelaaGreat
end
section
namespace Go.Proofs.YthnplbmmlbnelaaGreat
open Go Go.Sx
def IZ (o:Int):Int:=if o<1∨43<o then -1 else if o<=17 then 0 else if o<=29 then 1 else if o<=42 then 2 else 3
theorem GQ {o:Int} (h:AD o=none):IZ o = -1:=by
 unfold AD at h;unfold IZ
 split at h
 ·rename_i h1;rw[if_pos h1]
 ·split at h
  ·cases h
  ·split at h
   ·cases h
   ·split at h<;>cases h
theorem gX {o:Int} {a:Nat} (h:AD o=some a):IZ o=(a:Int):=by
 unfold AD at h;unfold IZ
 split at h
 ·cases h
 ·rename_i h1
  rw[if_neg h1]
  split at h
  ·rename_i h2;cases h;rw[if_pos h2];rfl
  ·rename_i h2;rw[if_neg h2]
   split at h
   ·rename_i h3;cases h;rw[if_pos h3];rfl
   ·rename_i h3;rw[if_neg h3]
    split at h
    ·rename_i h4;cases h;rw[if_pos h4];rfl
    ·rename_i h4;cases h;rw[if_neg h4];rfl
theorem Iu (F:Nat) (o:Int):nF F o=some (IZ o):=by
 unfold nF wW IZ
 by_cases h1:o<1
 ·simp[h1]
 ·by_cases h2:43<o
  ·simp[h1,h2]
  ·by_cases a:o<=17
   ·simp[h1,h2,a]
   ·by_cases b:o<=29
    ·simp[h1,h2,a,b]
    ·by_cases c:o<=42
     ·simp[h1,h2,a,b,c]
     ·simp[h1,h2,a,b,c]
theorem KU (F:Nat) (o:Int):lJ F o=some (IZ o):=by
 unfold lJ uI uJ uK IZ
 simp only[decide_eq_true_eq,Bool.false_eq_true,if_false]
 repeat' split
 all_goals first|rfl|(exfalso;omega)|(congr 1;omega)
theorem RB (F:Nat) (o:Int):lY F o=some (agg o):=by
 unfold lY lF agg
 split
 ·rename_i h;simp[h]
 ·rename_i h;simp[h]
theorem Vk (F:Nat) (o:Int):kZ F o=some (agg o):=by
 unfold kZ kF agg
 split
 ·rename_i h;simp[h]
 ·rename_i h;simp[h]
def yQ (vars:Int) (t:TM):Bool:=if t.1=1 then decide (0<=t.2)&&decide (t.2<=1073741824)else if t.1=5∨t.1=12 then decide (0<=t.2)&&decide (t.2<vars)else decide (t.2=0)
theorem Xf (F:Nat) (t:TM) (vars:Int):sP F t vars=some (yQ vars t):=by
 unfold sP mM qZ mN yQ
 by_cases h1:t.1=1
 ·simp only[h1,if_true];split<;>rename_i h<;>simp[h]
 ·by_cases h2:t.1=5
  ·simp[h2];split<;>rename_i h<;>simp[h]
  ·by_cases h3:t.1=12
   ·simp[h3];split<;>rename_i h<;>simp[h]
   ·simp[h1,h2,h3]
theorem WY (F:Nat) (t:TM) (vars:Int):qR F t vars=some (yQ vars t):=by
 unfold qR lB oV lC yQ
 by_cases h1:t.1=1
 ·simp only[h1,if_true];split<;>rename_i h<;>simp[h]
 ·by_cases h2:t.1=5
  ·simp[h2];split<;>rename_i h<;>simp[h]
  ·by_cases h3:t.1=12
   ·simp[h3];split<;>rename_i h<;>simp[h]
   ·simp[h1,h2,h3]
theorem PL (F:Nat) (T:List TM):∀(l pre:List TM) (fuel m:Nat),T=pre++l->T.length<=900->1<=m->m+3*l.length<=3000->l.length<fuel->
  bH (lG F T) fuel (((pre.length:Nat):Int),((m:Nat):Int))=some (match rn m l with|some n=>((pre.length+n:Nat):Int)|none=> -1):=by
 intro l
 induction l with
 |nil=>
  intro pre fuel m hT hl hm hb hf
  obtain⟨f,rfl⟩:∃f,fuel=f+1:=⟨fuel - 1,by omega⟩
  obtain⟨m,rfl⟩:∃q,m=q+1:=⟨m - 1,by omega⟩
  show lG F T _ _=_
  unfold lG zA
  dsimp only
  rw[if_neg (by rw[hT];simp)]
  rfl
 | cons t r ih =>
  intro pre fuel m hT hl hm hb hf
  simp only[List.length_cons]at hb hf
  obtain⟨f,rfl⟩:∃f,fuel=f+1:=⟨fuel - 1,by omega⟩
  obtain⟨m,rfl⟩:∃q,m=q+1:=⟨m - 1,by omega⟩
  have hlt:pre.length<T.length:=by rw[hT];simp
  have hat:at' T ((pre.length:Nat):Int)=t:=by rw[hT];exact fD pre r t _ rfl
  have ih':=fun m' h1 h2=>ih (pre++[t]) f m' (by rw[hT];simp) hl h1 h2 (by omega)
  show lG F T _ (bH (lG F T) f)=_
  generalize bH (lG F T) f=ag at ih' ⊢
  unfold lG
  dsimp only
  rw[if_pos (by omega),eF (by omega),hat,bF (Iu F t.1)]
  cases ha:AD t.1 with
  |none=>
   rw[GQ ha,if_pos (by decide),Ip ha]
  | some a =>
   have ha3:=Dw ha
   rw[gX ha,if_neg (by omega),wr (x:=((a:Nat):Int) - 1) (by omega) (by omega),wr (x:=((m+1:Nat):Int)+(((a:Nat):Int) - 1)) (by omega) (by omega),wr (x:=((pre.length:Nat):Int)+1) (by omega) (by omega),Ap ha]
   by_cases h0:m+a=0
   ·rw[if_pos (by omega),h0,ES]
    show some _=some (((pre.length+(0+1):Nat)):Int)
    congr 1
   ·rw[if_neg (by omega)]
    have:=ih' (m+a) (by omega) (by omega)
    rw[show(((pre.length:Nat):Int)+1)=(((pre++[t]).length:Nat):Int) by simp,show((m+1:Nat):Int)+(((a:Nat):Int) - 1)=((m+a:Nat):Int) by omega,this]
    cases rn (m+a) r with
    |none=>rfl
    |some n=>simp only[Option.map_some,List.length_append,List.length_cons,List.length_nil];congr 2;omega
theorem VD (F:Nat) (T:List TM) (k:Nat) (hT:T.length<=900) (hF:T.length<F):yJ F T (k:Int)=some (AK T k):=by
 unfold yJ y_
 rw[if_neg (by omega)]
 simp only[decide_eq_true_eq]
 by_cases h:T.length<=k
 ·rw[if_pos (by omega)]
  unfold AK
  rw[List.drop_of_length_le h];rfl
 ·rw[if_neg (by omega)]
  have:=PL F T (T.drop k) (T.take k) F 1 (by rw[List.take_append_drop]) hT (by omega) (by simp;omega) (by simp;omega)
  rw[List.length_take,Nat.min_eq_left (by omega)]at this
  exact this
theorem Pp (F:Nat) (T:List TM):∀(l pre:List TM) (fuel m:Nat),T=pre++l->T.length<=900->1<=m->m+3*l.length<=3000->l.length<fuel->
  bH (jS F T) fuel (((m:Nat):Int),((pre.length:Nat):Int))=some (match rn m l with|some n=>((pre.length+n:Nat):Int)|none=> -1):=by
 intro l
 induction l with
 |nil=>
  intro pre fuel m hT hl hm hb hf
  obtain⟨f,rfl⟩:∃f,fuel=f+1:=⟨fuel - 1,by omega⟩
  obtain⟨m,rfl⟩:∃q,m=q+1:=⟨m - 1,by omega⟩
  show jS F T _ _=_
  unfold jS xW
  dsimp only
  rw[if_neg (by rw[hT];simp)]
  rfl
 | cons t r ih =>
  intro pre fuel m hT hl hm hb hf
  simp only[List.length_cons]at hb hf
  obtain⟨f,rfl⟩:∃f,fuel=f+1:=⟨fuel - 1,by omega⟩
  obtain⟨m,rfl⟩:∃q,m=q+1:=⟨m - 1,by omega⟩
  have hlt:pre.length<T.length:=by rw[hT];simp
  have hat:at' T ((pre.length:Nat):Int)=t:=by rw[hT];exact fD pre r t _ rfl
  have ih':=fun m' h1 h2=>ih (pre++[t]) f m' (by rw[hT];simp) hl h1 h2 (by omega)
  show jS F T _ (bH (jS F T) f)=_
  generalize bH (jS F T) f=ag at ih' ⊢
  unfold jS
  dsimp only
  rw[if_pos (by omega),eF (by omega),hat,bF (KU F t.1)]
  cases ha:AD t.1 with
  |none=>
   rw[GQ ha,if_pos (by decide),Ip ha]
  | some a =>
   have ha3:=Dw ha
   rw[gX ha,if_neg (by omega),wr (x:=((a:Nat):Int) - 1) (by omega) (by omega),wr (x:=((m+1:Nat):Int)+(((a:Nat):Int) - 1)) (by omega) (by omega),wr (x:=((pre.length:Nat):Int)+1) (by omega) (by omega),Ap ha]
   by_cases h0:m+a=0
   ·rw[if_pos (by omega),h0,ES]
    show some _=some (((pre.length+(0+1):Nat)):Int)
    congr 1
   ·rw[if_neg (by omega)]
    have:=ih' (m+a) (by omega) (by omega)
    rw[show(((pre.length:Nat):Int)+1)=(((pre++[t]).length:Nat):Int) by simp,show((m+1:Nat):Int)+(((a:Nat):Int) - 1)=((m+a:Nat):Int) by omega,this]
    cases rn (m+a) r with
    |none=>rfl
    |some n=>simp only[Option.map_some,List.length_append,List.length_cons,List.length_nil];congr 2;omega
theorem TW (F:Nat) (T:List TM) (k:Nat) (hT:T.length<=900) (hF:T.length<F):tH F T (k:Int)=some (AK T k):=by
 unfold tH xV
 rw[if_neg (by omega)]
 simp only[decide_eq_true_eq]
 by_cases h:T.length<=k
 ·rw[if_pos (by omega)]
  unfold AK
  rw[List.drop_of_length_le h];rfl
 ·rw[if_neg (by omega)]
  have:=Pp F T (T.drop k) (T.take k) F 1 (by rw[List.take_append_drop]) hT (by omega) (by simp;omega) (by simp;omega)
  rw[List.length_take,Nat.min_eq_left (by omega)]at this
  exact this
end Go.Proofs.YthnplbmmlbnelaaGreat
end
section
namespace Go.Proofs.YthnplbmmlbnelaaGreat
open Go.Sx
section
def yO  (a7:bV):Option (Int×Bool):=
 ck (0<=(0:Int)∧(0:Int)<(List.length a7:Int)) (some ((at' a7 (0:Int)),true))
def u_ (p0:cA) (g1:Int->Int->Option Int) (a14:bV×Int) (ag13:(bV×Int)->Option (Int×Bool)) (r19:Int) (a23:Int):Option (Int×Bool):=
 ck (0<=(0:Int)∧(0:Int)<=(wI .i64 ((List.length a14.1:Int) - r19))∧(wI .i64 ((List.length a14.1:Int) - r19))<=(List.length a14.1:Int)) (ck (0<=a14.2∧a14.2<(List.length p0:Int)) (Option.bind (g1 ((at' p0 a14.2).1) a23) fun r27=>(ck ((List.length (List.take (Int.toNat (wI .i64 ((List.length a14.1:Int) - r19))) a14.1):Int)+(List.length ([r27]):Int)<=1099511627) (ag13 (((List.take (Int.toNat (wI .i64 ((List.length a14.1:Int) - r19))) a14.1)++[r27]),(wI .i64 (a14.2 - (1:Int))))))))
def gV (p0:cA) (g1:Int->Int->Option Int) (a14:bV×Int) (ag13:(bV×Int)->Option (Int×Bool)) (r19:Int) (a37:lO) (ag36:fZ->Option (Int×Bool)):Option (Int×Bool):=
 if a37.2<(List.length (List.drop (Int.toNat (wI .i64 ((List.length a14.1:Int) - r19))) (List.take (Int.toNat (List.length a14.1:Int)) a14.1)):Int)then(ck (0<=a37.2∧a37.2<(List.length (List.drop (Int.toNat (wI .i64 ((List.length a14.1:Int) - r19))) (List.take (Int.toNat ((List.length a14.1:Int))) a14.1)):Int)) (ag36 ((max a37.1 (at' (List.drop (Int.toNat (wI .i64 ((List.length a14.1:Int) - r19))) (List.take (Int.toNat (List.length a14.1:Int)) a14.1)) a37.2)),(wI .i64 (a37.2+(1:Int))))))else(u_ p0 g1 a14 ag13 r19 (a37.1))
def dX (U:Nat) (p0:cA) (g1:Int->Int->Option Int) (a14:bV×Int) (ag13:(bV×Int)->Option (Int×Bool)):Option (Int×Bool):=
 if(0:Int)<=a14.2 then(ck (0<=a14.2∧a14.2<(List.length p0:Int)) (Option.bind (nF U ((at' p0 a14.2).1)) fun r19=>(ck (0<=(wI .i64 ((List.length a14.1:Int) - r19))∧(wI .i64 ((List.length a14.1:Int) - r19))<=((List.length a14.1:Int))∧((List.length a14.1:Int))<=(List.length a14.1:Int)) (bH (gV p0 g1 a14 ag13 r19) U ((0:Int),(0:Int))))))else(yO  (a14.1))
def rT (U:Nat) (p0:cA) (g1:Int->Int->Option Int):Option (Int×Bool):=
 Option.bind (yJ U p0 (0:Int)) fun r1=>(if r1≠(List.length p0:Int)then(some ((0:Int),false))else(bH (dX U p0 g1) U (([]:bV),(wI .i64 ((List.length p0:Int) - (1:Int))))))
theorem Ox:bE Tryz.prog 88:=Tryz.call88
theorem BU (U:Nat) {p0:cA} {g1:Int->Int->Option Int} (f1:FuncId) (cs1:nT) (Lf:List bB) (hb_g1:bE Tryz.prog f1) (hm_g1:∀(y0:Int) (y1:Int) (r:Int),g1 y0 y1=some r->aZ Tryz.prog f1 ([vI (y0),vI (y1)]++cs1).toArray Lf (fun _:Unit=>vI (r)) (fun _ l=>l) (fun _ l=>l)) (v0:Value) (r:Int×Bool) (h:rT U p0 g1=some r):
  aZ Tryz.prog 88 #[v0,Value.func (.func f1) #[] (cs1).toArray] ([Sl aY v0 p0]++Lf) (fun x:Unit=>Value.tuple #[vI (r.1),vB (r.2)]) (fun x l=>l) (fun _ l=>l):=by
 refine aZ.of Tryz.func88 rfl Tryz.ntmps88 rfl fun c=>?_
 refine aT<|aB rfl<|aB rfl<|aL<|aI<|aT<|aA rfl<|eM h fun r1 w2 h=>aN (aR.callQ Ov (FZ U v0 r1 w2) rfl (hI [0] rfl)) rfl fun x3=>aA rfl<|cY (dB rfl) rfl<|rV rfl<|aL ?_
 refine fG h rfl (fun h=>?_) fun h=>?_
 ·refine aT<|aB rfl<|aB rfl<|aL<|aS<|aG ?_
  cases h
  exact eV () rfl rfl (RV.tmp rfl) (RV.tmp rfl) (bK.refl _) aO.nil
 refine bJ<|aT<|aB rfl<|aL<|aI<|pB (B:=Value) (fun a7=>yO  a7=some r) (fun a7 b8=>[(6,b8)]) (fun a7 b8=>[Ar fK b8 a7]) (fun a7 b8=>([Sl aY v0 p0]++Lf)) ?_ ?_
 ·refine aT<|aA rfl<|cY (dB rfl) rfl<|aD (vL rfl rfl) rfl<|aB rfl<|aL<|aP<|c_ (fC fK)<|yS (B:=Value) (dX U p0 g1) (fun a14 b15=>[(0,v0),(1,Value.func (.func f1) #[] (cs1).toArray),(6,b15),(7,vI (a14.2))]) (fun a14 b15=>[Ar fK b15 a14.1]) (fun a14 b15=>([Sl aY v0 p0]++Lf)) (([]:bV),(wI .i64 ((List.length p0:Int) - (1:Int)))) (oI) h SF (bK.refl _) (aO.refl _ _) ?_
  intro k16 a14 b15 h
  refine aI<|aT<|aA rfl<|aD (lL rfl rfl) rfl<|aL ?_
  refine fG h rfl (fun h=>?_) fun h=>?_
  ·refine bJ<|aI<|aP<|aT<|aA rfl<|aD (eX rfl (bT (aM.res 0 rfl) jD) rfl) rfl<|aA rfl<|aA rfl<|eO h fun j18 h=>aD (aU rfl rfl (dB rfl) rfl rfl j18) rfl<|aD (cB rfl rfl rfl rfl rfl) rfl<|aD (eQ rfl (dB rfl) rfl rfl rfl j_ j18) rfl<|eM h fun r19 w20 h=>aN (aR.callQ HM (xY U  r19 w20) rfl .nil) rfl fun x21=>aD (vL rfl rfl) rfl<|aB rfl<|aL<|aT<|aB rfl<|aL<|aI<|pB (B:=Unit) (fun a23=>u_ p0 g1 a14 (bH (dX U p0 g1) k16) r19 a23=some r) (fun a23 b24=>[(0,v0),(1,Value.func (.func f1) #[] (cs1).toArray),(6,b15),(7,vI (a14.2)),(8,vI (wI .i64 ((List.length a14.1:Int) - r19))),(9,vI (a23))]) (fun a23 b24=>[Ar fK b15 a14.1]) (fun a23 b24=>([Sl aY v0 p0]++Lf)) ?_ ?_
   ·refine aT<|aA rfl<|aA rfl<|eO h fun j33 h=>aD (Od rfl rfl (bT (aM.res 0 rfl) jD) rfl rfl j33) rfl<|aD (eX rfl (aM.part (bT (aM.res 0 rfl) jD) rfl j33) rfl) rfl<|aA rfl<|aL<|aP<|yS (B:=Unit) (gV p0 g1 a14 (bH (dX U p0 g1) k16) r19) (fun a37 b38=>[(0,v0),(1,Value.func (.func f1) #[] (cs1).toArray),(6,b15),(7,vI (a14.2)),(8,vI (wI .i64 ((List.length a14.1:Int) - r19))),(9,vI (a37.1)),(35,It b15 (Int.toNat (wI .i64 ((List.length a14.1:Int) - r19))) (Int.toNat (List.length a14.1:Int)) 1),(36,vI (List.length (List.drop (Int.toNat (wI .i64 ((List.length a14.1:Int) - r19))) (List.take (Int.toNat (List.length a14.1:Int)) a14.1)):Int)),(37,vI (a37.2))]) (fun a37 b38=>[Ar fK b15 a14.1]) (fun a37 b38=>([Sl aY v0 p0]++Lf)) ((0:Int),(0:Int)) () h SF (bK.refl _) (aO.refl _ _) ?_
    intro k39 a37 b38 h
    refine aT<|cZ rfl<|aL<|aI ?_
    refine fG h rfl (fun h=>?_) fun h=>?_
    ·refine bJ<|aI<|aP<|aT<|eO h fun j41 h=>aD (aU rfl rfl (aM.part (bT (aM.res 0 rfl) jD) rfl j33) rfl rfl j41) rfl<|aD (fN rfl (aM.part (bT (aM.res 0 rfl) jD) rfl j33) rfl rfl rfl jP j41) rfl<|aB rfl<|aL<|aH<|aA rfl<|aA rfl<|aD (Ob rfl rfl) rfl<|aB rfl<|fF<|kB<|aH<|cU rfl<|aA rfl<|aL ?_
     exact AC ((max a37.1 (at' (List.drop (Int.toNat (wI .i64 ((List.length a14.1:Int) - r19))) (List.take (Int.toNat (List.length a14.1:Int)) a14.1)) a37.2)),(wI .i64 (a37.2+(1:Int)))) () h SF rfl
    refine dY ?_
    exact b_ (a37.1) () h SF rfl
   intro a23 b24 h
   refine Gi [0,0,3,0,0,0,48,112,240,0,1016,2040,4095,8191] 12 mixedOrders ?_
   refine cR rfl<|cR rfl<|eO h fun j25 h=>cN rfl (bK.cons 0 rfl .nil) .nil (CI rfl rfl (bT (aM.res 0 rfl) jD) rfl rfl j25) bD.z<|cR rfl<|cR rfl<|cR rfl<|eO h fun j26 h=>cN rfl .nil (lN 0 rfl) (aU rfl rfl (dB rfl) rfl rfl j26) bD.z<|rH rfl (cB rfl rfl rfl rfl rfl)<|cN rfl .nil (lN 0 rfl) (eQ rfl (dB rfl) rfl rfl rfl j_ j26) bD.z<|cR rfl<|eM h fun r27 w28 h=>JR.loud rfl rfl rfl (IN (vs:=[vI ((at' p0 a14.2).1),vI (a23)]) (cs:=cs1) hb_g1 rfl (hm_g1 ((at' p0 a14.2).1) a23 r27 w28) rfl (aO.tail _) (fun _ _=>rfl)) rfl (fun x29=>(CJ [([0],[])] rfl)) fun x29=>JR.loud rfl rfl rfl (iR (e:=fK) ([r27]) [(0,vI (r27))] rfl rfl rfl rfl (xC (vI (r27)) rfl) rfl rfl rfl) rfl (fun u30=>(CJ [([1],[])] rfl)) fun u30=>dM 12 rfl rfl<|c_ (B_ (sz:=1) 1 rfl j25)<|eO h fun j32 h=>aN (jO 1 jD rfl rfl rfl (bT (aM.res 0 rfl) jD) rfl rfl rfl rfl j32 rfl) rfl fun u31=>aB rfl<|fF<|kB<|aH<|aA rfl<|aD (vL rfl rfl) rfl<|aB rfl<|aL ?_
   exact eK (((List.take (Int.toNat (wI .i64 ((List.length a14.1:Int) - r19))) a14.1)++[r27]),(wI .i64 (a14.2 - (1:Int)))) (u31) h SF (bK.ix [1] rfl rfl) (aO.refl _ _)
  refine dY ?_
  exact b_ (a14.1) (b15) h SF rfl
 intro a7 b8 h
 refine aT<|aA rfl<|eO h fun j9 h=>aD (aU rfl rfl (bT (aM.res 0 rfl) jD) rfl rfl j9) rfl<|aD (fN rfl (bT (aM.res 0 rfl) jD) rfl rfl rfl jP j9) rfl<|aB rfl<|aB rfl<|aL<|aS ?_
 cases h
 exact eV () rfl rfl (RV.tmp rfl) (RV.tmp rfl) .nil aO.nil
end
section
def uF (U:Nat) (p0:Int) (p1:Int):Option (Int):=
 some (wI .i64 (p1+(1:Int)))
theorem To:bE Tryz.prog 89:=Tryz.call89
theorem FY (U:Nat) {p0:Int} {p1:Int} (r:Int) (h:uF U p0 p1=some r):
  aZ Tryz.prog 89 #[vI (p0),vI (p1)] [] (fun x:Unit=>vI (r)) (fun x l=>l) (fun _ l=>l):=by
 refine aZ.of Tryz.func89 rfl Tryz.ntmps89 rfl fun c=>?_
 unfold uF at h
 refine aT<|aB rfl<|aL<|aT<|aA rfl<|cU rfl<|aB rfl<|aL<|aS ?_
 cases h
 exact gU rfl
end
section
def xT (U:Nat) (p0:cA):Option (Int):=
 Option.bind (rT U p0 (fun y0 y1=>uF U y0 y1)) fun r1=>(some (r1.1))
theorem Tb:bE Tryz.prog 66:=Tryz.call66
theorem IA (U:Nat) {p0:cA} (v0:Value) (r:Int) (h:xT U p0=some r):
  aZ Tryz.prog 66 #[v0] [Sl aY v0 p0] (fun x:Unit=>vI (r)) (fun x l=>l) (fun _ l=>l):=by
 refine aZ.of Tryz.func66 rfl Tryz.ntmps66 rfl fun c=>?_
 refine aT<|aB rfl<|aL<|aT<|aA rfl<|eM h fun r1 w2 h=>aN (aR.callQ Ox (BU U 89 [] [] To (fun y0 y1 r h=>FY U  r h) v0 r1 w2) rfl (hI [0] rfl)) rfl fun x3=>aA rfl<|gI rfl<|gI rfl<|aB rfl<|aB rfl<|aL<|aT<|aA rfl<|aB rfl<|aL<|aS ?_
 cases h
 exact gU rfl
end
section
def zF (U:Nat) (p0:Int) (p1:Int):Option (Int):=
 Option.bind (lY U p0) fun r1=>(if r1=true then(some (wI .i64 (p1+(1:Int))))else(some (p1)))
theorem Tp:bE Tryz.prog 90:=Tryz.call90
theorem Gz (U:Nat) {p0:Int} {p1:Int} (r:Int) (h:zF U p0 p1=some r):
  aZ Tryz.prog 90 #[vI (p0),vI (p1)] [] (fun x:Unit=>vI (r)) (fun x l=>l) (fun _ l=>l):=by
 refine aZ.of Tryz.func90 rfl Tryz.ntmps90 rfl fun c=>?_
 refine aT<|aB rfl<|aL<|aI<|aT<|aA rfl<|eM h fun r1 w2 h=>aN (aR.callQ Oy (zV U  r1 w2) rfl .nil) rfl fun x3=>aL ?_
 refine eY h rfl (fun _ h=>?_) fun _ h=>?_
 ·refine aT<|aA rfl<|cU rfl<|aB rfl<|aL<|aS<|aG ?_
  cases h
  exact gU rfl
 refine bJ<|aT<|aA rfl<|aB rfl<|aL<|aS ?_
 cases h
 exact gU rfl
end
section
def yW (U:Nat) (p0:cA):Option (Int):=
 Option.bind (rT U p0 (fun y0 y1=>zF U y0 y1)) fun r1=>(some (r1.1))
theorem Tc:bE Tryz.prog 67:=Tryz.call67
theorem JG (U:Nat) {p0:cA} (v0:Value) (r:Int) (h:yW U p0=some r):
  aZ Tryz.prog 67 #[v0] [Sl aY v0 p0] (fun x:Unit=>vI (r)) (fun x l=>l) (fun _ l=>l):=by
 refine aZ.of Tryz.func67 rfl Tryz.ntmps67 rfl fun c=>?_
 refine aT<|aB rfl<|aL<|aT<|aA rfl<|eM h fun r1 w2 h=>aN (aR.callQ Ox (BU U 90 [] [] Tp (fun y0 y1 r h=>Gz U  r h) v0 r1 w2) rfl (hI [0] rfl)) rfl fun x3=>aA rfl<|gI rfl<|gI rfl<|aB rfl<|aB rfl<|aL<|aT<|aA rfl<|aB rfl<|aL<|aS ?_
 cases h
 exact gU rfl
end
end Go.Proofs.YthnplbmmlbnelaaGreat
end
section
namespace Go.Proofs.YthnplbmmlbnelaaGreat
open Go Go.Sx
def X.num (g:Int->Int->Int):X->Int
 |lf t=>g t.1 0
 |un t x=>g t.1 (max 0 (x.num g))
 |bi t x y=>g t.1 (max (max 0 (y.num g)) (x.num g))
 |tr t x y z=>g t.1 (max (max (max 0 (z.num g)) (y.num g)) (x.num g))
theorem RE (T:List TM) (G:Int->Int->Option Int) (a:List Int×Int) (ag:(List Int×Int)->Option (Int×Bool)) (D:bV) (r:Int) (hD:List.drop (Int.toNat (wI .i64 ((List.length a.1:Int) - r))) (List.take (Int.toNat (List.length a.1:Int)) a.1)=D) (hl:D.length<1000):
  ∀(l pre:bV) (m:Int) (fuel:Nat),D=pre++l->l.length<fuel->bH (gV T G a ag r) fuel (m,((pre.length:Nat):Int))=u_ T G a ag r (l.foldl max m):=by
 intro l
 induction l with
 |nil=>
  intro pre m fuel h hf
  obtain⟨f,rfl⟩:∃f,fuel=f+1:=⟨fuel - 1,by omega⟩
  show gV T G a ag r _ _=_
  unfold gV
  dsimp only
  rw[hD,if_neg (by rw[h];simp)]
  rfl
 |cons x l ih=>
  intro pre m fuel h hf
  simp only[List.length_cons]at hf
  obtain⟨f,rfl⟩:∃f,fuel=f+1:=⟨fuel - 1,by omega⟩
  have hlt:pre.length<D.length:=by rw[h];simp
  have ih':=fun m'=>ih (pre++[x]) m' f (by rw[h];simp) (by omega)
  show gV T G a ag r _ (bH (gV T G a ag r) f)=_
  generalize bH (gV T G a ag r) f=ag' at ih' ⊢
  unfold gV
  dsimp only
  rw[hD,if_pos (by omega),eF (by omega),wr (by omega) (by omega),show at' D ((pre.length:Nat):Int)=x by rw[h];exact fD pre l x _ rfl]
  have:=ih' (max m x)
  rw[show(((pre.length:Nat):Int)+1)=(((pre++[x]).length:Nat):Int) by simp,this]
  rfl
theorem Dd (F:Nat) {T:List TM} {G:Int->Int->Option Int} {g:Int->Int->Int} (hG:∀o m,0<=m->m<=1000->G o m=some (g o m)) {pre post:List TM} {t:TM} (hT:T=pre++t::post) (hl:T.length<=900) (hF:10<=F) {S D:bV} {a:Nat} (ha:AD t.1=some a) (hD:D.length=a) (hS:S.length<=900) (hm:0<=D.foldl max 0) (hm2:D.foldl max 0<=1000) (fuel:Nat):
  bH (dX F T G) (fuel+1) (S++D,((pre.length:Nat):Int))=bH (dX F T G) fuel (S++[g t.1 (D.foldl max 0)],((pre.length:Nat):Int) - 1):=by
 have ha3:=Dw ha
 have hlt:pre.length<T.length:=by rw[hT];simp
 have hat:at' T ((pre.length:Nat):Int)=t:=by rw[hT];exact fD pre post t _ rfl
 show dX F T G _ (bH (dX F T G) fuel)=_
 generalize bH (dX F T G) fuel=ag
 unfold dX
 have hlen:((S++D).length:Int) - (a:Int)=(S.length:Int):=by simp;omega
 dsimp only
 rw[if_pos (by omega),eF (by omega),hat,bF (Iu F t.1),gX ha,hlen,wr (by omega) (by omega),eF (by simp;omega)]
 rw[show((0:Int),(0:Int))=(0,((([]:bV).length:Nat):Int))from rfl]
 rw[RE T G (S++D,((pre.length:Nat):Int)) ag D (a:Int) (by
  dsimp only
  rw[hlen,wr (by omega) (by omega),Int.toNat_natCast,Int.toNat_natCast,List.take_length,List.drop_left]) (by omega) D [] 0 F (by simp) (by omega)]
 unfold u_
 dsimp only
 rw[hlen,wr (by omega) (by omega),wr (by omega) (by omega),eF (by simp;omega),eF (by omega),hat,bF (hG _ _ hm hm2),Int.toNat_natCast,List.take_left,eF (by simp;omega)]
theorem yL (F:Nat) {T:List TM} {G:Int->Int->Option Int} {g:Int->Int->Int} (hG:∀o m,0<=m->m<=1000->G o m=some (g o m)) (hg:∀o m,0<=m->0<=g o m∧g o m<=m+1) (hl:T.length<=900) (hF:10<=F):∀(x:X),x.ok->x.num g<=x.ts.length∧0<=x.num g∧∀(pre post:List TM) (S:bV) (fuel:Nat),T=pre++(x.ts++post)->S.length+x.ts.length<=900->
  bH (dX F T G) (fuel+x.ts.length) (S,((pre.length+x.ts.length:Nat):Int) - 1)=bH (dX F T G) fuel (S++[x.num g],((pre.length:Nat):Int) - 1)
 | .lf t,hx=>by
  have h0:=hg t.1 0 (by omega)
  refine⟨by simp only[X.num,X.ts,List.length_cons,List.length_nil];omega,h0.1,fun pre post S fuel hT hS=> ?_⟩
  have:=Dd F hG (pre:=pre) (post:=post) (t:=t) (by simpa [X.ts]using hT) hl hF (S:=S) (D:=[]) hx rfl (by omega) (by simp) (by simp) fuel
  rw[List.append_nil]at this
  simp only[X.ts,List.length_cons,List.length_nil]
  rw[show((pre.length+(0+1):Nat):Int) - 1=((pre.length:Nat):Int) by omega,this]
  rfl
 | .un t x,hx=>by
  obtain⟨h1,h2,ih⟩:=yL F hG hg hl hF x hx.2
  have h0:=hg t.1 (max 0 (x.num g)) (by omega)
  refine⟨by simp only[X.num,X.ts,List.length_cons];omega,h0.1,fun pre post S fuel hT hS=> ?_⟩
  simp only[X.ts,List.length_cons]at hS ⊢
  have hlen:=congrArg List.length hT
  simp only[X.ts,List.length_append,List.length_cons]at hlen
  have:=ih (pre++[t]) post S (fuel+1) (by rw[hT];simp[X.ts]) (by omega)
  rw[show fuel+(x.ts.length+1)=fuel+1+x.ts.length by omega,show((pre.length+(x.ts.length+1):Nat):Int) - 1=(((pre++[t]).length+x.ts.length:Nat):Int) - 1 by simp;omega,this]
  have:=Dd F hG (pre:=pre) (post:=x.ts++post) (t:=t) (by rw[hT];simp[X.ts]) hl hF (S:=S) (D:=[x.num g]) hx.1 rfl (by omega) (by simp;omega) (by simp;omega) fuel
  rw[show(((pre++[t]).length:Nat):Int) - 1=((pre.length:Nat):Int) by simp,this]
  rfl
 | .bi t x y, hx => by
  obtain⟨h1,h2,ihx⟩:=yL F hG hg hl hF x hx.2.1
  obtain⟨k1,k2,ihy⟩:=yL F hG hg hl hF y hx.2.2
  have h0:=hg t.1 (max (max 0 (y.num g)) (x.num g)) (by omega)
  have hy:=y.pos
  refine⟨by simp only[X.num,X.ts,List.length_cons,List.length_append];omega,h0.1,fun pre post S fuel hT hS=> ?_⟩
  simp only[X.ts,List.length_cons,List.length_append]at hS ⊢
  have hlen:=congrArg List.length hT
  simp only[X.ts,List.length_append,List.length_cons]at hlen
  have e1:=ihy (pre++t::x.ts) post S (fuel+1+x.ts.length) (by rw[hT];simp[X.ts]) (by omega)
  have e2:=ihx (pre++[t]) (y.ts++post) (S++[y.num g]) (fuel+1) (by rw[hT];simp[X.ts]) (by simp;omega)
  rw[show fuel+(x.ts.length+y.ts.length+1)=fuel+1+x.ts.length+y.ts.length by omega,show((pre.length+(x.ts.length+y.ts.length+1):Nat):Int) - 1=(((pre++t::x.ts).length+y.ts.length:Nat):Int) - 1 by simp;omega,e1,
   show(((pre++t::x.ts).length:Nat):Int) - 1=(((pre++[t]).length+x.ts.length:Nat):Int) - 1 by simp;omega,e2]
  have:=Dd F hG (pre:=pre) (post:=x.ts++(y.ts++post)) (t:=t) (by rw[hT];simp[X.ts]) hl hF (S:=S) (D:=[y.num g,x.num g]) hx.1 rfl (by omega) (by simp;omega) (by simp;omega) fuel
  rw[show(((pre++[t]).length:Nat):Int) - 1=((pre.length:Nat):Int) by simp,show S++[y.num g]++[x.num g]=S++[y.num g,x.num g] by simp,this]
  rfl
 | .tr t x y z, hx => by
  obtain⟨h1,h2,ihx⟩:=yL F hG hg hl hF x hx.2.1
  obtain⟨k1,k2,ihy⟩:=yL F hG hg hl hF y hx.2.2.1
  obtain⟨l1,l2,ihz⟩:=yL F hG hg hl hF z hx.2.2.2
  have h0:=hg t.1 (max (max (max 0 (z.num g)) (y.num g)) (x.num g)) (by omega)
  have hy:=y.pos
  have hz:=z.pos
  refine⟨by simp only[X.num,X.ts,List.length_cons,List.length_append];omega,h0.1,fun pre post S fuel hT hS=> ?_⟩
  simp only[X.ts,List.length_cons,List.length_append]at hS ⊢
  have hlen:=congrArg List.length hT
  simp only[X.ts,List.length_append,List.length_cons]at hlen
  have e0:=ihz (pre++t::(x.ts++y.ts)) post S (fuel+1+x.ts.length+y.ts.length) (by rw[hT];simp[X.ts]) (by omega)
  have e1:=ihy (pre++t::x.ts) (z.ts++post) (S++[z.num g]) (fuel+1+x.ts.length) (by rw[hT];simp[X.ts]) (by simp;omega)
  have e2:=ihx (pre++[t]) (y.ts++(z.ts++post)) (S++[z.num g]++[y.num g]) (fuel+1) (by rw[hT];simp[X.ts]) (by simp;omega)
  rw[show fuel+(x.ts.length+(y.ts.length+z.ts.length)+1)=fuel+1+x.ts.length+y.ts.length+z.ts.length by omega,show((pre.length+(x.ts.length+(y.ts.length+z.ts.length)+1):Nat):Int) - 1=(((pre++t::(x.ts++y.ts)).length+z.ts.length:Nat):Int) - 1 by simp;omega,e0,
   show(((pre++t::(x.ts++y.ts)).length:Nat):Int) - 1=(((pre++t::x.ts).length+y.ts.length:Nat):Int) - 1 by simp;omega,e1,
   show(((pre++t::x.ts).length:Nat):Int) - 1=(((pre++[t]).length+x.ts.length:Nat):Int) - 1 by simp;omega,e2]
  have:=Dd F hG (pre:=pre) (post:=x.ts++(y.ts++(z.ts++post))) (t:=t) (by rw[hT];simp[X.ts]) hl hF (S:=S) (D:=[z.num g,y.num g,x.num g]) hx.1 rfl (by omega) (by simp;omega) (by simp;omega) fuel
  rw[show(((pre++[t]).length:Nat):Int) - 1=((pre.length:Nat):Int) by simp,show S++[z.num g]++[y.num g]++[x.num g]=S++[z.num g,y.num g,x.num g] by simp,this]
  rfl
theorem YQ (F:Nat) {G:Int->Int->Option Int} {g:Int->Int->Int} (hG:∀o m,0<=m->m<=1000->G o m=some (g o m)) (hg:∀o m,0<=m->0<=g o m∧g o m<=m+1) {x:X} (hx:x.ok) (hl:x.ts.length<=450) (hF:460<=F):rT F x.ts G=some (x.num g,true):=by
 have hp:=x.pos
 obtain⟨_,_,h⟩:=yL F (T:=x.ts) hG hg (by omega) (by omega) x hx
 unfold rT
 have he:=VD F x.ts 0 (by omega) (by omega)
 rw[show((0:Nat):Int)=0 from rfl]at he
 rw[bF he,Lz hx,if_neg (by simp),wr (by omega) (by omega)]
 have:=h [] [] [] (F - x.ts.length - 1+1) (by simp) (by simp;omega)
 rw[show F - x.ts.length - 1+1+x.ts.length=F by omega]at this
 simp only[List.length_nil,Nat.zero_add,List.nil_append]at this
 rw[this]
 show dX F x.ts G _ _=_
 unfold dX yO
 dsimp only
 rw[if_neg (by decide),eF (by simp)]
 rfl
theorem X.num_depth:∀x:X,x.num (fun _ m=>m+1)=(x.depth:Int)
 |lf t=>by simp[X.num,X.depth]
 |un t x=>by have:=x.num_depth;simp only[X.num,X.depth,this];omega
 |bi t x y=>by have:=x.num_depth;have:=y.num_depth;simp only[X.num,X.depth, *];omega
 |tr t x y z=>by have:=x.num_depth;have:=y.num_depth;have:=z.num_depth;simp only[X.num,X.depth, *];omega
theorem yU {o:Int} {a:Nat} (h:AD o=some a) (ha:a≠1):agg o=false:=by
 unfold AD at h;unfold agg
 split at h
 ·cases h
 ·split at h
  ·simp;omega
  ·split at h
   ·cases h;exact absurd rfl ha
   ·simp;omega
theorem X.num_nest:∀x:X,x.ok->x.num (fun o m=>if agg o then m+1 else m)=(x.nest:Int)
 |lf t,h=>by simp[X.num,X.nest,yU h (by decide)]
 |un t x,h=>by have:=x.num_nest h.2;simp only[X.num,X.nest,this];split<;>simp<;>omega
 |bi t x y,h=>by have:=x.num_nest h.2.1;have:=y.num_nest h.2.2;simp only[X.num,X.nest,yU h.1 (by decide), *];simp;omega
 |tr t x y z,h=>by have:=x.num_nest h.2.1;have:=y.num_nest h.2.2.1;have:=z.num_nest h.2.2.2;simp only[X.num,X.nest,yU h.1 (by decide), *];simp;omega
theorem Um (F:Nat) {x:X} (hx:x.ok) (hl:x.ts.length<=450) (hF:460<=F):xT F x.ts=some (x.depth:Int):=by
 unfold xT
 rw[bF (YQ F (g:=fun _ m=>m+1) (fun o m h1 h2=>by unfold uF;rw[wr (by omega) (by omega)]) (fun o m h=>⟨by omega,by omega⟩) hx hl hF),X.num_depth]
theorem VH (F:Nat) {x:X} (hx:x.ok) (hl:x.ts.length<=450) (hF:460<=F):yW F x.ts=some (x.nest:Int):=by
 unfold yW
 rw[bF (YQ F (g:=fun o m=>if agg o then m+1 else m) (fun o m h1 h2=>by
  unfold zF;rw[bF (RB F o)];split
  ·rw[wr (by omega) (by omega)]
  ·rfl) (fun o m h=>by split<;>omega) hx hl hF),X.num_nest x hx]
end Go.Proofs.YthnplbmmlbnelaaGreat
end
section
namespace Go.Proofs.YthnplbmmlbnelaaGreat
open Go.Sx
section
def uN  (a2:Bool):Option (Bool):=
 some (a2)
def tI (U:Nat) (p0:cA):Option (Bool):=
 if(0:Int)<(List.length p0:Int)then(Option.bind (tH U p0 (0:Int)) fun r5=>(uN  (decide (r5=(List.length p0:Int)))))else(uN  (false))
theorem Kx:bE Tryz.prog 68:=Tryz.call68
theorem Bp (U:Nat) {p0:cA} (v0:Value) (r:Bool) (h:tI U p0=some r):
  aZ Tryz.prog 68 #[v0] [Sl aY v0 p0] (fun x:Unit=>vB (r)) (fun x l=>l) (fun _ l=>l):=by
 refine aZ.of Tryz.func68 rfl Tryz.ntmps68 rfl fun c=>?_
 refine aT<|aB rfl<|aL<|aI<|cF (fun a2=>uN  a2=some r) (fun a2 b3=>[(2,vB (a2))]) (fun a2 b3=>[]) ?_ ?_
 ·refine aH<|aA rfl<|cY (dB rfl) rfl<|aD (pF rfl rfl) rfl<|aA rfl ?_
  refine mW h rfl (fun _ h=>?_) fun _ h=>?_
  ·refine bM rfl<|eM h fun r5 w6 h=>fA rfl (aR.callQ Ky (Bm U v0 r5 w6) rfl (hI [0] rfl)) rfl fun x7=>bM rfl<|aF rfl (eX rfl (dB rfl) rfl) rfl<|aF rfl (kP rfl rfl) rfl<|bO rfl<|aB rfl<|aL ?_
   exact b_ (decide (r5=(List.length p0:Int))) () h SF rfl
  refine aC rfl<|aC rfl<|aC rfl<|aC rfl<|aC rfl<|bR rfl<|aB rfl<|aL ?_
  exact b_ (false) () h SF rfl
 intro a2 b3 h
 unfold uN at h
 refine aS ?_
 cases h
 exact gU rfl
end
section
def sV  (a3:lO):Option fZ:=
 some (a3.1,a3.2)
def fI (a13:Hm) (ag12:Hl->Option fZ) (a23:Int×Int×bV×List (Bool)):Option fZ:=
 ag12 (a23.1,a23.2.1,a23.2.2.1,a23.2.2.2,(wI .i64 (a13.2.2.2.2+(1:Int))))
def kV (a13:Hm) (ag12:Hl->Option fZ) (r26:Int) (a40:Int) (a47:bV×List (Bool)) (ag46:(bV×List (Bool))->Option fZ) (a51:Bool):Option fZ:=
 if a51=true then(ck (0<=(0:Int)∧(0:Int)<=(wI .i64 ((List.length a47.1:Int) - (1:Int)))∧(wI .i64 ((List.length a47.1:Int) - (1:Int)))<=(List.length a47.1:Int)) (ck (0<=(0:Int)∧(0:Int)<=(wI .i64 ((List.length a47.2:Int) - (1:Int)))∧(wI .i64 ((List.length a47.2:Int) - (1:Int)))<=(List.length a47.2:Int)) (if(0:Int)<(List.length (List.take (Int.toNat (wI .i64 ((List.length a47.1:Int) - (1:Int)))) a47.1):Int)then(ck (0<=(wI .i64 ((List.length (List.take (Int.toNat (wI .i64 ((List.length a47.1:Int) - (1:Int)))) a47.1):Int) - (1:Int)))∧(wI .i64 ((List.length (List.take (Int.toNat (wI .i64 ((List.length a47.1:Int) - (1:Int)))) a47.1):Int) - (1:Int)))<(List.length (List.take (Int.toNat (wI .i64 ((List.length a47.1:Int) - (1:Int)))) a47.1):Int)) (ck (0<=(wI .i64 ((List.length (List.take (Int.toNat (wI .i64 ((List.length a47.1:Int) - (1:Int)))) a47.1):Int) - (1:Int)))∧(wI .i64 ((List.length (List.take (Int.toNat (wI .i64 ((List.length a47.1:Int) - (1:Int)))) a47.1):Int) - (1:Int)))<(List.length (List.take (Int.toNat (wI .i64 ((List.length a47.1:Int) - (1:Int)))) a47.1):Int)) (ag46 ((List.set (List.take (Int.toNat (wI .i64 ((List.length a47.1:Int) - (1:Int)))) a47.1) (Int.toNat (wI .i64 ((List.length (List.take (Int.toNat (wI .i64 ((List.length a47.1:Int) - (1:Int)))) a47.1):Int) - (1:Int)))) (wI .i64 ((at' (List.take (Int.toNat (wI .i64 ((List.length a47.1:Int) - (1:Int)))) a47.1) (wI .i64 ((List.length (List.take (Int.toNat (wI .i64 ((List.length a47.1:Int) - (1:Int)))) a47.1):Int) - (1:Int)))) - (1:Int)))),(List.take (Int.toNat (wI .i64 ((List.length a47.2:Int) - (1:Int)))) a47.2)))))else(ag46 ((List.take (Int.toNat (wI .i64 ((List.length a47.1:Int) - (1:Int)))) a47.1),(List.take (Int.toNat (wI .i64 ((List.length a47.2:Int) - (1:Int)))) a47.2))))))else(fI a13 ag12 ((max a13.1 (List.length (a13.2.2.1++[r26]):Int)),(max a13.2.1 a40),a47.1,a47.2))
def cP (a13:Hm) (ag12:Hl->Option fZ) (r26:Int) (a40:Int) (a47:bV×List (Bool)) (ag46:(bV×List (Bool))->Option fZ):Option fZ:=
 if(0:Int)<(List.length a47.1:Int)then(ck (0<=(wI .i64 ((List.length a47.1:Int) - (1:Int)))∧(wI .i64 ((List.length a47.1:Int) - (1:Int)))<(List.length a47.1:Int)) (kV a13 ag12 r26 a40 a47 ag46 (decide ((at' a47.1 (wI .i64 ((List.length a47.1:Int) - (1:Int))))=(0:Int)))))else(kV a13 ag12 r26 a40 a47 ag46 (false))
def nO (U:Nat) (a13:Hm) (ag12:Hl->Option fZ) (r26:Int) (r33:Bool) (a40:Int):Option fZ:=
 bH (cP a13 ag12 r26 a40) U ((a13.2.2.1++[r26]),(a13.2.2.2.1++[r33]))
def nP (a64:lO) (ag63:fZ->Option fZ) (a69:Int):Option fZ:=
 ag63 (a69,(wI .i64 (a64.2+(1:Int))))
def fJ (U:Nat) (a13:Hm) (ag12:Hl->Option fZ) (r26:Int) (r33:Bool) (a64:lO) (ag63:fZ->Option fZ):Option fZ:=
 if a64.2<(List.length (a13.2.2.2.1++[r33]):Int)then(ck (0<=a64.2∧a64.2<(List.length (a13.2.2.2.1++[r33]):Int)) (if(at' (a13.2.2.2.1++[r33]) a64.2)=true then(nP a64 ag63 (wI .i64 (a64.1+(1:Int))))else(nP a64 ag63 (a64.1))))else(nO U a13 ag12 r26 r33 (a64.1))
def cJ (U:Nat) (p0:cA) (a13:Hm) (ag12:Hl->Option fZ):Option fZ:=
 if a13.2.2.2.2<(List.length p0:Int)then(ck (0<=a13.2.2.2.2∧a13.2.2.2.2<(List.length p0:Int)) (Option.bind (lJ U ((at' p0 a13.2.2.2.2).1)) fun r26=>(ck ((List.length a13.2.2.1:Int)+(List.length ([r26]):Int)<=1099511627) (ck (0<=a13.2.2.2.2∧a13.2.2.2.2<(List.length p0:Int)) (Option.bind (kZ U ((at' p0 a13.2.2.2.2).1)) fun r33=>(ck ((List.length a13.2.2.2.1:Int)+(List.length ([r33]):Int)<=1099511627) (bH (fJ U a13 ag12 r26 r33) U ((0:Int),(0:Int)))))))))else(sV  (a13.1,a13.2.1))
def lX (U:Nat) (p0:cA):Option fZ:=
 bH (cJ U p0) U ((0:Int),(0:Int),([]:bV),([]:List Bool),(0:Int))
theorem Ow:bE Tryz.prog 69:=Tryz.call69
theorem Bo (U:Nat) {p0:cA} (v0:Value) (r:lO) (h:lX U p0=some r):
  aZ Tryz.prog 69 #[v0] [Sl aY v0 p0] (fun x:Unit=>Value.tuple #[vI (r.1),vI (r.2)]) (fun x l=>l) (fun _ l=>l):=by
 refine aZ.of Tryz.func69 rfl Tryz.ntmps69 rfl fun c=>?_
 unfold lX at h
 refine aT<|aB rfl<|aB rfl<|aL<|aT<|aB rfl<|aB rfl<|aL<|aT<|aB rfl<|aL<|aT<|aB rfl<|aL<|aI<|cF (fun a3=>sV  a3=some r) (fun a3 b4=>[(4,vI (a3.1)),(5,vI (a3.2))]) (fun a3 b4=>[]) ?_ ?_
 ·refine aT<|aB rfl<|aL<|aP<|c_ (fC fK)<|c_ (fC Qe)<|eH (B:=Value×Value) (cJ U p0) (fun a13 b14=>[(0,v0),(4,vI (a13.1)),(5,vI (a13.2.1)),(6,b14.1),(7,b14.2),(8,vI (a13.2.2.2.2))]) (fun a13 b14=>[Ar fK b14.1 a13.2.2.1,Ar Qe b14.2 a13.2.2.2.1]) ((0:Int),(0:Int),([]:bV),([]:List Bool),(0:Int)) ((oI),(oI)) h SF (bK.ix [1,0] rfl rfl) ?_
  intro k15 a13 b14 h
  refine aI<|aT<|aA rfl<|aA rfl<|cY (dB rfl) rfl<|cZ rfl<|aL ?_
  refine fG h rfl (fun h=>?_) fun h=>?_
  ·refine bJ<|aI<|CS (B:=Value×Value) (fun a23=>fI a13 (bH (cJ U p0) k15) a23=some r) (fun a23 b24=>[(0,v0),(4,vI (a23.1)),(5,vI (a23.2.1)),(6,b24.1),(7,b24.2),(8,vI (a13.2.2.2.2))]) (fun a23 b24=>[Ar fK b24.1 a23.2.2.1,Ar Qe b24.2 a23.2.2.2]) ?_ ?_
   ·refine aP<|aI ?_
    refine Gi [0,0,0,6,14,30,62,126,255,0,0,0,3072,7168,15360,32255,65023,131071,262143,524287] 17 mixedOrders ?_
    refine cR rfl<|cR rfl<|cR rfl<|eO h fun j25 h=>cN rfl .nil (lN 0 rfl) (aU rfl rfl (dB rfl) rfl rfl j25) bD.z<|rH rfl (cB rfl rfl rfl rfl rfl)<|cN rfl .nil (lN 0 rfl) (eQ rfl (dB rfl) rfl rfl rfl j_ j25) bD.z<|eM h fun r26 w27 h=>JR.loud rfl rfl rfl (aR.callQ HN (wU U  r26 w27) rfl .nil) rfl (fun x28=>(CJ [] rfl)) fun x28=>JR.loud rfl rfl rfl (iR (e:=fK) ([r26]) [(0,vI (r26))] rfl rfl rfl rfl (xC (vI (r26)) rfl) rfl rfl rfl) rfl (fun u29=>(CJ [] rfl)) fun u29=>eO h fun j31 h=>JR.loud rfl rfl rfl (jO 1 jD rfl rfl rfl (bT (aM.res 0 rfl) jD) rfl rfl rfl rfl j31 rfl) rfl (fun u30=>(CJ [] rfl)) fun u30=>rH rfl (fY rfl)<|rH rfl (fY rfl)<|rH rfl (fY rfl)<|eO h fun j32 h=>cN rfl .nil (lN 0 rfl) (aU rfl rfl (dB rfl) rfl rfl j32) (bD.h .nil (lN 0 rfl) (bD.h .nil (lN 0 rfl) (bD.h .nil (lN 0 rfl) bD.z)))<|rH rfl (cB rfl rfl rfl rfl rfl)<|cN rfl .nil (lN 0 rfl) (eQ rfl (dB rfl) rfl rfl rfl j_ j32) (bD.h .nil (lN 0 rfl) (bD.h .nil (lN 0 rfl) (bD.h .nil (lN 0 rfl) bD.z)))<|eM h fun r33 w34 h=>JR.loud rfl rfl rfl (aR.callQ Oz (yZ U  r33 w34) rfl .nil) rfl (fun x35=>(CJ [] rfl)) fun x35=>JR.loud rfl rfl rfl (iR (e:=Qe) ([r33]) [(0,vB (r33))] rfl rfl rfl rfl (xC (vB (r33)) rfl) rfl rfl rfl) rfl (fun u36=>(CJ [] rfl)) fun u36=>dM 17 rfl rfl<|eO h fun j38 h=>aN (jO 3 Sy rfl rfl rfl (bT (aM.res 0 rfl) Sy) rfl rfl rfl rfl j38 rfl) rfl fun u37=>aB rfl<|aB rfl<|aL<|aT<|aB rfl<|aL<|aI<|cF (fun a40=>nO U a13 (bH (cJ U p0) k15) r26 r33 a40=some r) (fun a40 b41=>[(0,v0),(4,vI (a13.1)),(5,vI (a13.2.1)),(6,u30),(7,u37),(8,vI (a13.2.2.2.2)),(9,vI (a40))]) (fun a40 b41=>[Ar fK u30 (a13.2.2.1++[r26]),Ar Qe u37 (a13.2.2.2.1++[r33])]) ?_ ?_
    ·refine aT<|aB rfl<|aL<|aP<|eH (fJ U a13 (bH (cJ U p0) k15) r26 r33) (fun a64 b65=>[(0,v0),(4,vI (a13.1)),(5,vI (a13.2.1)),(6,u30),(7,u37),(8,vI (a13.2.2.2.2)),(9,vI (a64.1)),(10,vI (a64.2))]) (fun a64 b65=>[Ar fK u30 (a13.2.2.1++[r26]),Ar Qe u37 (a13.2.2.2.1++[r33])]) ((0:Int),(0:Int)) () h SF (bK.ix [2,3] rfl rfl) ?_
     intro k66 a64 b65 h
     refine aI<|aT<|aA rfl<|aA rfl<|aD (eX rfl (bT (aM.res 1 rfl) Sy) rfl) rfl<|cZ rfl<|aL ?_
     refine fG h rfl (fun h=>?_) fun h=>?_
     ·refine bJ<|aI<|cF (fun a69=>nP a64 (bH (fJ U a13 (bH (cJ U p0) k15) r26 r33) k66) a69=some r) (fun a69 b70=>[(0,v0),(4,vI (a13.1)),(5,vI (a13.2.1)),(6,u30),(7,u37),(8,vI (a13.2.2.2.2)),(9,vI (a69)),(10,vI (a64.2))]) (fun a69 b70=>[Ar fK u30 (a13.2.2.1++[r26]),Ar Qe u37 (a13.2.2.2.1++[r33])]) ?_ ?_
      ·refine aP<|aT<|aA rfl<|aA rfl<|eO h fun j71 h=>aD (aU rfl rfl (bT (aM.res 1 rfl) Sy) rfl rfl j71) rfl<|aD (fN rfl (bT (aM.res 1 rfl) Sy) rfl rfl rfl UH j71) rfl<|aL ?_
       refine eY h rfl (fun _ h=>?_) fun _ h=>?_
       ·refine aH<|aA rfl<|cU rfl<|aB rfl<|fF<|kB ?_
        exact b_ (wI .i64 (a64.1+(1:Int))) () h SF rfl
       refine cS<|kB ?_
       exact b_ (a64.1) () h SF rfl
      intro a69 b70 h
      unfold nP at h
      refine aH<|aA rfl<|cU rfl<|aB rfl<|aL ?_
      exact AC (a69,(wI .i64 (a64.2+(1:Int)))) () h SF rfl
     refine dY ?_
     exact b_ (a64.1) () h SF rfl
    intro a40 b41 h
    unfold nO at h
    refine aT<|aA rfl<|aA rfl<|aD (eX rfl (bT (aM.res 0 rfl) jD) rfl) rfl<|aD (Ob rfl rfl) rfl<|aA rfl<|aA rfl<|aD (Ob rfl rfl) rfl<|aB rfl<|aB rfl<|aL<|aP<|eH (B:=Value×Value) (cP a13 (bH (cJ U p0) k15) r26 a40) (fun a47 b48=>[(0,v0),(4,vI (max a13.1 (List.length (a13.2.2.1++[r26]):Int))),(5,vI (max a13.2.1 a40)),(6,b48.1),(7,b48.2),(8,vI (a13.2.2.2.2))]) (fun a47 b48=>[Ar fK b48.1 a47.1,Ar Qe b48.2 a47.2]) ((a13.2.2.1++[r26]),(a13.2.2.2.1++[r33])) (u30,u37) h SF (bK.refl _) ?_
    intro k49 a47 b48 h
    refine aI<|aI<|cF (fun a51=>kV a13 (bH (cJ U p0) k15) r26 a40 a47 (bH (cP a13 (bH (cJ U p0) k15) r26 a40) k49) a51=some r) (fun a51 b52=>[(0,v0),(4,vI (max a13.1 (List.length (a13.2.2.1++[r26]):Int))),(5,vI (max a13.2.1 a40)),(6,b48.1),(7,b48.2),(8,vI (a13.2.2.2.2)),(65,vB (a51))]) (fun a51 b52=>[Ar fK b48.1 a47.1,Ar Qe b48.2 a47.2]) ?_ ?_
    ·refine aH<|aA rfl<|aD (eX rfl (bT (aM.res 0 rfl) jD) rfl) rfl<|aD (pF rfl rfl) rfl<|aA rfl ?_
     refine mW h rfl (fun _ h=>?_) fun _ h=>?_
     ·refine bM rfl<|bM rfl<|aF rfl (eX rfl (bT (aM.res 0 rfl) jD) rfl) rfl<|aF rfl (vL rfl rfl) rfl<|eO h fun j60 h=>aF rfl (aU rfl rfl (bT (aM.res 0 rfl) jD) rfl rfl j60) rfl<|aF rfl (fN rfl (bT (aM.res 0 rfl) jD) rfl rfl rfl jP j60) rfl<|aF rfl (kP rfl rfl) rfl<|bO rfl<|aL ?_
      exact b_ (decide ((at' a47.1 (wI .i64 ((List.length a47.1:Int) - (1:Int))))=(0:Int))) () h SF rfl
     refine aC rfl<|aC rfl<|aC rfl<|aC rfl<|aC rfl<|aC rfl<|aC rfl<|bR rfl<|aL ?_
     exact b_ (false) () h SF rfl
    intro a51 b52 h
    refine eY h rfl (fun _ h=>?_) fun _ h=>?_
    ·refine bJ<|aP<|aI ?_
     refine Gi [0,0,2,6,15,0,0,64,192,480,31,2047] 11 mixedOrders ?_
     refine cR rfl<|cR rfl<|cN rfl (bK.cons 0 rfl .nil) .nil (eX rfl (bT (aM.res 0 rfl) jD) rfl) bD.z<|rH rfl (vL rfl rfl)<|eO h fun j54 h=>cN rfl (bK.cons 0 rfl .nil) .nil (CI rfl rfl (bT (aM.res 0 rfl) jD) rfl rfl j54) bD.z<|cR rfl<|cR rfl<|cN rfl (bK.cons 1 rfl .nil) .nil (eX rfl (bT (aM.res 0 rfl) Sy) rfl) bD.z<|rH rfl (vL rfl rfl)<|eO h fun j55 h=>cN rfl (bK.cons 1 rfl .nil) .nil (CI rfl rfl (bT (aM.res 0 rfl) Sy) rfl rfl j55) bD.z<|rH rfl (CF rfl)<|dM 11 rfl rfl<|aB rfl<|aL<|c_ (B_ (sz:=1) 0 rfl j54)<|c_ (B_ (sz:=1) 1 rfl j55)<|aT<|aA rfl<|aD (eX rfl (bT (aM.res 0 rfl) jD) rfl) rfl<|aD (pF rfl rfl) rfl<|aL ?_
     refine fG h rfl (fun h=>?_) fun h=>?_
     ·refine aH<|aA rfl<|aA rfl<|aD (eX rfl (bT (aM.res 0 rfl) jD) rfl) rfl<|aD (vL rfl rfl) rfl<|eO h fun j57 h=>aD (aU rfl rfl (bT (aM.res 0 rfl) jD) rfl rfl j57) rfl<|aD (fN rfl (bT (aM.res 0 rfl) jD) rfl rfl rfl jP j57) rfl<|aD (vL rfl rfl) rfl<|eO h fun j58 h=>aD (aU rfl rfl (bT (aM.res 0 rfl) jD) rfl rfl j58) rfl<|AP 0 (wI .i64 ((at' (List.take (Int.toNat (wI .i64 ((List.length a47.1:Int) - (1:Int)))) a47.1) (wI .i64 ((List.length (List.take (Int.toNat (wI .i64 ((List.length a47.1:Int) - (1:Int)))) a47.1):Int) - (1:Int)))) - (1:Int))) j58 rfl rfl rfl rfl rfl rfl rfl<|fF<|kB ?_
      exact AC ((List.set (List.take (Int.toNat (wI .i64 ((List.length a47.1:Int) - (1:Int)))) a47.1) (Int.toNat (wI .i64 ((List.length (List.take (Int.toNat (wI .i64 ((List.length a47.1:Int) - (1:Int)))) a47.1):Int) - (1:Int)))) (wI .i64 ((at' (List.take (Int.toNat (wI .i64 ((List.length a47.1:Int) - (1:Int)))) a47.1) (wI .i64 ((List.length (List.take (Int.toNat (wI .i64 ((List.length a47.1:Int) - (1:Int)))) a47.1):Int) - (1:Int)))) - (1:Int)))),(List.take (Int.toNat (wI .i64 ((List.length a47.2:Int) - (1:Int)))) a47.2)) ((It b48.1 (Int.toNat 0) (Int.toNat (wI .i64 ((List.length a47.1:Int) - (1:Int)))) 1),(It b48.2 (Int.toNat 0) (Int.toNat (wI .i64 ((List.length a47.2:Int) - (1:Int)))) 1)) h SF rfl
     refine cS<|kB ?_
     exact AC ((List.take (Int.toNat (wI .i64 ((List.length a47.1:Int) - (1:Int)))) a47.1),(List.take (Int.toNat (wI .i64 ((List.length a47.2:Int) - (1:Int)))) a47.2)) ((It b48.1 (Int.toNat 0) (Int.toNat (wI .i64 ((List.length a47.1:Int) - (1:Int)))) 1),(It b48.2 (Int.toNat 0) (Int.toNat (wI .i64 ((List.length a47.2:Int) - (1:Int)))) 1)) h SF rfl
    refine Dq<|sJ<|sJ<|GL<|kB ?_
    exact b_ ((max a13.1 (List.length (a13.2.2.1++[r26]):Int)),(max a13.2.1 a40),a47.1,a47.2) (b48.1,b48.2) h SF rfl
   intro a23 b24 h
   unfold fI at h
   refine aH<|aA rfl<|cU rfl<|aB rfl<|aL ?_
   exact AC (a23.1,a23.2.1,a23.2.2.1,a23.2.2.2,(wI .i64 (a13.2.2.2.2+(1:Int)))) (b24.1,b24.2) h SF rfl
  refine dY ?_
  exact bS (a13.1,a13.2.1) () h SF .nil (aO.refl _ _)
 intro a3 b4 h
 unfold sV at h
 refine aT<|aA rfl<|aA rfl<|aB rfl<|aB rfl<|aL<|aS ?_
 cases h
 exact eV () rfl rfl (RV.tmp rfl) (RV.tmp rfl) (bK.refl _) aO.nil
end
section
def wA (U:Nat) (p0:cA):Option (Int):=
 Option.bind (tI U p0) fun r1=>(if(!r1)=true then(some (0:Int))else(Option.bind (lX U p0) fun r5=>(some (r5.1))))
theorem SY:bE Tryz.prog 47:=Tryz.call47
theorem Gs (U:Nat) {p0:cA} (v0:Value) (r:Int) (h:wA U p0=some r):
  aZ Tryz.prog 47 #[v0] [Sl aY v0 p0] (fun x:Unit=>vI (r)) (fun x l=>l) (fun _ l=>l):=by
 refine aZ.of Tryz.func47 rfl Tryz.ntmps47 rfl fun c=>?_
 refine aT<|aB rfl<|aL<|aI<|aT<|aA rfl<|eM h fun r1 w2 h=>aN (aR.callQ Kx (Bp U v0 r1 w2) rfl (hI [0] rfl)) rfl fun x3=>aD (eC rfl) rfl<|aL ?_
 refine eY h rfl (fun _ h=>?_) fun _ h=>?_
 ·refine aT<|aB rfl<|aL<|aS<|aG ?_
  cases h
  exact gU rfl
 refine bJ<|aT<|aA rfl<|eM h fun r5 w6 h=>aN (aR.callQ Ow (Bo U v0 r5 w6) rfl (hI [0] rfl)) rfl fun x7=>aA rfl<|gI rfl<|gI rfl<|aB rfl<|aB rfl<|aL<|aT<|aA rfl<|aB rfl<|aL<|aS ?_
 cases h
 exact gU rfl
end
section
def xR (U:Nat) (p0:cA):Option (Int):=
 Option.bind (tI U p0) fun r1=>(if(!r1)=true then(some (0:Int))else(Option.bind (lX U p0) fun r5=>(some (r5.2))))
theorem Qw:bE Tryz.prog 113:=Tryz.call113
theorem Iv (U:Nat) {p0:cA} (v0:Value) (r:Int) (h:xR U p0=some r):
  aZ Tryz.prog 113 #[v0] [Sl aY v0 p0] (fun x:Unit=>vI (r)) (fun x l=>l) (fun _ l=>l):=by
 refine aZ.of Tryz.func113 rfl Tryz.ntmps113 rfl fun c=>?_
 refine aT<|aB rfl<|aL<|aI<|aT<|aA rfl<|eM h fun r1 w2 h=>aN (aR.callQ Kx (Bp U v0 r1 w2) rfl (hI [0] rfl)) rfl fun x3=>aD (eC rfl) rfl<|aL ?_
 refine eY h rfl (fun _ h=>?_) fun _ h=>?_
 ·refine aT<|aB rfl<|aL<|aS<|aG ?_
  cases h
  exact gU rfl
 refine bJ<|aT<|aA rfl<|eM h fun r5 w6 h=>aN (aR.callQ Ow (Bo U v0 r5 w6) rfl (hI [0] rfl)) rfl fun x7=>aA rfl<|gI rfl<|gI rfl<|aB rfl<|aB rfl<|aL<|aT<|aA rfl<|aB rfl<|aL<|aS ?_
 cases h
 exact gU rfl
end
section
def uM  (a5:Unit):Option (Bool):=
 some (true)
def gR (U:Nat) (p0:cA) (p1:Int) (a9:Int) (ag8:(Int)->Option (Bool)):Option (Bool):=
 if a9<(List.length p0:Int)then(ck (0<=a9∧a9<(List.length p0:Int)) (Option.bind (qR U ((((at' p0 a9).1),((at' p0 a9).2))) p1) fun r14=>(if(!r14)=true then(some (false))else(ag8 (wI .i64 (a9+(1:Int)))))))else(uM  (()))
def iV (U:Nat) (p0:cA) (p1:Int) (a2:Bool):Option (Bool):=
 if a2=true then(some (false))else(bH (gR U p0 p1) U (0:Int))
def gK (U:Nat) (p0:cA) (p1:Int):Option (Bool):=
 if(200:Int)<(List.length p0:Int)then(iV U p0 p1 (true))else(Option.bind (tI U p0) fun r19=>(if(!r19)=true then(iV U p0 p1 (true))else(Option.bind (wA U p0) fun r23=>(if(24:Int)<r23 then(iV U p0 p1 (true))else(Option.bind (xR U p0) fun r27=>(iV U p0 p1 (decide ((2:Int)<r27))))))))
theorem HL:bE Tryz.prog 84:=Tryz.call84
theorem wV (U:Nat) {p0:cA} {p1:Int} (v0:Value) (r:Bool) (h:gK U p0 p1=some r):
  aZ Tryz.prog 84 #[v0,vI (p1)] [Sl aY v0 p0] (fun x:Unit=>vB (r)) (fun x l=>l) (fun _ l=>l):=by
 refine aZ.of Tryz.func84 rfl Tryz.ntmps84 rfl fun c=>?_
 refine aT<|aB rfl<|aL<|aI<|aI<|cF (fun a2=>iV U p0 p1 a2=some r) (fun a2 b3=>[(0,v0),(1,vI (p1)),(23,vB (a2))]) (fun a2 b3=>[]) ?_ ?_
 ·refine aH<|aA rfl<|cY (dB rfl) rfl<|aD (pF rfl rfl) rfl<|aA rfl ?_
  refine mW h rfl (fun _ h=>?_) fun _ h=>?_
  ·refine aC rfl<|aC rfl<|aC rfl<|bO rfl<|aA rfl<|aC rfl<|aC rfl<|aC rfl<|bO rfl<|aA rfl<|aC rfl<|aC rfl<|aC rfl<|bO rfl<|aL ?_
   exact b_ (true) () h SF rfl
  refine bM rfl<|eM h fun r19 w20 h=>fA rfl (aR.callQ Kx (Bp U v0 r19 w20) rfl (hI [0] rfl)) rfl fun x21=>aF rfl (eC rfl) rfl<|bR rfl<|aA rfl ?_
  refine e_ (by exact rfl) (by exact rfl) (fun hp22=>?_) (fun hp22=>?_)
  ·have h:=Ak hp22 h
   refine aC rfl<|aC rfl<|aC rfl<|bO rfl<|aA rfl<|aC rfl<|aC rfl<|aC rfl<|bO rfl<|aL ?_
   exact b_ (true) () h SF rfl
  have h:=rI hp22 h
  refine bM rfl<|eM h fun r23 w24 h=>fA rfl (aR.callQ SY (Gs U v0 r23 w24) rfl (hI [0] rfl)) rfl fun x25=>aF rfl (pF rfl rfl) rfl<|bR rfl<|aA rfl ?_
  refine mW h rfl (fun _ h=>?_) fun _ h=>?_
  ·refine aC rfl<|aC rfl<|aC rfl<|bO rfl<|aL ?_
   exact b_ (true) () h SF rfl
  refine bM rfl<|eM h fun r27 w28 h=>fA rfl (aR.callQ Qw (Iv U v0 r27 w28) rfl (hI [0] rfl)) rfl fun x29=>aF rfl (pF rfl rfl) rfl<|bR rfl<|aL ?_
  exact b_ (decide ((2:Int)<r27)) () h SF rfl
 intro a2 b3 h
 refine eY h rfl (fun _ h=>?_) fun _ h=>?_
 ·refine aT<|aB rfl<|aL<|aS<|aG ?_
  cases h
  exact gU rfl
 refine bJ<|aI<|cF (fun a5=>uM  a5=some r) (fun a5 b6=>[]) (fun a5 b6=>[]) ?_ ?_
 ·refine aT<|aB rfl<|aL<|aP<|eH (gR U p0 p1) (fun a9 b10=>[(0,v0),(1,vI (p1)),(5,vI (a9))]) (fun a9 b10=>[]) (0:Int) () h SF (bK.refl _) ?_
  intro k11 a9 b10 h
  refine aI<|aT<|aA rfl<|aA rfl<|cY (dB rfl) rfl<|cZ rfl<|aL ?_
  refine fG h rfl (fun h=>?_) fun h=>?_
  ·refine bJ<|aI<|aP<|aT<|aA rfl<|aA rfl<|eO h fun j13 h=>aD (aU rfl rfl (dB rfl) rfl rfl j13) rfl<|aD (fO (cs:=[vI ((at' p0 a9).1),vI ((at' p0 a9).2)]) rfl (dB rfl) dI rfl rfl rfl rfl j13) rfl<|aA rfl<|eM h fun r14 w15 h=>aN (aR.callQ Qx (DW U  r14 w15) rfl .nil) rfl fun x16=>aD (eC rfl) rfl<|aL ?_
   refine eY h rfl (fun _ h=>?_) fun _ h=>?_
   ·refine aT<|aB rfl<|aL<|aS<|bP<|aG<|aG<|bP<|aG ?_
    cases h
    exact gU rfl
   refine cS<|kB<|aH<|aA rfl<|cU rfl<|aB rfl<|aL ?_
   exact AC (wI .i64 (a9+(1:Int))) () h SF rfl
  refine dY ?_
  exact b_ () (()) h SF rfl
 intro a5 b6 h
 unfold uM at h
 refine aT<|aB rfl<|aL<|aS ?_
 cases h
 exact gU rfl
end
section
def sH  (a8:Bool):Option (Bool):=
 some (a8)
def wY (U:Nat) (p0:cA) (a5:Unit):Option (Bool):=
 Option.bind (xT U p0) fun r10=>(if r10<=(24:Int)then(Option.bind (yW U p0) fun r14=>(sH  (decide (r14<=(2:Int)))))else(sH  (false)))
def iQ (U:Nat) (p0:cA) (p1:Int) (a19:Int) (ag18:(Int)->Option (Bool)):Option (Bool):=
 if a19<(List.length p0:Int)then(ck (0<=a19∧a19<(List.length p0:Int)) (Option.bind (sP U ((((at' p0 a19).1),((at' p0 a19).2))) p1) fun r25=>(if(!r25)=true then(some (false))else(ag18 (wI .i64 (a19+(1:Int)))))))else(wY U p0 (()))
def oH (U:Nat) (p0:cA) (p1:Int) (a2:Bool):Option (Bool):=
 if a2=true then(some (false))else(bH (iQ U p0 p1) U (0:Int))
def gQ (U:Nat) (p0:cA) (p1:Int):Option (Bool):=
 if(200:Int)<(List.length p0:Int)then(oH U p0 p1 (true))else(Option.bind (yJ U p0 (0:Int)) fun r30=>(oH U p0 p1 (decide (r30≠(List.length p0:Int)))))
theorem Fg:bE Tryz.prog 45:=Tryz.call45
theorem uU (U:Nat) {p0:cA} {p1:Int} (v0:Value) (r:Bool) (h:gQ U p0 p1=some r):
  aZ Tryz.prog 45 #[v0,vI (p1)] [Sl aY v0 p0] (fun x:Unit=>vB (r)) (fun x l=>l) (fun _ l=>l):=by
 refine aZ.of Tryz.func45 rfl Tryz.ntmps45 rfl fun c=>?_
 refine aT<|aB rfl<|aL<|aI<|aI<|cF (fun a2=>oH U p0 p1 a2=some r) (fun a2 b3=>[(0,v0),(1,vI (p1)),(16,vB (a2))]) (fun a2 b3=>[]) ?_ ?_
 ·refine aH<|aA rfl<|cY (dB rfl) rfl<|aD (pF rfl rfl) rfl<|aA rfl ?_
  refine mW h rfl (fun _ h=>?_) fun _ h=>?_
  ·refine aC rfl<|aC rfl<|aC rfl<|aC rfl<|aC rfl<|bO rfl<|aL ?_
   exact b_ (true) () h SF rfl
  refine bM rfl<|eM h fun r30 w31 h=>fA rfl (aR.callQ Ov (FZ U v0 r30 w31) rfl (hI [0] rfl)) rfl fun x32=>bM rfl<|aF rfl (eX rfl (dB rfl) rfl) rfl<|aF rfl (xB rfl rfl) rfl<|bR rfl<|aL ?_
  exact b_ (decide (r30≠(List.length p0:Int))) () h SF rfl
 intro a2 b3 h
 refine eY h rfl (fun _ h=>?_) fun _ h=>?_
 ·refine aT<|aB rfl<|aL<|aS<|aG ?_
  cases h
  exact gU rfl
 refine bJ<|aI<|cF (fun a5=>wY U p0 a5=some r) (fun a5 b6=>[(0,v0)]) (fun a5 b6=>[]) ?_ ?_
 ·refine aT<|aA rfl<|cY (dB rfl) rfl<|aA rfl<|aL<|aP<|eH (iQ U p0 p1) (fun a19 b20=>[(0,v0),(1,vI (p1)),(17,v0),(18,vI (List.length p0:Int)),(19,vI (a19))]) (fun a19 b20=>[]) (0:Int) () h SF (bK.refl _) ?_
  intro k21 a19 b20 h
  refine aT<|cZ rfl<|aL<|aI ?_
  refine fG h rfl (fun h=>?_) fun h=>?_
  ·refine bJ<|aI<|aP<|aT<|eO h fun j23 h=>aD (aU rfl rfl (dB rfl) rfl rfl j23) rfl<|aD (fO (cs:=[vI ((at' p0 a19).1),vI ((at' p0 a19).2)]) rfl (dB rfl) dI rfl rfl rfl rfl j23) rfl<|aN (aR.alloc (cs:=[vI (0:Int),vI (0:Int)]) rfl rfl) rfl fun b24=>cC 0 (vs:=[vI ((at' p0 a19).1),vI ((at' p0 a19).2)]) rfl rfl rfl rfl rfl rfl<|aL<|aT<|l_ 0 rfl<|aA rfl<|eM h fun r25 w26 h=>aN (aR.callQ Ta (Ez U  r25 w26) rfl .nil) rfl fun x27=>aD (eC rfl) rfl<|aL ?_
   refine eY h rfl (fun _ h=>?_) fun _ h=>?_
   ·refine aT<|aB rfl<|aL<|aS<|bP<|aG<|aG<|bP<|aG ?_
    cases h
    exact vF rfl
   refine cS<|kB<|aH<|cU rfl<|aA rfl<|aL ?_
   exact eK (wI .i64 (a19+(1:Int))) () h SF .nil (aO.refl _ _)
  refine dY ?_
  exact b_ () (()) h SF rfl
 intro a5 b6 h
 refine aI<|cF (fun a8=>sH  a8=some r) (fun a8 b9=>[(4,vB (a8))]) (fun a8 b9=>[]) ?_ ?_
 ·refine aH<|aA rfl<|eM h fun r10 w11 h=>aN (aR.callQ Tb (IA U v0 r10 w11) rfl (hI [0] rfl)) rfl fun x12=>aD (oP rfl rfl) rfl<|aA rfl ?_
  refine mW h rfl (fun _ h=>?_) fun _ h=>?_
  ·refine bM rfl<|eM h fun r14 w15 h=>fA rfl (aR.callQ Tc (JG U v0 r14 w15) rfl (hI [0] rfl)) rfl fun x16=>aF rfl (oP rfl rfl) rfl<|bO rfl<|aB rfl<|aL ?_
   exact b_ (decide (r14<=(2:Int))) () h SF rfl
  refine aC rfl<|aC rfl<|aC rfl<|bR rfl<|aB rfl<|aL ?_
  exact b_ (false) () h SF rfl
 intro a8 b9 h
 unfold sH at h
 refine aS ?_
 cases h
 exact gU rfl
end
end Go.Proofs.YthnplbmmlbnelaaGreat
end
section
namespace Go.Proofs.YthnplbmmlbnelaaGreat
open Go Go.Sx
section
abbrev OT:=List (Nat×Bool)
def Ek (K:OT):bV:=(K.map fun z=>(z.1:Int)).reverse
def CU (K:OT):List Bool:=(K.map fun z=>z.2).reverse
def AJ (K:OT):Nat:=(K.filter fun z=>z.2).length
def xD:OT->OT
 | []=>[]
 |(n,b)::K=>if n=1 then xD K else(n - 1,b)::K
theorem CR (K:OT):(Ek K).length=K.length:=by simp[Ek]
theorem LY (K:OT):(CU K).length=K.length:=by simp[CU]
theorem yH (n:Nat) (b:Bool) (K:OT):Ek ((n,b)::K)=Ek K++[(n:Int)]:=by simp[Ek]
theorem zS (n:Nat) (b:Bool) (K:OT):CU ((n,b)::K)=CU K++[b]:=by simp[CU]
theorem Dy (n:Nat) (b:Bool) (K:OT):AJ ((n,b)::K)=AJ K+(if b then 1 else 0):=by
 unfold AJ;cases b<;>simp[List.filter_cons]
theorem PH {α:Type} (l:List α) (x y:α):(l++[x]).set l.length y=l++[y]:=by rw[List.set_append_right _ _ (Nat.le_refl _)];simp
theorem HE (l:bV) (m:Int) (k:Int) (hk:k=(l.length:Int)):at' (l++[m]) k=m:=by rw[hk];exact fD l [] m _ rfl
section
variable (a:Int×Int×List Int×List Bool×Int) (ag:(Int×Int×List Int×List Bool×Int)->Option (Int×Int)) (r d:Int) (ag':(List Int×List Bool)->Option (Int×Int))
theorem Ui (l2:List Bool):cP a ag r d ([],l2) ag'=fI a ag ((max a.1 ((a.2.2.1++[r]).length:Int)),max a.2.1 d,[],l2):=by
 unfold cP kV
 dsimp only
 rw[if_neg (by simp),if_neg (by simp)]
theorem Mf {m:Int} (hm:m≠0) (l1:List Int) (l2:List Bool) (hl:l1.length<950):cP a ag r d (l1++[m],l2) ag'=fI a ag ((max a.1 ((a.2.2.1++[r]).length:Int)),max a.2.1 d,l1++[m],l2):=by
 unfold cP kV
 dsimp only
 have e:((l1++[m]).length:Int)=(l1.length:Int)+1:=by simp
 rw[e,if_pos (by omega),wr (by omega) (by omega),eF (by omega),HE l1 m _ (by omega),if_neg (by simpa using hm)]
theorem PE (l1:List Int) (l2:List Bool) (b:Bool) (hl:l1.length<950) (h2:l1.length=l2.length):cP a ag r d (l1++[0],l2++[b]) ag'=if 0<l1.length then ag' (l1.set (l1.length - 1) (wI .i64 (at' l1 ((l1.length:Int) - 1) - 1)),l2)else ag' (l1,l2):=by
 unfold cP kV
 dsimp only
 have e:((l1++[0]).length:Int)=(l1.length:Int)+1:=by simp
 have e2:((l2++[b]).length:Int)=(l1.length:Int)+1:=by simp[h2]
 have w1:wI .i64 ((l1.length:Int)+1 - 1)=(l1.length:Int):=by rw[wr (by omega) (by omega)];omega
 have p1:List.take l1.length (l1++[(0:Int)])=l1:=List.take_left
 have p2:List.take l1.length (l2++[b])=l2:=by rw[h2];exact List.take_left
 rw[e,e2,if_pos (by omega),w1,eF (by omega),HE l1 0 _ rfl,Int.toNat_natCast,p1,p2]
 rw[if_pos (by simp),eF (by omega),eF (by omega)]
 by_cases h:0<l1.length
 ·have w2:wI .i64 ((l1.length:Int) - 1)=((l1.length - 1:Nat):Int):=by rw[wr (by omega) (by omega)];omega
  rw[if_pos (by omega),if_pos h,w2,eF (by omega),eF (by omega),Int.toNat_natCast,show(l1.length:Int) - 1=((l1.length - 1:Nat):Int) by omega]
 ·rw[if_neg (by omega),if_neg h]
theorem Xc:∀(K:OT) (b:Bool) (fuel:Nat),(∀z∈K,1<=z.1∧z.1<1000)->K.length<900->K.length+1<fuel->
  bH (cP a ag r d) fuel (Ek ((0,b)::K),CU ((0,b)::K))=fI a ag ((max a.1 ((a.2.2.1++[r]).length:Int)),max a.2.1 d,Ek (xD K),CU (xD K)):=by
 intro K
 induction K with
 |nil=>
  intro b fuel hK hl hf
  obtain⟨f,rfl⟩:∃f,fuel=f+1+1:=⟨fuel - 2,by simp at hf;omega⟩
  show cP a ag r d _ (bH (cP a ag r d) (f+1))=_
  rw[yH,zS]
  rw[show((0:Nat):Int)=0 from rfl,PE a ag r d _ (Ek []) (CU []) b (by simp[Ek]) (by simp[Ek,CU]),if_neg (by simp[Ek])]
  exact Ui a ag r d _ _
 | cons z K ih =>
  obtain⟨n,b'⟩:=z
  intro b fuel hK hl hf
  simp only[List.length_cons]at hl hf
  obtain⟨f,rfl⟩:∃f,fuel=f+1:=⟨fuel - 1,by omega⟩
  have hn:=hK (n,b') (by simp)
  simp only at hn
  have ih':=ih b' f (fun z hz=>hK z (by simp[hz])) (by omega) (by omega)
  show cP a ag r d _ (bH (cP a ag r d) f)=_
  rw[yH 0,zS 0]
  rw[show((0:Nat):Int)=0 from rfl,PE a ag r d _ (Ek ((n,b')::K)) (CU ((n,b')::K)) b (by rw[CR];simp;omega) (by rw[CR,LY]),if_pos (by rw[CR];simp)]
  have hlast:(Ek ((n,b')::K)).set ((Ek ((n,b')::K)).length - 1) (wI .i64 (at' (Ek ((n,b')::K)) (((Ek ((n,b')::K)).length:Int) - 1) - 1))=Ek ((n - 1,b')::K):=by
   rw[yH,yH,HE _ _ _ (by simp),wr (by omega) (by omega)]
   simp only[List.length_append,List.length_cons,List.length_nil,Nat.zero_add,Nat.add_sub_cancel]
   rw[PH]
   congr 2;omega
  rw[hlast]
  by_cases h1:n=1
  ·subst h1
   have e:CU ((1,b')::K)=CU ((0,b')::K):=by rw[zS,zS]
   rw[e,show 1 - 1=0 from rfl,ih']
   show _=fI a ag (_,_,Ek (if 1=1 then xD K else _),CU (if 1=1 then xD K else _))
   rw[if_pos rfl]
  ·obtain⟨f,rfl⟩:∃q,f=q+1:=⟨f - 1,by omega⟩
   show cP a ag r d _ (bH (cP a ag r d) f)=fI a ag (_,_,Ek (if n=1 then xD K else(n - 1,b')::K),CU (if n=1 then xD K else(n - 1,b')::K))
   rw[if_neg h1,yH,Mf a ag r d _ (by omega) _ _ (by rw[CR];omega)]
   rfl
end
theorem WZ (F:Nat) (a:Int×Int×List Int×List Bool×Int) (ag:(Int×Int×List Int×List Bool×Int)->Option (Int×Int)) (r:Int) (b:Bool) {O:List Bool} (hO:a.2.2.2.1++[b]=O) (hl:O.length<1000):∀(l pre:List Bool) (m:Nat) (fuel:Nat),O=pre++l->m<=pre.length->l.length<fuel->
  bH (fJ F a ag r b) fuel ((m:Int),((pre.length:Nat):Int))=nO F a ag r b ((m+(l.filter id).length:Nat):Int):=by
 intro l
 induction l with
 |nil=>
  intro pre m fuel h hm hf
  obtain⟨f,rfl⟩:∃f,fuel=f+1:=⟨fuel - 1,by omega⟩
  show fJ F a ag r b _ _=_
  unfold fJ
  dsimp only
  rw[hO,if_neg (by rw[h];simp)]
  rfl
 | cons x l ih =>
  intro pre m fuel h hm hf
  simp only[List.length_cons]at hf
  obtain⟨f,rfl⟩:∃f,fuel=f+1:=⟨fuel - 1,by omega⟩
  have hlt:pre.length<O.length:=by rw[h];simp
  have ih':=fun m' hm'=>ih (pre++[x]) m' f (by rw[h];simp) hm' (by omega)
  show fJ F a ag r b _ (bH (fJ F a ag r b) f)=_
  generalize bH (fJ F a ag r b) f=ag' at ih' ⊢
  unfold fJ nP
  dsimp only
  rw[hO,if_pos (by omega),eF (by omega),show at' O ((pre.length:Nat):Int)=x by rw[h];exact fD pre l x _ rfl,wr (x:=((pre.length:Nat):Int)+1) (by omega) (by omega),wr (x:=(m:Int)+1) (by omega) (by omega)]
  cases x with
  |true=>
   have:=ih' (m+1) (by simp;omega)
   rw[if_pos rfl,show(((pre.length:Nat):Int)+1)=(((pre++[true]).length:Nat):Int) by simp,show(m:Int)+1=((m+1:Nat):Int) by omega,this]
   congr 2;simp;omega
  |false=>
   have:=ih' m (by simp;omega)
   rw[if_neg (by decide),show(((pre.length:Nat):Int)+1)=(((pre++[false]).length:Nat):Int) by simp,this]
   congr 2
theorem Tv (K:OT) (b:Bool):((CU K++[b]).filter id).length=AJ K+(if b then 1 else 0):=by
 unfold CU AJ
 rw[List.filter_append,List.length_append,<-List.map_reverse,List.filter_map,List.length_map]
 congr 1
 ·rw[show(id∘fun z:Nat×Bool=>z.2)=(fun z=>z.2)from rfl,List.filter_reverse,List.length_reverse]
 ·cases b<;>rfl
theorem Ma (F:Nat) {T pre post:List TM} {t:TM} {a:Nat} (hT:T=pre++t::post) (hl:T.length<=450) (hF:1000<=F) (ha:AD t.1=some a) (K:OT) (hK:∀z∈K,1<=z.1∧z.1<1000) (hKl:K.length<=450) (dd nn:Int) (fuel:Nat):
  bH (cJ F T) (fuel+1) (dd,nn,Ek K,CU K,((pre.length:Nat):Int))=bH (cJ F T) fuel (max dd ((K.length+1:Nat):Int),max nn ((AJ K+(if agg t.1 then 1 else 0):Nat):Int),Ek (if a=0 then xD K else(a,agg t.1)::K),CU (if a=0 then xD K else(a,agg t.1)::K),((pre.length+1:Nat):Int)):=by
 have ha3:=Dw ha
 have hlt:pre.length<T.length:=by rw[hT];simp
 have hat:at' T ((pre.length:Nat):Int)=t:=by rw[hT];exact fD pre post t _ rfl
 show cJ F T _ (bH (cJ F T) fuel)=_
 generalize bH (cJ F T) fuel=ag
 unfold cJ
 dsimp only
 have l1:=CR K
 have l2:=LY K
 rw[if_pos (by omega),eF (by omega),hat,bF (KU F t.1),gX ha,eF (by simp;omega),eF (by omega),bF (Vk F t.1),eF (by simp;omega)]
 have hc:=WZ F (dd,nn,Ek K,CU K,((pre.length:Nat):Int)) ag (a:Int) (agg t.1) (O:=CU K++[agg t.1]) rfl (by simp;omega) (CU K++[agg t.1]) [] 0 F rfl (by simp) (by simp;omega)
 rw[show((0:Int),(0:Int))=(((0:Nat):Int),((([]:List Bool).length:Nat):Int))from rfl,hc,Tv,Nat.zero_add]
 unfold nO
 dsimp only
 have w:wI .i64 (((pre.length:Nat):Int)+1)=((pre.length+1:Nat):Int):=by rw[wr (by omega) (by omega)];omega
 have e0:((Ek K++[(a:Int)]).length:Int)=((K.length+1:Nat):Int):=by simp[l1]
 by_cases h0:a=0
 ·subst h0
  rw[if_pos rfl,<-yH 0 (agg t.1),<-zS 0,Xc _ _ _ _ K (agg t.1) F hK (by omega) (by omega)]
  unfold fI
  dsimp only
  rw[e0,w]
 ·obtain⟨F,rfl⟩:∃q,F=q+1:=⟨F - 1,by omega⟩
  rw[if_neg h0,<-zS a]
  show cP _ _ _ _ _ _=_
  rw[Mf _ _ _ _ _ (by omega) _ _ (by omega)]
  unfold fI
  dsimp only
  rw[e0,w,<-yH a (agg t.1)]
theorem FM (F:Nat) {T:List TM} (hl:T.length<=450) (hF:1000<=F):∀(x:X),x.ok->∀(pre post:List TM) (K:OT) (dd nn:Int) (fuel:Nat),T=pre++(x.ts++post)->(∀z∈K,1<=z.1∧z.1<1000)->K.length+x.depth<=450->
  bH (cJ F T) (fuel+x.ts.length) (dd,nn,Ek K,CU K,((pre.length:Nat):Int))=bH (cJ F T) fuel (max dd ((K.length+x.depth:Nat):Int),max nn ((AJ K+x.nest:Nat):Int),Ek (xD K),CU (xD K),((pre.length+x.ts.length:Nat):Int))
 | .lf t,hx,pre,post,K,dd,nn,fuel,hT,hK,hd=>by
  have:=Ma F (pre:=pre) (post:=post) (t:=t) (by simpa [X.ts]using hT) hl hF hx K hK (by omega) dd nn fuel
  rw[if_pos rfl,yU hx (by decide)]at this
  simpa [X.ts,X.depth,X.nest]using this
 | .un t x, hx, pre, post, K, dd, nn, fuel, hT, hK, hd => by
  simp only[X.depth]at hd
  have h1:=Ma F (pre:=pre) (post:=x.ts++post) (t:=t) (by rw[hT];simp[X.ts]) hl hF hx.1 K hK (by omega) dd nn (fuel+x.ts.length)
  rw[if_neg (show¬(1:Nat)=0 by decide)]at h1
  have h2:=FM F hl hF x hx.2 (pre++[t]) post ((1,agg t.1)::K) (max dd ((K.length+1:Nat):Int)) (max nn ((AJ K+(if agg t.1 then 1 else 0):Nat):Int)) fuel (by rw[hT];simp[X.ts]) (fun z hz=>by
   rcases List.mem_cons.1 hz with rfl|hz
   ·exact⟨Nat.le_refl 1,by show 1<1000;omega⟩
   ·exact hK z hz) (by simp;omega)
  simp only[X.ts,List.length_cons,X.depth,X.nest]
  rw[show fuel+(x.ts.length+1)=fuel+x.ts.length+1 by omega,h1,show((pre.length+1:Nat):Int)=(((pre++[t]).length:Nat):Int) by simp,h2]
  have f1:xD ((1,agg t.1)::K)=xD K:=by simp[xD]
  rw[f1,Dy]
  congr 2
  ·simp;omega
  ·congr 1
   ·simp;omega
   ·simp;omega
 | .bi t x y, hx, pre, post, K, dd, nn, fuel, hT, hK, hd => by
  simp only[X.depth]at hd
  have hb:=yU hx.1 (by decide)
  have h1:=Ma F (pre:=pre) (post:=x.ts++y.ts++post) (t:=t) (by rw[hT];simp[X.ts]) hl hF hx.1 K hK (by omega) dd nn (fuel+y.ts.length+x.ts.length)
  rw[if_neg (show¬(2:Nat)=0 by decide),hb]at h1
  have hK2:∀n:Nat,1<=n->n<1000->∀z∈(n,false)::K,1<=z.1∧z.1<1000:=fun n h1 h2 z hz=>by
   rcases List.mem_cons.1 hz with rfl|hz
   ·exact⟨h1,h2⟩
   ·exact hK z hz
  have h2:=FM F hl hF x hx.2.1 (pre++[t]) (y.ts++post) ((2,false)::K) (max dd ((K.length+1:Nat):Int)) (max nn ((AJ K+(if false=true then 1 else 0):Nat):Int)) (fuel+y.ts.length) (by rw[hT];simp[X.ts]) (hK2 2 (by decide) (by decide)) (by simp;omega)
  have h3:=FM F hl hF y hx.2.2 (pre++t::x.ts) post ((1,false)::K) (max (max dd ((K.length+1:Nat):Int)) ((((2,false)::K).length+x.depth:Nat):Int)) (max (max nn ((AJ K+(if false=true then 1 else 0):Nat):Int)) ((AJ ((2,false)::K)+x.nest:Nat):Int)) fuel (by rw[hT];simp[X.ts]) (hK2 1 (by decide) (by decide)) (by simp;omega)
  have f2:xD ((2,false)::K)=(1,false)::K:=by simp[xD]
  have f1:xD ((1,false)::K)=xD K:=by simp[xD]
  rw[f2]at h2
  rw[f1]at h3
  simp only[X.ts,List.length_cons,List.length_append,X.depth,X.nest]
  rw[show fuel+(x.ts.length+y.ts.length+1)=fuel+y.ts.length+x.ts.length+1 by omega,h1,show((pre.length+1:Nat):Int)=(((pre++[t]).length:Nat):Int) by simp,h2,show(((pre++[t]).length+x.ts.length:Nat):Int)=(((pre++t::x.ts).length:Nat):Int) by simp;omega,h3]
  simp only[Dy]
  congr 2
  ·simp;omega
  ·congr 1
   ·simp;omega
   ·simp;omega
 | .tr t x y z, hx, pre, post, K, dd, nn, fuel, hT, hK, hd => by
  simp only[X.depth]at hd
  have hb:=yU hx.1 (by decide)
  have h1:=Ma F (pre:=pre) (post:=x.ts++y.ts++z.ts++post) (t:=t) (by rw[hT];simp[X.ts]) hl hF hx.1 K hK (by omega) dd nn (fuel+z.ts.length+y.ts.length+x.ts.length)
  rw[if_neg (show¬(3:Nat)=0 by decide),hb]at h1
  have hK2:∀n:Nat,1<=n->n<1000->∀z∈(n,false)::K,1<=z.1∧z.1<1000:=fun n h1 h2 z hz=>by
   rcases List.mem_cons.1 hz with rfl|hz
   ·exact⟨h1,h2⟩
   ·exact hK z hz
  have h2:=FM F hl hF x hx.2.1 (pre++[t]) (y.ts++z.ts++post) ((3,false)::K) (max dd ((K.length+1:Nat):Int)) (max nn ((AJ K+(if false=true then 1 else 0):Nat):Int)) (fuel+z.ts.length+y.ts.length) (by rw[hT];simp[X.ts]) (hK2 3 (by decide) (by decide)) (by simp;omega)
  have h3:=FM F hl hF y hx.2.2.1 (pre++t::x.ts) (z.ts++post) ((2,false)::K) (max (max dd ((K.length+1:Nat):Int)) ((((3,false)::K).length+x.depth:Nat):Int)) (max (max nn ((AJ K+(if false=true then 1 else 0):Nat):Int)) ((AJ ((3,false)::K)+x.nest:Nat):Int)) (fuel+z.ts.length) (by rw[hT];simp[X.ts]) (hK2 2 (by decide) (by decide)) (by simp;omega)
  have h4:=FM F hl hF z hx.2.2.2 (pre++t::(x.ts++y.ts)) post ((1,false)::K) (max (max (max dd ((K.length+1:Nat):Int)) ((((3,false)::K).length+x.depth:Nat):Int)) ((((2,false)::K).length+y.depth:Nat):Int)) (max (max (max nn ((AJ K+(if false=true then 1 else 0):Nat):Int)) ((AJ ((3,false)::K)+x.nest:Nat):Int)) ((AJ ((2,false)::K)+y.nest:Nat):Int)) fuel (by rw[hT];simp[X.ts]) (hK2 1 (by decide) (by decide)) (by simp;omega)
  have f3:xD ((3,false)::K)=(2,false)::K:=by simp[xD]
  have f2:xD ((2,false)::K)=(1,false)::K:=by simp[xD]
  have f1:xD ((1,false)::K)=xD K:=by simp[xD]
  rw[f3]at h2
  rw[f2]at h3
  rw[f1]at h4
  simp only[X.ts,List.length_cons,List.length_append,X.depth,X.nest]
  rw[show fuel+(x.ts.length+(y.ts.length+z.ts.length)+1)=fuel+z.ts.length+y.ts.length+x.ts.length+1 by omega,h1,show((pre.length+1:Nat):Int)=(((pre++[t]).length:Nat):Int) by simp,h2,show(((pre++[t]).length+x.ts.length:Nat):Int)=(((pre++t::x.ts).length:Nat):Int) by simp;omega,h3,show(((pre++t::x.ts).length+y.ts.length:Nat):Int)=(((pre++t::(x.ts++y.ts)).length:Nat):Int) by simp;omega,h4]
  simp only[Dy]
  congr 2
  ·simp;omega
  ·congr 1
   ·simp;omega
   ·simp;omega
theorem Xb (F:Nat) {x:X} (hx:x.ok) (hl:x.ts.length<=450) (hF:1000<=F):lX F x.ts=some ((x.depth:Int),(x.nest:Int)):=by
 have hd:=x.depth_le
 have:=FM F (T:=x.ts) hl hF x hx [] [] [] 0 0 (F - x.ts.length - 1+1) (by simp) (fun z hz=>by cases hz) (by simp;omega)
 unfold lX
 rw[show F - x.ts.length - 1+1+x.ts.length=F by omega]at this
 have e:((0:Int),(0:Int),([]:List Int),([]:List Bool),(0:Int))=(0,0,Ek [],CU [],((([]:List TM).length:Nat):Int)):=rfl
 rw[e,this]
 show cJ F x.ts _ _=_
 unfold cJ sV
 dsimp only
 rw[if_neg (by simp)]
 congr 2
 ·simp
 ·simp[AJ]
end
section
def XV (vars:Int) (e:List TM) (x:X):Prop:=e.length<=200∧x.ok∧e=x.ts∧x.depth<=24∧x.nest<=2∧∀t∈e,yQ vars t=true
theorem VC (F:Nat) (T:List TM) (vars:Int):∀(l pre:List TM) (fuel:Nat),T=pre++l->T.length<=900->l.length<fuel->
  bH (iQ F T vars) fuel ((pre.length:Nat):Int)=if l.all (yQ vars)then wY F T ()else some false:=by
 intro l
 induction l with
 |nil=>
  intro pre fuel hT hl hf
  obtain⟨f,rfl⟩:∃f,fuel=f+1:=⟨fuel - 1,by omega⟩
  show iQ F T vars _ _=_
  unfold iQ
  rw[if_neg (by rw[hT];simp),if_pos (by simp)]
 | cons t l ih =>
  intro pre fuel hT hl hf
  simp only[List.length_cons]at hf
  obtain⟨f,rfl⟩:∃f,fuel=f+1:=⟨fuel - 1,by omega⟩
  have hlt:pre.length<T.length:=by rw[hT];simp
  have hat:at' T ((pre.length:Nat):Int)=t:=by rw[hT];exact fD pre l t _ rfl
  have ih':=ih (pre++[t]) f (by rw[hT];simp) hl (by omega)
  show iQ F T vars _ (bH (iQ F T vars) f)=_
  generalize bH (iQ F T vars) f=ag at ih' ⊢
  unfold iQ
  rw[if_pos (by omega),eF (by omega),hat,bF (Xf F t vars),wr (by omega) (by omega)]
  cases h:yQ vars t with
  |true=>
   rw[if_neg (by decide),show(((pre.length:Nat):Int)+1)=(((pre++[t]).length:Nat):Int) by simp,ih']
   rw[List.all_cons,h,Bool.true_and]
  |false=>rw[if_pos (by decide)];simp[h]
theorem Vl (F:Nat) (T:List TM) (vars:Int):∀(l pre:List TM) (fuel:Nat),T=pre++l->T.length<=900->l.length<fuel->
  bH (gR F T vars) fuel ((pre.length:Nat):Int)=some (l.all (yQ vars)):=by
 intro l
 induction l with
 |nil=>
  intro pre fuel hT hl hf
  obtain⟨f,rfl⟩:∃f,fuel=f+1:=⟨fuel - 1,by omega⟩
  show gR F T vars _ _=_
  unfold gR uM
  rw[if_neg (by rw[hT];simp)]
  rfl
 | cons t l ih =>
  intro pre fuel hT hl hf
  simp only[List.length_cons]at hf
  obtain⟨f,rfl⟩:∃f,fuel=f+1:=⟨fuel - 1,by omega⟩
  have hlt:pre.length<T.length:=by rw[hT];simp
  have hat:at' T ((pre.length:Nat):Int)=t:=by rw[hT];exact fD pre l t _ rfl
  have ih':=ih (pre++[t]) f (by rw[hT];simp) hl (by omega)
  show gR F T vars _ (bH (gR F T vars) f)=_
  generalize bH (gR F T vars) f=ag at ih' ⊢
  unfold gR
  rw[if_pos (by omega),eF (by omega),hat,bF (WY F t vars),wr (by omega) (by omega)]
  cases h:yQ vars t with
  |true=>
   rw[if_neg (by decide),show(((pre.length:Nat):Int)+1)=(((pre++[t]).length:Nat):Int) by simp,ih']
   simp[h]
  |false=>rw[if_pos (by decide)];simp[h]
theorem SG {x y:X} (hx:x.ok) (hy:y.ok) (h:x.ts=y.ts) (hl:x.ts.length<=450):x.depth=y.depth∧x.nest=y.nest:=by
 have h1:=Xb 1000 hx hl (by decide)
 rw[h,Xb 1000 hy (by rw[<-h];exact hl) (by decide)]at h1
 have:=Option.some.inj h1
 simp only[Prod.mk.injEq]at this
 omega
theorem Vp (F:Nat) (e:List TM) (hl:e.length<=900) (hF:1000<=F):tI F e=some (decide (0<e.length∧AK e 0=e.length)):=by
 unfold tI uN
 have he:=TW F e 0 hl (by omega)
 rw[show((0:Nat):Int)=0 from rfl]at he
 by_cases h:0<e.length
 ·rw[if_pos (by omega),bF he];simp[h]
 ·rw[if_neg (by omega)];simp[h]
theorem Cu (F:Nat) (e:List TM) (vars:Int) (hl:e.length<=900) (hF:1000<=F):∃b,gQ F e vars=some b∧gK F e vars=some b∧(b=true↔∃x,XV vars e x):=by
 by_cases h200:200<e.length
 ·refine⟨false,?_,?_,?_⟩
  ·unfold gQ oH
   rw[if_pos (by omega),if_pos rfl]
  ·unfold gK iV
   rw[if_pos (by omega),if_pos rfl]
  ·constructor
   ·intro h;cases h
   ·rintro⟨x,h,_⟩;omega
 have he:=VD F e 0 hl (by omega)
 rw[show((0:Nat):Int)=0 from rfl]at he
 by_cases hE:0<e.length∧AK e 0=e.length
 ·obtain⟨x,hx,hT⟩:=MX hE.2 hE.1
  have hxl:x.ts.length<=450:=by rw[<-hT];omega
  refine⟨decide (x.depth<=24)&&decide (x.nest<=2)&&e.all (yQ vars),?_,?_,?_⟩
  ·unfold gQ oH
   rw[if_neg (by omega),bF he,if_neg (by simpa using hE.2)]
   rw[show(0:Int)=((([]:List TM).length:Nat):Int)from rfl,VC F e vars e [] F rfl hl (by omega)]
   unfold wY sH
   have hd:=Um F hx hxl (by omega)
   have hn:=VH F hx hxl (by omega)
   rw[<-hT]at hd hn
   rw[bF hd]
   cases e.all (yQ vars)with
   |false=>simp
   |true=>
    rw[if_pos rfl]
    by_cases h24:x.depth<=24
    ·rw[if_pos (by omega),bF hn];simp[h24];omega
    ·rw[if_neg (by omega)];simp[h24]
  ·unfold gK iV
   have hlv:=Xb F hx hxl hF
   rw[<-hT]at hlv
   have h1:=Vp F e hl hF
   rw[decide_eq_true hE]at h1
   have hd:wA F e=some (x.depth:Int):=by
    unfold wA;rw[bF h1,if_neg (by decide),bF hlv]
   have hn:xR F e=some (x.nest:Int):=by
    unfold xR;rw[bF h1,if_neg (by decide),bF hlv]
   rw[if_neg (by omega),bF h1,if_neg (by decide),bF hd]
   by_cases h24:x.depth<=24
   ·rw[if_neg (by omega),bF hn]
    by_cases h2:x.nest<=2
    ·rw[if_neg (by simp;omega),show(0:Int)=((([]:List TM).length:Nat):Int)from rfl,Vl F e vars e [] F rfl hl (by omega)];simp[h24,h2]
    ·rw[if_pos (by simp;omega)];simp[h2]
   ·rw[if_pos (by omega),if_pos rfl];simp[h24]
  ·constructor
   ·intro h
    simp only[Bool.and_eq_true,decide_eq_true_eq]at h
    exact⟨x,by omega,hx,hT,h.1.1,h.1.2,fun t ht=>List.all_eq_true.1 h.2 t ht⟩
   ·rintro⟨y,_,hy,hT2,hd,hn,ha⟩
    obtain⟨u1,u2⟩:=SG hx hy (hT.symm.trans hT2) hxl
    simp only[Bool.and_eq_true,decide_eq_true_eq]
    exact⟨⟨by omega,by omega⟩,List.all_eq_true.2 ha⟩
 ·refine⟨false,?_,?_,?_⟩
  ·unfold gQ oH
   rw[if_neg (by omega),bF he,if_pos]
   simp only[decide_eq_true_eq]
   intro h
   refine hE ⟨?_,h⟩
   rcases Nat.eq_zero_or_pos e.length with h0|h0
   ·have:e=[]:=List.eq_nil_of_length_eq_zero h0
    subst this
    simp[AK,rn]at h
   ·exact h0
  ·unfold gK iV
   have h1:=Vp F e hl hF
   rw[decide_eq_false hE]at h1
   rw[if_neg (by omega),bF h1,if_pos (by decide),if_pos rfl]
  ·constructor
   ·intro h;cases h
   ·rintro⟨y,_,hy,rfl,_⟩
    exact absurd ⟨y.pos,Lz hy⟩ hE
end
end Go.Proofs.YthnplbmmlbnelaaGreat
end
section
namespace Go.Proofs.YthnplbmmlbnelaaGreat
open Go.Sx
section
def jC  (a2:Bool):Option (Bool):=
 some (a2)
def lZ (U:Nat) (p0:Int):Option (Bool):=
 if p0=(1:Int)then(jC  (true))else(if p0=(2:Int)then(jC  (true))else(jC  (decide (p0=(3:Int)))))
theorem Lq:bE Tryz.prog 107:=Tryz.call107
theorem zW (U:Nat) {p0:Int} (r:Bool) (h:lZ U p0=some r):
  aZ Tryz.prog 107 #[vI (p0)] [] (fun x:Unit=>vB (r)) (fun x l=>l) (fun _ l=>l):=by
 refine aZ.of Tryz.func107 rfl Tryz.ntmps107 rfl fun c=>?_
 refine aT<|aB rfl<|aL<|aI<|cF (fun a2=>jC  a2=some r) (fun a2 b3=>[(2,vB (a2))]) (fun a2 b3=>[]) ?_ ?_
 ·refine aH<|aA rfl<|cH rfl<|aA rfl ?_
  refine mW h rfl (fun _ h=>?_) fun _ h=>?_
  ·refine aC rfl<|aC rfl<|bO rfl<|aA rfl<|aC rfl<|aC rfl<|bO rfl<|aB rfl<|aL ?_
   exact b_ (true) () h SF rfl
  refine bM rfl<|aF rfl (kP rfl rfl) rfl<|bR rfl<|aA rfl ?_
  refine mW h rfl (fun _ h=>?_) fun _ h=>?_
  ·refine aC rfl<|aC rfl<|bO rfl<|aB rfl<|aL ?_
   exact b_ (true) () h SF rfl
  refine bM rfl<|aF rfl (kP rfl rfl) rfl<|bR rfl<|aB rfl<|aL ?_
  exact b_ (decide (p0=(3:Int))) () h SF rfl
 intro a2 b3 h
 unfold jC at h
 refine aS ?_
 cases h
 exact gU rfl
end
section
def uV  (a2:Bool):Option (Bool):=
 some (a2)
def yV (U:Nat) (p0:Int):Option (Bool):=
 if(11:Int)<=p0 then(uV  (decide (p0<=(17:Int))))else(uV  (false))
theorem QF:bE Tryz.prog 144:=Tryz.call144
theorem JF (U:Nat) {p0:Int} (r:Bool) (h:yV U p0=some r):
  aZ Tryz.prog 144 #[vI (p0)] [] (fun x:Unit=>vB (r)) (fun x l=>l) (fun _ l=>l):=by
 refine aZ.of Tryz.func144 rfl Tryz.ntmps144 rfl fun c=>?_
 refine aT<|aB rfl<|aL<|aI<|cF (fun a2=>uV  a2=some r) (fun a2 b3=>[(2,vB (a2))]) (fun a2 b3=>[]) ?_ ?_
 ·refine aH<|aA rfl<|aD (lL rfl rfl) rfl<|aA rfl ?_
  refine mW h rfl (fun _ h=>?_) fun _ h=>?_
  ·refine bM rfl<|aF rfl (oP rfl rfl) rfl<|bO rfl<|aB rfl<|aL ?_
   exact b_ (decide (p0<=(17:Int))) () h SF rfl
  refine aC rfl<|aC rfl<|bR rfl<|aB rfl<|aL ?_
  exact b_ (false) () h SF rfl
 intro a2 b3 h
 unfold uV at h
 refine aS ?_
 cases h
 exact gU rfl
end
section
def kN (p0:zX) (p1:lO) (a12:Bool):Option (Int):=
 if a12=true then(ck (0<=p1.2∧p1.2<(List.length p0.2:Int)) (some (at' p0.2 p1.2)))else(some (1:Int))
def iB (p0:zX) (p1:lO) (a8:Bool):Option (Int):=
 if a8=true then(some (3:Int))else(if p1.1=(5:Int)then(kN p0 p1 (decide (p1.1=(5:Int))))else(kN p0 p1 (decide (p1.1=(12:Int)))))
def fR (p0:zX) (p1:lO) (a4:Bool):Option (Int):=
 if a4=true then(some (2:Int))else(if p1.1=(4:Int)then(iB p0 p1 (decide (p1.1=(4:Int))))else(if p1.1=(11:Int)then(iB p0 p1 (decide (p1.1=(11:Int))))else(iB p0 p1 (decide (p1.1=(17:Int))))))
def kY (U:Nat) (p0:zX) (p1:lO):Option (Int):=
 if p1.1=(2:Int)then(fR p0 p1 (decide (p1.1=(2:Int))))else(if p1.1=(3:Int)then(fR p0 p1 (decide (p1.1=(3:Int))))else(if p1.1=(10:Int)then(fR p0 p1 (decide (p1.1=(10:Int))))else(fR p0 p1 (decide (p1.1=(15:Int))))))
theorem QG:bE Tryz.prog 145:=Tryz.call145
theorem Bh (U:Nat) {p0:zX} {p1:lO} (v0:Value)  (v1:Value) (r:Int) (h:kY U p0 p1=some r):
  aZ Tryz.prog 145 #[Value.agg #[v0,v1],Value.agg #[vI (p1.1),vI (p1.2)]] [Sl aY v0 p0.1,Sl lH v1 p0.2] (fun x:Unit=>vI (r)) (fun x l=>l) (fun _ l=>l):=by
 refine aZ.of Tryz.func145 rfl Tryz.ntmps145 rfl fun c=>?_
 refine aT<|aN (aR.box (cs:=[v0,v1]) rfl rfl) rfl fun b1=>aN (aR.box (cs:=[vI (p1.1),vI (p1.2)]) rfl rfl) rfl fun b2=>aB rfl<|aL<|aI<|aT<|bQ rfl<|cM 0 rfl<|aL<|aP<|aI<|cF (fun a4=>fR p0 p1 a4=some r) (fun a4 b5=>[(2,vP b1),(3,vP b2),(6,vI (p1.1)),(7,vB (a4))]) (fun a4 b5=>[dD b2 [vI (p1.1),vI (p1.2)] 84,dD b1 [v0,v1] 151]) ?_ ?_
 ·refine aT<|cH rfl<|aB rfl<|aL ?_
  refine fG h rfl (fun h=>?_) fun h=>?_
  ·refine bJ ?_
   exact b_ (decide (p1.1=(2:Int))) () h SF rfl
  refine aT<|cH rfl<|aB rfl<|aL ?_
  refine fG h rfl (fun h=>?_) fun h=>?_
  ·refine bJ ?_
   exact b_ (decide (p1.1=(3:Int))) () h SF rfl
  refine aT<|cH rfl<|aB rfl<|aL ?_
  refine fG h rfl (fun h=>?_) fun h=>?_
  ·refine bJ ?_
   exact b_ (decide (p1.1=(10:Int))) () h SF rfl
  refine aH<|cH rfl<|aB rfl<|aL ?_
  exact b_ (decide (p1.1=(15:Int))) () h SF rfl
 intro a4 b5 h
 refine eY h rfl (fun _ h=>?_) fun _ h=>?_
 ·refine aT<|aB rfl<|aL<|aS<|bP<|aG ?_
  cases h
  exact vF rfl
 refine aI<|cF (fun a8=>iB p0 p1 a8=some r) (fun a8 b9=>[(2,vP b1),(3,vP b2),(6,vI (p1.1)),(12,vB (a8))]) (fun a8 b9=>[dD b2 [vI (p1.1),vI (p1.2)] 84,dD b1 [v0,v1] 151]) ?_ ?_
 ·refine aT<|cH rfl<|aB rfl<|aL ?_
  refine fG h rfl (fun h=>?_) fun h=>?_
  ·refine bJ ?_
   exact b_ (decide (p1.1=(4:Int))) () h SF rfl
  refine aT<|cH rfl<|aB rfl<|aL ?_
  refine fG h rfl (fun h=>?_) fun h=>?_
  ·refine bJ ?_
   exact b_ (decide (p1.1=(11:Int))) () h SF rfl
  refine aH<|cH rfl<|aB rfl<|aL ?_
  exact b_ (decide (p1.1=(17:Int))) () h SF rfl
 intro a8 b9 h
 refine eY h rfl (fun _ h=>?_) fun _ h=>?_
 ·refine aT<|aB rfl<|aL<|aS<|bP<|aG ?_
  cases h
  exact vF rfl
 refine aI<|cF (fun a12=>kN p0 p1 a12=some r) (fun a12 b13=>[(2,vP b1),(3,vP b2),(16,vB (a12))]) (fun a12 b13=>[dD b2 [vI (p1.1),vI (p1.2)] 84,dD b1 [v0,v1] 151]) ?_ ?_
 ·refine aT<|cH rfl<|aB rfl<|aL ?_
  refine fG h rfl (fun h=>?_) fun h=>?_
  ·refine bJ ?_
   exact b_ (decide (p1.1=(5:Int))) () h SF rfl
  refine aH<|cH rfl<|aB rfl<|aL ?_
  exact b_ (decide (p1.1=(12:Int))) () h SF rfl
 intro a12 b13 h
 refine eY h rfl (fun _ h=>?_) fun _ h=>?_
 ·refine aT<|bQ rfl<|cM 1 rfl<|bQ rfl<|cM 0 rfl<|eO h fun j15 h=>aD (aU rfl rfl (eZ rfl) rfl rfl j15) rfl<|aD (fN rfl (eZ rfl) rfl rfl rfl jP j15) rfl<|aB rfl<|aL<|aS<|bP<|aG ?_
  cases h
  exact vF rfl
 refine cS<|kB<|aT<|aB rfl<|aL<|aS ?_
 cases h
 exact vF rfl
end
section
def cT (U:Nat) (p0:Bool) (p1:Int):Option (Int):=
 if p0=true then(some (p1))else(some (0:Int))
theorem oQ:bE Tryz.prog 155:=Tryz.call155
theorem dW (U:Nat) {p0:Bool} {p1:Int} (r:Int) (h:cT U p0 p1=some r):
  aZ Tryz.prog 155 #[vB (p0),vI (p1)] [] (fun x:Unit=>vI (r)) (fun x l=>l) (fun _ l=>l):=by
 refine aZ.of Tryz.func155 rfl Tryz.ntmps155 rfl fun c=>?_
 refine aT<|aB rfl<|aL<|aI<|aT<|aA rfl<|aL ?_
 refine eY h rfl (fun _ h=>?_) fun _ h=>?_
 ·refine aT<|aA rfl<|aB rfl<|aL<|aS<|aG ?_
  cases h
  exact gU rfl
 refine bJ<|aT<|aB rfl<|aL<|aS ?_
 cases h
 exact gU rfl
end
section
def nX  (a29:Int):Option (Int):=
 some (a29)
def nZ  (a43:Int):Option (Int):=
 some (a43)
def n_  (a57:Int):Option (Int):=
 some (a57)
def mS  (a71:Int):Option (Int):=
 some (a71)
def mT  (a81:Int):Option (Int):=
 some (a81)
def oA (U:Nat) (p1:zB) (a67:Bool):Option (Int):=
 if a67=true then(if p1.1=(2:Int)then(Option.bind (cT U (decide (p1.2.1=(2:Int))) (2:Int)) fun r74=>(mS  (r74)))else(Option.bind (cT U false (2:Int)) fun r77=>(mS  (r77))))else(if p1.1=(2:Int)then(Option.bind (cT U (decide (p1.2.1=p1.2.2)) p1.2.1) fun r84=>(mT  (r84)))else(Option.bind (cT U false p1.2.1) fun r87=>(mT  (r87))))
def jJ (U:Nat) (p0:Int) (p1:zB) (a53:Bool):Option (Int):=
 if a53=true then(if p1.1=(1:Int)then(Option.bind (cT U (decide (p1.2.1=(1:Int))) (2:Int)) fun r60=>(n_  (r60)))else(Option.bind (cT U false (2:Int)) fun r63=>(n_  (r63))))else(if p0=(41:Int)then(oA U p1 (decide (p0=(41:Int))))else(oA U p1 (decide (p0=(42:Int)))))
def nY (U:Nat) (p0:Int) (p1:zB) (a39:Bool):Option (Int):=
 if a39=true then(if p1.1=p1.2.1 then(Option.bind (cT U (decide (p1.1≠(0:Int))) (2:Int)) fun r46=>(nZ  (r46)))else(Option.bind (cT U false (2:Int)) fun r49=>(nZ  (r49))))else(if p0=(37:Int)then(jJ U p0 p1 (decide (p0=(37:Int))))else(if p0=(38:Int)then(jJ U p0 p1 (decide (p0=(38:Int))))else(if p0=(39:Int)then(jJ U p0 p1 (decide (p0=(39:Int))))else(jJ U p0 p1 (decide (p0=(40:Int)))))))
def h_ (U:Nat) (p0:Int) (p1:zB) (a25:Bool):Option (Int):=
 if a25=true then(if p1.1=(1:Int)then(Option.bind (cT U (decide (p1.2.1=(1:Int))) (1:Int)) fun r32=>(nX  (r32)))else(Option.bind (cT U false (1:Int)) fun r35=>(nX  (r35))))else(if p0=(35:Int)then(nY U p0 p1 (decide (p0=(35:Int))))else(nY U p0 p1 (decide (p0=(36:Int)))))
def jI (U:Nat) (p0:Int) (p1:zB) (a10:Bool):Option (Int):=
 if a10=true then(Option.bind (cT U (decide (p1.1=(2:Int))) (2:Int)) fun r13=>(some (r13)))else(if p0=(22:Int)then(Option.bind (cT U (decide (p1.1=(2:Int))) (1:Int)) fun r17=>(some (r17)))else(if p0=(23:Int)then(Option.bind (cT U (decide (p1.1=(2:Int))) (3:Int)) fun r21=>(some (r21)))else(if p0=(30:Int)then(h_ U p0 p1 (decide (p0=(30:Int))))else(if p0=(31:Int)then(h_ U p0 p1 (decide (p0=(31:Int))))else(if p0=(32:Int)then(h_ U p0 p1 (decide (p0=(32:Int))))else(if p0=(33:Int)then(h_ U p0 p1 (decide (p0=(33:Int))))else(h_ U p0 p1 (decide (p0=(34:Int))))))))))
def eT (U:Nat) (p0:Int) (p1:zB) (a3:Bool):Option (Int):=
 if a3=true then(Option.bind (cT U (decide (p1.1=(1:Int))) (1:Int)) fun r6=>(some (r6)))else(if p0=(19:Int)then(jI U p0 p1 (decide (p0=(19:Int))))else(if p0=(20:Int)then(jI U p0 p1 (decide (p0=(20:Int))))else(jI U p0 p1 (decide (p0=(21:Int))))))
def iU (U:Nat) (p0:Int) (p1:zB):Option (Int):=
 if p0=(18:Int)then(eT U p0 p1 (decide (p0=(18:Int))))else(if p0=(24:Int)then(eT U p0 p1 (decide (p0=(24:Int))))else(if p0=(25:Int)then(eT U p0 p1 (decide (p0=(25:Int))))else(if p0=(26:Int)then(eT U p0 p1 (decide (p0=(26:Int))))else(if p0=(27:Int)then(eT U p0 p1 (decide (p0=(27:Int))))else(if p0=(28:Int)then(eT U p0 p1 (decide (p0=(28:Int))))else(eT U p0 p1 (decide (p0=(29:Int)))))))))
theorem QI:bE Tryz.prog 146:=Tryz.call146
theorem Gb (U:Nat) {p0:Int} {p1:zB} (r:Int) (h:iU U p0 p1=some r):
  aZ Tryz.prog 146 #[vI (p0),Value.agg #[vI (p1.1),vI (p1.2.1),vI (p1.2.2)]] [] (fun x:Unit=>vI (r)) (fun x l=>l) (fun _ l=>l):=by
 refine aZ.of Tryz.func146 rfl Tryz.ntmps146 rfl fun c=>?_
 refine aT<|aN (aR.box (cs:=[vI (p1.1),vI (p1.2.1),vI (p1.2.2)]) rfl rfl) rfl fun b1=>aB rfl<|aL<|aI ?_
 refine Gi [0,1,0,4,0,16,3,79,255] 8 mixedOrders ?_
 refine rH rfl (Ab (i:=0) rfl rfl rfl rfl rfl (by decide)) ?_
 refine tO 0 rfl ?_
 refine rH rfl (Ab (i:=1) rfl rfl rfl rfl rfl (by decide)) ?_
 refine tO 0 rfl ?_
 refine rH rfl (Ab (i:=2) rfl rfl rfl rfl rfl (by decide)) ?_
 refine tO 0 rfl<|rH rfl (CF rfl)<|rH rfl (CF rfl)<|dM 8 rfl rfl<|aB rfl<|aL<|aI<|aT<|aA rfl<|aL<|aP<|aI<|cF (fun a3=>eT U p0 p1 a3=some r) (fun a3 b4=>[(5,vI (p1.1)),(6,vI (p1.2.1)),(7,vI (p1.2.2)),(14,vI (p0)),(15,vB (a3))]) (fun a3 b4=>[]) ?_ ?_
 ·refine aT<|cH rfl<|aB rfl<|aL ?_
  refine fG h rfl (fun h=>?_) fun h=>?_
  ·refine bJ ?_
   exact bS (decide (p0=(18:Int))) () h SF .nil (aO.refl _ _)
  refine aT<|cH rfl<|aB rfl<|aL ?_
  refine fG h rfl (fun h=>?_) fun h=>?_
  ·refine bJ ?_
   exact bS (decide (p0=(24:Int))) () h SF .nil (aO.refl _ _)
  refine aT<|cH rfl<|aB rfl<|aL ?_
  refine fG h rfl (fun h=>?_) fun h=>?_
  ·refine bJ ?_
   exact bS (decide (p0=(25:Int))) () h SF .nil (aO.refl _ _)
  refine aT<|cH rfl<|aB rfl<|aL ?_
  refine fG h rfl (fun h=>?_) fun h=>?_
  ·refine bJ ?_
   exact bS (decide (p0=(26:Int))) () h SF .nil (aO.refl _ _)
  refine aT<|cH rfl<|aB rfl<|aL ?_
  refine fG h rfl (fun h=>?_) fun h=>?_
  ·refine bJ ?_
   exact bS (decide (p0=(27:Int))) () h SF .nil (aO.refl _ _)
  refine aT<|cH rfl<|aB rfl<|aL ?_
  refine fG h rfl (fun h=>?_) fun h=>?_
  ·refine bJ ?_
   exact bS (decide (p0=(28:Int))) () h SF .nil (aO.refl _ _)
  refine aH<|cH rfl<|aB rfl<|aL ?_
  exact bS (decide (p0=(29:Int))) () h SF .nil (aO.refl _ _)
 intro a3 b4 h
 refine eY h rfl (fun _ h=>?_) fun _ h=>?_
 ·refine aT<|aA rfl<|cH rfl<|eM h fun r6 w7 h=>aN (aR.callQ oQ (dW U  r6 w7) rfl .nil) rfl fun x8=>aB rfl<|aL<|aS<|bP<|aG ?_
  cases h
  exact gU rfl
 refine aI<|cF (fun a10=>jI U p0 p1 a10=some r) (fun a10 b11=>[(5,vI (p1.1)),(6,vI (p1.2.1)),(7,vI (p1.2.2)),(14,vI (p0)),(26,vB (a10))]) (fun a10 b11=>[]) ?_ ?_
 ·refine aT<|cH rfl<|aB rfl<|aL ?_
  refine fG h rfl (fun h=>?_) fun h=>?_
  ·refine bJ ?_
   exact b_ (decide (p0=(19:Int))) () h SF rfl
  refine aT<|cH rfl<|aB rfl<|aL ?_
  refine fG h rfl (fun h=>?_) fun h=>?_
  ·refine bJ ?_
   exact b_ (decide (p0=(20:Int))) () h SF rfl
  refine aH<|cH rfl<|aB rfl<|aL ?_
  exact b_ (decide (p0=(21:Int))) () h SF rfl
 intro a10 b11 h
 refine eY h rfl (fun _ h=>?_) fun _ h=>?_
 ·refine aT<|aA rfl<|cH rfl<|eM h fun r13 w14 h=>aN (aR.callQ oQ (dW U  r13 w14) rfl .nil) rfl fun x15=>aB rfl<|aL<|aS<|bP<|aG ?_
  cases h
  exact gU rfl
 refine aT<|cH rfl<|aB rfl<|aL ?_
 refine fG h rfl (fun h=>?_) fun h=>?_
 ·refine aT<|aA rfl<|cH rfl<|eM h fun r17 w18 h=>aN (aR.callQ oQ (dW U  r17 w18) rfl .nil) rfl fun x19=>aB rfl<|aL<|aS<|bP<|aG ?_
  cases h
  exact gU rfl
 refine aT<|cH rfl<|aB rfl<|aL ?_
 refine fG h rfl (fun h=>?_) fun h=>?_
 ·refine aT<|aA rfl<|cH rfl<|eM h fun r21 w22 h=>aN (aR.callQ oQ (dW U  r21 w22) rfl .nil) rfl fun x23=>aB rfl<|aL<|aS<|bP<|aG ?_
  cases h
  exact gU rfl
 refine aI<|cF (fun a25=>h_ U p0 p1 a25=some r) (fun a25 b26=>[(5,vI (p1.1)),(6,vI (p1.2.1)),(7,vI (p1.2.2)),(14,vI (p0)),(43,vB (a25))]) (fun a25 b26=>[]) ?_ ?_
 ·refine aT<|cH rfl<|aB rfl<|aL ?_
  refine fG h rfl (fun h=>?_) fun h=>?_
  ·refine bJ ?_
   exact b_ (decide (p0=(30:Int))) () h SF rfl
  refine aT<|cH rfl<|aB rfl<|aL ?_
  refine fG h rfl (fun h=>?_) fun h=>?_
  ·refine bJ ?_
   exact b_ (decide (p0=(31:Int))) () h SF rfl
  refine aT<|cH rfl<|aB rfl<|aL ?_
  refine fG h rfl (fun h=>?_) fun h=>?_
  ·refine bJ ?_
   exact b_ (decide (p0=(32:Int))) () h SF rfl
  refine aT<|cH rfl<|aB rfl<|aL ?_
  refine fG h rfl (fun h=>?_) fun h=>?_
  ·refine bJ ?_
   exact b_ (decide (p0=(33:Int))) () h SF rfl
  refine aH<|cH rfl<|aB rfl<|aL ?_
  exact b_ (decide (p0=(34:Int))) () h SF rfl
 intro a25 b26 h
 refine eY h rfl (fun _ h=>?_) fun _ h=>?_
 ·refine aI<|cF (fun a29=>nX  a29=some r) (fun a29 b30=>[(4,vI (a29))]) (fun a29 b30=>[]) ?_ ?_
  ·refine aH<|aA rfl<|cH rfl<|aA rfl ?_
   refine mW h rfl (fun _ h=>?_) fun _ h=>?_
   ·refine bM rfl<|aF rfl (kP rfl rfl) rfl<|bO rfl<|eM h fun r32 w33 h=>aN (aR.callQ oQ (dW U  r32 w33) rfl .nil) rfl fun x34=>aB rfl<|aL ?_
    exact b_ (r32) () h SF rfl
   refine aC rfl<|aC rfl<|bR rfl<|eM h fun r35 w36 h=>aN (aR.callQ oQ (dW U  r35 w36) rfl .nil) rfl fun x37=>aB rfl<|aL ?_
   exact b_ (r35) () h SF rfl
  intro a29 b30 h
  unfold nX at h
  refine aS<|bP<|aG ?_
  cases h
  exact gU rfl
 refine aI<|cF (fun a39=>nY U p0 p1 a39=some r) (fun a39 b40=>[(5,vI (p1.1)),(6,vI (p1.2.1)),(7,vI (p1.2.2)),(14,vI (p0)),(56,vB (a39))]) (fun a39 b40=>[]) ?_ ?_
 ·refine aT<|cH rfl<|aB rfl<|aL ?_
  refine fG h rfl (fun h=>?_) fun h=>?_
  ·refine bJ ?_
   exact b_ (decide (p0=(35:Int))) () h SF rfl
  refine aH<|cH rfl<|aB rfl<|aL ?_
  exact b_ (decide (p0=(36:Int))) () h SF rfl
 intro a39 b40 h
 refine eY h rfl (fun _ h=>?_) fun _ h=>?_
 ·refine aI<|cF (fun a43=>nZ  a43=some r) (fun a43 b44=>[(4,vI (a43))]) (fun a43 b44=>[]) ?_ ?_
  ·refine aH<|aA rfl<|aA rfl<|cH rfl<|aA rfl ?_
   refine mW h rfl (fun _ h=>?_) fun _ h=>?_
   ·refine bM rfl<|aF rfl (xB rfl rfl) rfl<|bO rfl<|eM h fun r46 w47 h=>aN (aR.callQ oQ (dW U  r46 w47) rfl .nil) rfl fun x48=>aB rfl<|aL ?_
    exact b_ (r46) () h SF rfl
   refine aC rfl<|aC rfl<|bR rfl<|eM h fun r49 w50 h=>aN (aR.callQ oQ (dW U  r49 w50) rfl .nil) rfl fun x51=>aB rfl<|aL ?_
   exact b_ (r49) () h SF rfl
  intro a43 b44 h
  unfold nZ at h
  refine aS<|bP<|aG ?_
  cases h
  exact gU rfl
 refine aI<|cF (fun a53=>jJ U p0 p1 a53=some r) (fun a53 b54=>[(5,vI (p1.1)),(6,vI (p1.2.1)),(7,vI (p1.2.2)),(14,vI (p0)),(67,vB (a53))]) (fun a53 b54=>[]) ?_ ?_
 ·refine aT<|cH rfl<|aB rfl<|aL ?_
  refine fG h rfl (fun h=>?_) fun h=>?_
  ·refine bJ ?_
   exact b_ (decide (p0=(37:Int))) () h SF rfl
  refine aT<|cH rfl<|aB rfl<|aL ?_
  refine fG h rfl (fun h=>?_) fun h=>?_
  ·refine bJ ?_
   exact b_ (decide (p0=(38:Int))) () h SF rfl
  refine aT<|cH rfl<|aB rfl<|aL ?_
  refine fG h rfl (fun h=>?_) fun h=>?_
  ·refine bJ ?_
   exact b_ (decide (p0=(39:Int))) () h SF rfl
  refine aH<|cH rfl<|aB rfl<|aL ?_
  exact b_ (decide (p0=(40:Int))) () h SF rfl
 intro a53 b54 h
 refine eY h rfl (fun _ h=>?_) fun _ h=>?_
 ·refine aI<|cF (fun a57=>n_  a57=some r) (fun a57 b58=>[(4,vI (a57))]) (fun a57 b58=>[]) ?_ ?_
  ·refine aH<|aA rfl<|cH rfl<|aA rfl ?_
   refine mW h rfl (fun _ h=>?_) fun _ h=>?_
   ·refine bM rfl<|aF rfl (kP rfl rfl) rfl<|bO rfl<|eM h fun r60 w61 h=>aN (aR.callQ oQ (dW U  r60 w61) rfl .nil) rfl fun x62=>aB rfl<|aL ?_
    exact b_ (r60) () h SF rfl
   refine aC rfl<|aC rfl<|bR rfl<|eM h fun r63 w64 h=>aN (aR.callQ oQ (dW U  r63 w64) rfl .nil) rfl fun x65=>aB rfl<|aL ?_
   exact b_ (r63) () h SF rfl
  intro a57 b58 h
  unfold n_ at h
  refine aS<|bP<|aG ?_
  cases h
  exact gU rfl
 refine aI<|cF (fun a67=>oA U p1 a67=some r) (fun a67 b68=>[(5,vI (p1.1)),(6,vI (p1.2.1)),(7,vI (p1.2.2)),(79,vB (a67))]) (fun a67 b68=>[]) ?_ ?_
 ·refine aT<|cH rfl<|aB rfl<|aL ?_
  refine fG h rfl (fun h=>?_) fun h=>?_
  ·refine bJ ?_
   exact b_ (decide (p0=(41:Int))) () h SF rfl
  refine aH<|cH rfl<|aB rfl<|aL ?_
  exact b_ (decide (p0=(42:Int))) () h SF rfl
 intro a67 b68 h
 refine eY h rfl (fun _ h=>?_) fun _ h=>?_
 ·refine aI<|cF (fun a71=>mS  a71=some r) (fun a71 b72=>[(4,vI (a71))]) (fun a71 b72=>[]) ?_ ?_
  ·refine aH<|aA rfl<|cH rfl<|aA rfl ?_
   refine mW h rfl (fun _ h=>?_) fun _ h=>?_
   ·refine bM rfl<|aF rfl (kP rfl rfl) rfl<|bO rfl<|eM h fun r74 w75 h=>aN (aR.callQ oQ (dW U  r74 w75) rfl .nil) rfl fun x76=>aB rfl<|aL ?_
    exact b_ (r74) () h SF rfl
   refine aC rfl<|aC rfl<|bR rfl<|eM h fun r77 w78 h=>aN (aR.callQ oQ (dW U  r77 w78) rfl .nil) rfl fun x79=>aB rfl<|aL ?_
   exact b_ (r77) () h SF rfl
  intro a71 b72 h
  unfold mS at h
  refine aS<|bP<|aG ?_
  cases h
  exact gU rfl
 refine cS<|kB<|aI<|cF (fun a81=>mT  a81=some r) (fun a81 b82=>[(4,vI (a81))]) (fun a81 b82=>[]) ?_ ?_
 ·refine aH<|aA rfl<|cH rfl<|aA rfl ?_
  refine mW h rfl (fun _ h=>?_) fun _ h=>?_
  ·refine bM rfl<|bM rfl<|aF rfl (kP rfl rfl) rfl<|bO rfl<|aA rfl<|eM h fun r84 w85 h=>aN (aR.callQ oQ (dW U  r84 w85) rfl .nil) rfl fun x86=>aB rfl<|aL ?_
   exact b_ (r84) () h SF rfl
  refine aC rfl<|aC rfl<|aC rfl<|bR rfl<|aA rfl<|eM h fun r87 w88 h=>aN (aR.callQ oQ (dW U  r87 w88) rfl .nil) rfl fun x89=>aB rfl<|aL ?_
  exact b_ (r87) () h SF rfl
 intro a81 b82 h
 unfold mT at h
 refine aS ?_
 cases h
 exact gU rfl
end
end Go.Proofs.YthnplbmmlbnelaaGreat
end
