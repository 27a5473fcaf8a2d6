/- Models and proofs. Conditions: none. -/
import Derived.Test.YtlkhndebimcbbaaGreatDoorZSSu1
import Derived.Maps.RangeRun
set_option linter.unusedVariables false
set_option linter.unusedSimpArgs false
set_option maxHeartbeats 4000000
set_option maxRecDepth 20000
section
set_option linter.unusedSectionVars false
namespace Go.Sx
open Go.RowKit
section defs
variable {κ ν:Type} [DecidableEq κ]
def DX (a:κ->Value) (b:ν->Value):Nat->List (κ×ν)->List MapEntry
 |_,[]=>[]
 |i,x::xs=>⟨a x.1,b x.2,i⟩::DX a b (i+1) xs
def mA (k:κ):List (κ×ν)->Option ν
 | []=>none
 |x::xs=>if k=x.1 then some x.2 else mA k xs
def CJ (k:κ) (v:ν):List (κ×ν)->List (κ×ν)
 | []=>[(k,v)]
 |x::xs=>if k=x.1 then(k,v)::xs else x::CJ k v xs
def Vl (a:ν->Value) (k:κ):Nat->List (κ×ν)->Option (Nat×Value)
 |_,[]=>none
 |i,x::xs=>if k=x.1 then some (i,a x.2)else Vl a k (i+1) xs
theorem Ni (a:ν->Value) (k:κ):∀(i:Nat) (l:List (κ×ν)),(Vl a k i l).map (·.2)=(mA k l).map a
 |_,[]=>rfl
 |i,x::xs=>by
  simp only[Vl,mA];split
  ·rfl
  ·exact Ni a k (i+1) xs
theorem Ko (a:κ->Value) (b:ν->Value):∀(i:Nat) (l:List (κ×ν)) (x:κ×ν),DX a b i (l++[x])=DX a b i l++[⟨a x.1,b x.2,i+l.length⟩]
 |i,[],x=>rfl
 |i,y::ys,x=>by
  simp only[List.cons_append,DX,Ko a b (i+1) ys x,List.length_cons];rw[show i+1+ys.length=i+(ys.length+1) by omega]
theorem HF (k:κ) (v:ν):∀l:List (κ×ν),mA k l=none->CJ k v l=l++[(k,v)]
 | [],_=>rfl
 | x :: xs, h => by
  simp only[mA]at h;split at h
  ·cases h
  ·rename_i a;simp only[CJ,if_neg a,HF k v xs h,List.cons_append]
theorem TF (a:κ->Value) (b:ν->Value) (k:κ) (v:ν):∀(i0 i:Nat) (l:List (κ×ν)) (j:Nat) (u:Value),Vl b k i l=some (j,u)->
  i<=j∧((DX a b i l)[j - i]?).map (·.key)=some (a k)∧DX a b i (CJ k v l)=(DX a b i l).modify (j - i) (λe=>{e with key:=a k,val:=b v})∧(CJ k v l).length=l.length
 |_,i,[],j,u,h=>by simp[Vl]at h
 | i0, i, x :: xs, j, u, h => by
  simp only[Vl]at h;split at h
  ·rename_i n;simp only[Option.some.injEq,Prod.mk.injEq]at h;obtain⟨rfl,_⟩:=h;simp[DX,CJ,n]
  ·rename_i c;obtain⟨o,f,g,m⟩:=TF a b k v i0 (i+1) xs j u h;have d:j - i=(j - (i+1))+1:=by omega
   refine⟨by omega,?_,?_,?_⟩
   ·rw[d];simpa [DX]using f
   ·simp only[CJ,if_neg c,DX];rw[d,List.modify_succ_cons,g]
   ·simp[CJ,c,m]
end defs
structure Jq (P:Program) (kt:TypeId) {κ:Type} [DecidableEq κ] (ek:κ->Value):Prop where
 chk:∀b k w,(Instr.checkKey b 10000 kt (ek k)).run P w = .ok () w
 find:∀{ν:Type} (ev:ν->Value) (k:κ) (l:List (κ×ν)) w,(Instr.findKey kt (ek k) (DX ek ev 0 l)).run P w = .ok (Vl ev k 0 l) w
 same:∀k,Instr.sameBits 10000 (ek k) (ek k)=true
def Mp {b c:Type} (d:b->Value) (e:c->Value) (r:Nat) (l:List (b×c)):a_ where
 p w F:=F r∧w.heap[r]? = some (.map (DX d e 0 l).toArray l.length)
 mono:=fun⟨f,a⟩ h=>by
  obtain⟨g,i⟩:=h r f (Array.getElem?_eq_some_iff.1 a).1;exact⟨g,by rw[i];exact a⟩
section
variable {P:Program} {rd:Option Nat} {c:tZ} {n:Sz} {σ:Fr} {M L:List a_} {Q:Exit->Act->World->Prop} {ops:Array Oper} {rest:List Oper}
variable {d:Option Tmp} {ty:TypeId} {pos:String} {aft:Array Edge} {g:Option (Nat×Bool)}
theorem St.push {w:World} (t:St c M L w) (o:Obj) {m:a_} (z:m.p (w.alloc o) (λk=>k=w.heap.size)):St c (m::M) L (w.alloc o):=by
 have e:MF w (w.alloc o):=(Below.refl _ _).alloc (Nat.le_refl _) _;obtain⟨v,F,b,x⟩:=t;have u:∀k,k<w.heap.size->(w.alloc o).heap[k]? = w.heap[k]? := e.block;refine⟨v.trans e,λi k=>match i with|0=>k=w.heap.size|i+1=>F i k,⟨?_,?_,?_⟩,λf y=> ?_⟩
 ·intro i A a;cases i with
  |zero=>simp at a;subst a;exact z
  |succ i=>exact a_.same (b.res i A (by simpa using a)) (λ_ h=>h) (λk _ s=>u k s)
 ·intro i k q;cases i with
  |zero=>subst q;exact⟨.inl v.size,by simp⟩
  |succ i=>exact⟨(b.rng i k q).1,Nat.lt_of_lt_of_le (b.rng i k q).2 e.size⟩
 ·intro i j k l r;cases i with
  |zero=>
   cases j with
   |zero=>rfl
   |succ j=>have:=(b.rng j k r).2;simp only at l;omega
  |succ i=>
   cases j with
   |zero=>have:=(b.rng i k l).2;simp only at r;omega
   |succ j=>exact congrArg (· + 1) (b.dis i j k l r)
 ·exact f.mono (x f y) λk q s=>⟨⟨q.1,λi l=>by
   cases i with
   |zero=>simp only at l;omega
   |succ i=>exact q.2 i l⟩,u k s⟩
variable {κ ν:Type} [DecidableEq κ] {ek:κ->Value} {ev:ν->Value}
theorem aN.makeMap (ek:κ->Value) (ev:ν->Value) {T:TypeId}:aN P c n σ M L ⟨d,.makeMap T none,ty,pos,aft,g⟩ (λr:Nat=> .map (some r)) (λr=>Mp ek ev r []::M) (λ_=>L):=λa w s t=>by
 have b:(execOp a.eval ⟨d,.makeMap T none,ty,pos,aft,g⟩).run P w = .ok (.value (.map (some w.heap.size))) (w.alloc (.map #[] 0)):=by
  simp[execOp,Instr.makeMap]
 simp only[Oper.wp,b,Oper.upon];exact⟨w.heap.size,rfl,t.push _ ⟨rfl,heap_alloc_new w _⟩⟩
theorem Sq [cI P] {T j m:TypeId} {C D E G:Nat} {z f:Value} {o:TypeDesc} {w:World} {r:Nat} {l:List (κ×ν)} {F:Nat->Prop} (i:Jq P j ek) (q:(Mp ek ev r l).p w F)
  (s:cI.tab P T=some ⟨.map j m,C,D,z⟩) (t:cI.tab P m=some ⟨o,E,G,f⟩) (k:κ) (b:Bool):
  (Instr.lookup T (.map (some r)) (ek k) b).run P w = .ok (if b then .tuple #[((mA k l).map ev).getD f,.bool (mA k l).isSome]else((mA k l).map ev).getD f) w:=by
 have y:(getObj r).run P w = .ok (.map (DX ek ev 0 l).toArray l.length) w:=by
  simp[getObj,Sem.run,q.2]
 have u:=i.find ev k l w;have a:=Ni ev k 0 l;simp only[Instr.lookup];simp[(cI.ok s).run_und w,y,i.chk,u];cases e:Vl ev k 0 l with
 |none=>
  rw[e]at a;have:mA k l=none:=by cases h:mA k l<;>simp[h]at a ⊢
  simp[this,(cI.ok t).run_zero w]
 | some x =>
  rw[e]at a;obtain⟨v,A,B⟩:∃v,mA k l=some v∧ev v=x.2:=by
   cases h:mA k l with
   |none=>simp[h]at a
   |some v=>simp[h]at a;exact⟨v,rfl,a.symm⟩
  simp[A,B]
theorem OD [cI P] (j:Nat) {T e f:TypeId} {D E G H:Nat} {z h:Value} {i:TypeDesc} {x y:Operand} {r:Nat} {l:List (κ×ν)} (k:κ) {b:Bool} (v:Jq P e ek) (B:Go.Sx.ev σ x=some (.map (some r))) (C:Go.Sx.ev σ y=some (ek k)) (q:M[j]? = some (Mp ek ev r l))
  (o:cI.tab P T=some ⟨.map e f,D,E,z⟩) (p:cI.tab P f=some ⟨i,G,H,h⟩) {u:Value} (A:((mA k l).map ev).getD h=u):
  Y P c n σ M L ⟨d,.lookup T x y b,ty,pos,aft,g⟩ (if b then .tuple #[u,.bool (mA k l).isSome]else u):=λa w s t=>by
 obtain⟨F,m⟩:=t.res q;subst A;simp[execOp,s.eval B,s.eval C,Sq v m o p]
theorem Ee {w:World} {r:Nat} {a:Array MapEntry} {k:Nat} (h:w.heap[r]? = some (.map a k)) (o:Obj):(setObj r o).run P w = .ok () {w with heap:=w.heap.setIfInBounds r o}:=by
 simp[setObj,Sem.run,h]
theorem St.setMap {w:World} (t:St c M L w) {j r:Nat} {l b:List (κ×ν)} (f:M[j]? = some (Mp ek ev r l)) (o:Obj) (m:o = .map (DX ek ev 0 b).toArray b.length):
  St c (M.set j (Mp ek ev r b)) L {w with heap:=w.heap.setIfInBounds r o}:=
 t.upd f Z Z Z (by simp) λF a _=>⟨λk _ i=>by
   rw[Array.getElem?_setIfInBounds_ne (λe=>i (by subst e;exact a.1))],F,⟨a.1,by
    rw[Array.getElem?_setIfInBounds_self_of_lt (Array.getElem?_eq_some_iff.1 a.2).1,m]⟩,λ_ h=> .inl h⟩
theorem N_ [cI P] (j:Nat) {T R vt:TypeId} {s1 s2:Nat} {z:Value} {x y v:Operand} {r:Nat} {l:List (κ×ν)} (k:κ) (f:ν) (C:Jq P R ek) (Y:Go.Sx.ev σ x=some (.map (some r))) (hy:Go.Sx.ev σ y=some (ek k)) (X:Go.Sx.ev σ v=some (ev f)) (K:M[j]? = some (Mp ek ev r l))
  (I:cI.tab P T=some ⟨.map R vt,s1,s2,z⟩) (h:J c n σ (M.set j (Mp ek ev r (CJ k f l))) L (wpList P ops Q rest)):
  J c n σ M L (wpList P ops Q (⟨none,.mapUpdate T x y v,ty,pos,aft,none⟩::rest)):=λa w s t=>by
 refine lY Z ?_;obtain⟨F,E⟩:=t.res K;have N:(getObj r).run P w = .ok (.map (DX ek ev 0 l).toArray l.length) w:=by
  simp[getObj,Sem.run,E.2]
 have b:=C.find ev k l w;have A:=Ni ev k 0 l;have B:∃o:Obj,(execOp a.eval ⟨none,.mapUpdate T x y v,ty,pos,aft,none⟩).run P w = .ok .skip {w with heap:=w.heap.setIfInBounds r o}∧o = .map (DX ek ev 0 (CJ k f l)).toArray (CJ k f l).length:=by
  simp only[execOp,s.eval Y,s.eval hy,s.eval X,Instr.mapUpdate];cases m:Vl ev k 0 l with
  |none=>
   rw[m]at A b;have U:mA k l=none:=by cases h:mA k l<;>simp[h]at A ⊢
   refine⟨.map (DX ek ev 0 l++[(⟨ek k,ev f,l.length⟩:MapEntry)]).toArray (l.length+1),by simp[(cI.ok I).run_und w,N,C.chk,b,Ee E.2],?_⟩
   rw[HF k f l U,Ko];simp
  | some q =>
   obtain⟨i,u⟩:=q;rw[m]at b;obtain⟨_,D,H,S⟩:=TF ek ev k f 0 0 l i u m;rw[Nat.sub_zero]at D H;have O:(((DX ek ev 0 l).toArray[i]?).map (·.key)).getD (ek k)=ek k:=by
    rw[List.getElem?_toArray,D];rfl
   refine⟨.map ((DX ek ev 0 l).toArray.modify i λe=>{e with key:=ek k,val:=ev f}) l.length,?_,?_⟩
   ·have G:(Instr.keyThatStays (ek k) (ek k)).run P w = .ok (ek k) w:=by simp[Instr.keyThatStays,C.same k]
    have p:(Option.map (λx=>x.key) (DX ek ev 0 l)[i]?).getD (ek k)=ek k:=by rw[D];rfl
    simp[(cI.ok I).run_und w,N,C.chk,b,p,G,Ee E.2]
   ·rw[H,S];simp
 obtain⟨o,W,V⟩:=B;simp only[Oper.wp,W,Oper.upon];exact h _ _ s (t.setMap K o V)
end
end Go.Sx
end
section
set_option linter.unusedSectionVars false
namespace Go.Sx
open Go.RowKit Go.ChangeMaps
def It (b m a:Nat) (c:List Nat):a_ where
 p w F:=F b∧w.heap[b]? = some (.mapIter (some m) a c.toArray a)
 mono:=fun⟨e,d⟩ h=>by
  obtain⟨f,g⟩:=h b e (Array.getElem?_eq_some_iff.1 d).1;exact⟨f,by rw[g];exact d⟩
section
variable {κ ν:Type} [DecidableEq κ] {ek:κ->Value} {ev:ν->Value} {R:Type}
theorem Nw (ek:κ->Value) (ev:ν->Value):∀(k:Nat) (l:List (κ×ν)) (e:MapEntry),e∈DX ek ev k l->∃i a,l[i]? = some a∧e=⟨ek a.1,ev a.2,k+i⟩
 |_,[],e,h=>by simp[DX]at h
 | k, x :: xs, e, h => by
  rcases List.mem_cons.1 h with rfl|h
  ·exact⟨0,x,rfl,rfl⟩
  ·obtain⟨i,a,b,c⟩:=Nw ek ev (k+1) xs e h;exact⟨i+1,a,b,by rw[c,show k+1+i=k+(i+1) by omega]⟩
theorem Nu (ek:κ->Value) (ev:ν->Value):∀(k:Nat) (l:List (κ×ν)) (i:Nat) (a:κ×ν),l[i]? = some a->(⟨ek a.1,ev a.2,k+i⟩:MapEntry)∈DX ek ev k l
 |_,[],i,a,h=>by simp at h
 |k,x::xs,0,a,h=>by simp at h;subst h;exact List.mem_cons_self
 |k,x::xs,i+1,a,h=>by
  have:=Nu ek ev (k+1) xs i a (by simpa using h);rw[show k+1+i=k+(i+1) by omega]at this;exact List.mem_cons_of_mem _ this
theorem Pv (ek:κ->Value) (ev:ν->Value):∀(k:Nat) (l:List (κ×ν)),(DX ek ev k l).map (·.born)=List.range' k l.length
 |_,[]=>rfl
 |k,x::xs=>by simp[DX,Pv ek ev (k+1) xs,List.range'_succ]
def Le (a:κ×ν->Option R->Option R) (K:Option R) (l:List (κ×ν)):Option R:=l.foldr a K
def rem (l:List (κ×ν)) (a:List Nat):List (κ×ν):=((List.range l.length).filter (λi=> !a.contains i)).filterMap (λi=>l[i]?)
theorem L_:∀l:List (κ×ν),(List.range l.length).filterMap (λi=>l[i]?)=l
 | []=>rfl
 |x::xs=>by
  rw[List.length_cons,List.range_succ_eq_map,List.filterMap_cons];simp only[List.getElem?_cons_zero,List.filterMap_map];congr 1;have:=L_ xs;simpa [Function.comp_def]using this
theorem abN (l:List (κ×ν)):rem l []=l:=by
 unfold rem;rw[List.filter_eq_self.2 (by simp),L_]
theorem YP {l:List (κ×ν)} {a:List Nat} {i:Nat} {m:κ×ν} (k:l[i]? = some m) (t:i∉a):∃n o,rem l a=n++m::o∧rem l (a++[i])=n++o:=by
 have g:=bD k;have d:i∈(List.range l.length).filter (λi=> !a.contains i):=by simp[g,t]
 obtain⟨A,B,b⟩:=List.append_of_mem d;have c:((List.range l.length).filter (λi=> !a.contains i)).Nodup:=List.Pairwise.filter _ List.nodup_range;rw[b]at c;have r:i∉A:=λh=>by
  have:=(List.nodup_append.1 c).2.2 i h i List.mem_cons_self;exact this Z
 have s:i∉B:=λh=>by
  have:=(List.nodup_cons.1 (List.nodup_append.1 c).2.1).1;exact this h
 refine⟨A.filterMap (λi=>l[i]?),B.filterMap (λi=>l[i]?),?_,?_⟩
 ·unfold rem;rw[b,List.filterMap_append,List.filterMap_cons,k]
 ·unfold rem;have e:(List.range l.length).filter (λj=> !(a++[i]).contains j)=((List.range l.length).filter (λj=> !a.contains j)).filter (λj=>decide (j≠i)):=by
   rw[List.filter_filter];apply List.filter_congr;intro j _;rw[Bool.eq_iff_iff];simp[and_comm]
  rw[e,b,List.filter_append,List.filter_cons];have p:A.filter (λj=>decide (j≠i))=A:=List.filter_eq_self.2 (λj f=>by simp;rintro rfl;exact r f);have q:B.filter (λj=>decide (j≠i))=B:=List.filter_eq_self.2 (λj f=>by simp;rintro rfl;exact s f);rw[p,q,List.filterMap_append.symm];simp
theorem LZ {c:κ×ν->Option R->Option R} (f:∀a b x,c a (c b x)=c b (c a x)) (K:Option R) (d:κ×ν) (e:List (κ×ν)):∀g:List (κ×ν),Le c K (g++d::e)=c d (Le c K (g++e))
 | []=>rfl
 |x::xs=>by
  have:=LZ f K d e xs;unfold Le at this ⊢;rw[List.cons_append,List.cons_append,List.foldr_cons,List.foldr_cons,this,f]
end
section
variable {P:Program} {rd:Option Nat} {c:tZ} {n:Sz} {σ σ':Fr} {M L M' L':List a_} {Q:Exit->Act->World->Prop} {ops:Array Oper} {rest:List Oper}
variable {d:Option Tmp} {ty:TypeId} {pos:String} {aft:Array Edge} {g:Option (Nat×Bool)}
variable {κ ν:Type} [DecidableEq κ] {ek:κ->Value} {ev:ν->Value} {R:Type}
theorem aN.range [cI P] (j:Nat) {T f h:TypeId} {q r:Nat} {z:Value} {x:Operand} {m:Nat} {l:List (κ×ν)} (p:Go.Sx.ev σ x=some (.map (some m))) (o:M[j]? = some (Mp ek ev m l)) (k:cI.tab P T=some ⟨.map f h,q,r,z⟩):
  aN P c n σ M L ⟨d,.range T x,ty,pos,aft,g⟩ (λb:Nat=> .pointer (some ⟨b,0,none⟩)) (λb=>It b m l.length []::M) (λ_=>L):=λa w s t=>by
 obtain⟨F,i⟩:=t.res o;have e:(execOp a.eval ⟨d,.range T x,ty,pos,aft,g⟩).run P w = .ok (.value (.pointer (some ⟨w.heap.size,0,none⟩))) (w.alloc (.mapIter (some m) l.length #[] l.length)):=by
  simp[execOp,s.eval p,run_range_map w T f h m _ _ (cI.ok k).und i.2]
 simp only[Oper.wp,e,Oper.upon];exact⟨w.heap.size,rfl,t.push _ ⟨rfl,heap_alloc_new w _⟩⟩
def GB (ek:κ->Value) (ev:ν->Value) (l:List (κ×ν)):Option Nat->Value
 |none=> .tuple #[.bool false]
 |some i=>match l[i]? with
  |some a=> .tuple #[.bool true,ek a.1,ev a.2]
  |none=>undef
def aeA (b:Nat) (a:List Nat):Option Nat->Prop
 |none=>∀i,i<b->i∈a
 |some i=>i<b∧i∉a
def TW (M:List a_) (f b m e:Nat) (a:List Nat):Option Nat->List a_
 |none=>M
 |some i=>M.set f (It b m e (a++[i]))
theorem St.pureL {w:World} {p:Prop} (hp:p) (t:St c M L w):St c M (acP p::L) w:=by
 obtain⟨ho,F,hF,hL⟩:=t;refine⟨ho,F,hF,λf hf=> ?_⟩
 rcases List.mem_cons.1 hf with rfl|hf
 ·exact hp
 ·exact hL f hf
theorem aN.next (jm ji:Nat) {x:Operand} {b m:Nat} {l:List (κ×ν)} {seen:List Nat} (hx:Go.Sx.ev σ x=some (.pointer (some ⟨b,0,none⟩))) (hf:M[jm]? = some (Mp ek ev m l)) (hi:M[ji]? = some (It b m l.length seen)):
  aN P c n σ M L ⟨d,.next x false,ty,pos,aft,g⟩ (GB ek ev l) (TW M ji b m l.length seen) (λo=>acP (aeA l.length seen o)::L):=λa w s t=>by
 obtain⟨F,hF⟩:=t.res hf;obtain⟨G,hG⟩:=t.res hi;have hold:∀e∈(DX ek ev 0 l).toArray.toList,e.born<l.length:=λe he=>by
  obtain⟨i,kv,h1,h2⟩:=Nw ek ev 0 l e (by simpa using he);rw[h2];have:=bD h1;simp;omega
 rcases run_next_at (P:=P) w ty b m l.length l.length seen.toArray (DX ek ev 0 l).toArray l.length hG.2 hF.2 hold (Nat.le_refl _)with⟨h0,hr⟩|⟨e,he,w1,hw1,hr⟩
 ·have hrun:(execOp a.eval ⟨d,.next x false,ty,pos,aft,g⟩).run P w = .ok (.value (.tuple #[.bool false])) w:=by
   simp[execOp,s.eval hx,hr]
  simp only[Oper.wp,hrun,Oper.upon];refine⟨none,rfl,t.pureL λi hi'=> ?_⟩
  obtain⟨kv,hkv⟩:∃kv,l[i]? = some kv:=⟨_,List.getElem?_eq_getElem hi'⟩
  have:=all_seen _ _ h0 _ (by simpa using Nu ek ev 0 l i kv hkv);simpa using this
 ·have hml:=_root_.Go.mem_left he;obtain⟨i,kv,h1,h2⟩:=Nw ek ev 0 l e (by simpa using hml.1);subst h2;rw[Nat.zero_add]at hr hml;have hrun:(execOp a.eval ⟨d,.next x false,ty,pos,aft,g⟩).run P w = .ok (.value (.tuple #[.bool true,ek kv.1,ev kv.2])) (setBlock w1 b (.mapIter (some m) l.length (seen.toArray.push i) l.length)):=by
   simp[execOp,s.eval hx,hr]
  simp only[Oper.wp,hrun,Oper.upon];have t1:St c M L w1:=by
   rcases hw1 with rfl|rfl
   ·exact t
   ·exact t.ext ((Below.refl _ _).drew)
  refine⟨some i,by simp[GB,h1],St.pureL ⟨bD h1,by simpa using hml.2⟩ ?_⟩
  refine t1.upd hi Z Z Z (by simp[setBlock]) λF hF _=>⟨λk _ hk=> ?_,F,⟨hF.1,?_⟩,λ_ h=> .inl h⟩
  ·simp only[setBlock];rw[Array.getElem?_setIfInBounds_ne (λe=>hk (by subst e;exact hF.1))]
  ·simp only[setBlock];rw[Array.getElem?_setIfInBounds_self_of_lt (Array.getElem?_eq_some_iff.1 hF.2).1];simp
theorem aN.entry (A z:Nat) {x:Operand} {b m i:Nat} {l:List (κ×ν)} {f:List Nat} {e:κ×ν} (j:l[i]? = some e) (y:Go.Sx.ev σ x=some (.pointer (some ⟨b,0,none⟩))) (q:M[A]? = some (Mp ek ev m l)) (r:M[z]? = some (It b m l.length (f++[i]))):
  aN P c n σ M L ⟨d,.entry x,ty,pos,aft,g⟩ (λ_:Unit=> .tuple #[ek e.1,ev e.2]) (λ_=>M) (λ_=>L):=λa w s t=>by
 obtain⟨F,o⟩:=t.res q;obtain⟨G,p⟩:=t.res r;have k:=Nu ek ev 0 l i e j;rw[Nat.zero_add]at k;have u:((DX ek ev 0 l).toArray.toList.map (·.born)).Nodup:=by
  simp only[Pv];exact List.nodup_range'
 have v:=run_entry_at (P:=P) w b m l.length f.toArray (DX ek ev 0 l).toArray l.length ⟨ek e.1,ev e.2,i⟩ (by rw[p.2];simp) o.2 (by simpa using k) u;have h:(execOp a.eval ⟨d,.entry x,ty,pos,aft,g⟩).run P w = .ok (.value (.tuple #[ek e.1,ev e.2])) w:=by
  simp[execOp,s.eval y,v]
 simp only[Oper.wp,h,Oper.upon];exact⟨(),by first|rfl|trivial,t⟩
theorem ZR {G:Act->World->Prop} (σ':Fr) (M' L':List a_) (f:yO σ σ') (e:aZ M M') (b:aG [] L L') (h:J c n σ' M' L' G):J c n σ M L G:=λa w s t=>h a w (s.weak f) (t.weakE e b)
theorem QT {e:TypeId} {d:TypeDesc} (p:P.underlying e=some d) (m:∀b k w,(Instr.checkKey b 10000 e (ek k)).run P w = .ok () w) (o:∀a b,Instr.sameNow d (ek a) (ek b)=none)
  (r:∀a b w,(Op.equal e (ek a) (ek b)).run P w = .ok (decide (a=b)) w) (f:∀k,Instr.sameBits 10000 (ek k) (ek k)=true):Jq P e ek:=by
 refine⟨m,λ{ν'} ev' k l w=> ?_,f⟩
 have j:∀(l:List (κ×ν')) (i:Nat),(Instr.findAsking e (ek k) (DX ek ev' i l) i).run P w = .ok (Vl ev' k i l) w:=by
  intro l
  induction l with
  |nil=>intro i;simp[DX,Vl,Instr.findAsking]
  |cons x q t=>
   intro i;simp only[DX,Vl,Instr.findAsking];simp[r];by_cases h:k=x.1
   ·simp[h]
   ·simp[h,t]
 unfold Instr.findKey;cases l with
 |nil=>simp[DX,Vl,Instr.findNow,run_underlying p w]
 |cons x q=>
  have s:Instr.findNow d (ek k) (DX ek ev' 0 (x::q)) 0=none:=by simp[DX,Instr.findNow,o]
  simp[run_underlying p w,s,j]
def Wu {R:Type} (c:tZ) (n:Sz) (σ:Fr) (M L:List a_) (x:Option R) (r:R) (a:Act) (w:World):Prop:=x=some r∧Fw n σ a∧St c M L w
theorem QR {R:Type} {x:Option R} {r:R} (h:x=some r) (e:yO σ' σ) (b:aZ M' M) (a:aG [] L' L):J c n σ' M' L' (Wu c n σ M L x r):=λ_ _ s t=>⟨h,s.weak e,t.weakE b a⟩
theorem UH (p:κ×ν->Option R->Option R) {K:Option R} {r:R} (O s:Nat) {b m:Nat} {l:List (κ×ν)} (hc:∀a b x,p a (p b x)=p b (p a x)) (h:Le p K l=some r)
  (hf:M[O]? = some (Mp ek ev m l)) (U:M[s]? = some (It b m l.length [])) (af:Nat.beq s O=false) {t0 S T:Tmp} (hx:lk σ t0=some (.pointer (some ⟨b,0,none⟩))) (ab:Nat.blt S n.sz=true) (E:Nat.blt T n.sz=true)
  {id ex:Nat} {y1 y2:TypeId} {q1 q2:String} {f1 f2:Array Edge} {y:Code}
  (C:∀(t:κ×ν) (i:Nat) (k:List Nat) (x:Option R),l[i]? = some t->p t x=some r->
   J c n ((T,.bool true)::(S,.tuple #[.bool true,ek t.1,ev t.2])::σ) (M.set s (It b m l.length (k++[i]))) L (y.wpr rd P (Exit.then (Wu c n σ (M.set s (It b m l.length (k++[i]))) L x r) Q)))
  (V:∀k,K=some r->J c n ((T,.bool false)::(S,.tuple #[.bool false])::σ) (M.set s (It b m l.length k)) L (Q (.exit ex))):
  J c n σ M L ((Code.loop (Code.seq (Code.region id [⟨some S,.next (.tmp t0) false,y1,q1,f1,none⟩,⟨some T,.extract (.tmp S) 0,y2,q2,f2,none⟩].toArray false) (Code.seq (Code.cond (.tmp T) .skip (.exit ex)) y))).wpr rd P Q):=by
 have z:=bD U;have ae:O≠s:=λe=>by subst e;simp at af
 have H:M.set s (It b m l.length [])=M:=by
  apply List.ext_getElem?;intro q;by_cases eq:q=s
  ·subst eq;rw[List.getElem?_set_self z,U]
  ·rw[List.getElem?_set_ne (Ne.symm eq)]
 refine Wk (X:=List Nat) (λk=>k.Nodup∧(∀i∈k,i<l.length)∧Le p K (rem l k)=some r) (λ_=>σ) (λk=>M.set s (It b m l.length k)) (λ_=>L) (λk=>l.length - k.length) [] ⟨List.nodup_nil,by simp,by rw[abN];exact h⟩ (yO.refl _) (by rw[H];exact aZ.refl _) (λ_ h=>h) ?_;rintro k ⟨G,F,v⟩;have ac:(M.set s (It b m l.length k))[O]? = some (Mp ek ev m l):=by rw[List.getElem?_set_ne (Ne.symm ae)];exact hf
 have ad:(M.set s (It b m l.length k))[s]? = some (It b m l.length k):=List.getElem?_set_self z;refine aK (aS (aH (aN.next O s (x:= .tmp t0) hx ac ad) ab λo=> ?_));refine acN List.mem_cons_self λho=> ?_;refine acO (M':=TW (M.set s (It b m l.length k)) s b m l.length k o) (L':=L) ?_ (yO.refl _) (aZ.refl _) (λf hf=>List.mem_cons_of_mem _ hf);cases o with
 | none =>
  refine aB (lZ (vs:=[.bool false]) (by simp[GB,lk,Go.Sx.ev]) Z) E (eM (zU (aK (IK (by simp[lk,Go.Sx.ev]) (s_ (fW (fW ?_)))))));refine V k ?_;have:rem l k=[]:=by
   unfold rem;rw[List.filter_eq_nil_iff.2 (λi U=>by simpa using ho i (by simpa using U))];rfl
  rw[this]at v;exact v
 | some i =>
  obtain⟨W,Y⟩:=ho;obtain⟨t,A⟩:∃t,l[i]? = some t:=⟨_,List.getElem?_eq_getElem W⟩
  have N:GB ek ev l (some i) = .tuple #[.bool true,ek t.1,ev t.2]:=by simp[GB,A]
  obtain⟨l1,l2,e1,e2⟩:=YP A Y;have B:p t (Le p K (rem l (k++[i])))=some r:=by
   rw[e2,<-LZ hc K t l2 l1,<-e1];exact v
  have aa:TW (M.set s (It b m l.length k)) s b m l.length k (some i)=M.set s (It b m l.length (k++[i])):=by simp[TW]
  rw[N,aa];refine aB (lZ (vs:=[.bool true,ek t.1,ev t.2]) (by simp[lk,Go.Sx.ev]) Z) E (eM (zU (aK (SU (by simp[lk,Go.Sx.ev]) (dO (zU ?_))))));refine Wl (C t i k _ A B) λa w hw=>Hc (λe a' w' q=> ?_) hw;cases e with
  | normal =>
   obtain⟨ai,ag,ah⟩:=q;refine⟨k++[i],⟨?_,?_,ai⟩,?_,ag,ah⟩
   ·rw[List.nodup_append];exact⟨G,by simp,λa ha b D=>by simp at D;subst D;rintro rfl;exact Y ha⟩
   ·intro j u;rcases List.mem_append.1 u with u|u
    ·exact F j u
    ·simp at u;subst u;exact W
   ·have:k.length<l.length:=by
     have I:(k++[i]).length<=(List.range l.length).length:=by
      apply List.Nodup.length_le_of_subset
      ·rw[List.nodup_append];exact⟨G,by simp,λa ha b D=>by simp at D;subst D;rintro rfl;exact Y ha⟩
      ·intro j u;rcases List.mem_append.1 u with u|u
       ·simpa using F j u
       ·simp at u;subst u;simpa using W
     simp at I;omega
    simp;omega
  |exit id=>exact q
  |goto l=>exact q
  |ret=>exact q
  |panic ch=>exact q
  |outgrown=>exact q
end
end Go.Sx
end
namespace Go.Sx
open Go.RowKit
section
variable {P:Program} {rd:Option Nat} {c:tZ} {n:Sz} {σ σ':Fr} {M L M' L':List a_} {Q:Exit->Act->World->Prop} {ops:Array Oper} {rest:List Oper} {K:Act->World->Prop} {G:Act->World->Prop}
variable {d:Option Tmp} {D:Nat} {ty:TypeId} {pos:String} {aft:Array Edge} {g:Option (Nat×Bool)}
variable {α β:Type} {e:cQ α} {r:eD α}


def Fv (P:Program) (f:FuncId) (a:Array Value) (Min L:List a_) {A:Type} (b:A->Value) (h:A->List a_->List a_):Prop:=
 ∀c:tZ,St c Min L c.w0->Calls P f a c.w0 λe i=>∃x:A,e = .returned (b x)∧St c (h x []) [] i
theorem Fv.of {A:Type} {b:A->Value} {q:A->List a_->List a_} {f:FuncId} {i:Func} {a:Code} {vs:List Value} {m:Nat} {Min:List a_}
  (u:P.funcs[f]? = some i) (s:i.body=some a) (x:i.ntmps=m) (w:Nat.ble vs.length m=true)
  (h:∀c:tZ,J c ⟨m,[]⟩ (wF 0 vs) Min L (a.wpr none P (gG P i (MK c b q (λ_ l=>l))))):Fv P f vs.toArray Min L b q:=λc t=>by
 have o:vs.length<=m:=by simpa using w
 refine sI u s (h c _ _ ⟨rfl,by simp[x,o],?_⟩ t);intro t v y;obtain⟨_,j⟩:=DU vs 0 t v y;rw[Nat.sub_zero]at j;have p:t<vs.length:=by
  rcases Nat.lt_or_ge t vs.length with k|k
  ·exact k
  ·rw[List.getElem?_eq_none k]at j;cases j
 rw[Array.getElem?_append_left (by simpa using p)];simpa using j
theorem WF {w S:World} {l H v:List a_} {F:Nat->Nat->Prop} {U:Nat->Prop} (y:BO c.O c.w0 w) (o:Own c w (l++H) F) (Y:∀f∈L,f.p w (Dm c F))
  (t:St ⟨w,U,λk=>∃i,i<l.length∧F i k⟩ v [] S):St c (v++H) L S:=by
 obtain⟨s,T,u,_⟩:=t;have C:=s.size;have x:∀k,k<w.heap.size->(∀i,i<l.length->¬F i k)->S.heap[k]? = w.heap[k]? := λk a hn=>s.block k a (fun⟨i,B,o⟩=>hn i B o);have b:∀i k,T i k->w.heap.size<=k∨∃j,j<l.length∧F j k:=λi k a=>(u.rng i k a).1;refine⟨⟨s.os.trans y.os,s.tape.trans y.tape,s.output.trans y.output,Nat.le_trans y.size C,λk a W=> ?_⟩,
  λi k=>(i<v.length∧T i k)∨(v.length<=i∧F (i - v.length+l.length) k),⟨?_,?_,?_⟩,λf hf=> ?_⟩
 ·refine(x k (Nat.lt_of_lt_of_le a y.size) (λi _ I=> ?_)).trans (y.block k a W);rcases(o.rng i k I).1 with h|h
  ·omega
  ·exact W h
 ·intro i m E;by_cases B:i<v.length
  ·rw[List.getElem?_append_left B]at E;exact a_.same (u.res i m E) (λk a=> .inl ⟨B,a⟩) (λ_ _ _=>rfl)
  ·rw[List.getElem?_append_right (by omega)]at E;have R:(l++H)[i - v.length+l.length]? = some m:=by
    rw[List.getElem?_append_right (by omega),Nat.add_sub_cancel];exact E
   exact a_.same (o.res _ m R) (λk a=> .inr ⟨by omega,a⟩) (λk a N=>x k N (λj X J=>by have:=o.dis _ _ k J a;omega))
 ·rintro i k (⟨_,a⟩|⟨_,a⟩)
  ·refine⟨?_,(u.rng i k a).2⟩
   rcases b i k a with h|⟨j,_,h⟩
   ·exact .inl (Nat.le_trans y.size h)
   ·exact(o.rng j k h).1
  ·exact⟨(o.rng _ k a).1,Nat.lt_of_lt_of_le (o.rng _ k a).2 C⟩
 ·rintro i j k (⟨B,z⟩|⟨B,z⟩) (⟨X,A⟩|⟨X,A⟩)
  ·exact u.dis i j k z A
  ·rcases b i k z with h|⟨q,hq,h⟩
   ·have:=(o.rng _ k A).2;omega
   ·have:=o.dis _ _ k h A;omega
  ·rcases b j k A with h|⟨q,hq,h⟩
   ·have:=(o.rng _ k z).2;omega
   ·have:=o.dis _ _ k h z;omega
  ·have:=o.dis _ _ k z A;omega
 ·refine f.mono (Y f hf) λk a N=>⟨⟨a.1,?_⟩,x k N (λi _=>a.2 i)⟩
  rintro i (⟨_,h⟩|⟨_,h⟩)
  ·rcases b i k h with V|⟨q,_,V⟩
   ·omega
   ·exact a.2 q V
  ·exact a.2 _ h
theorem UQ {w:World} {a u t:List a_} {F:Nat->Nat->Prop} (o:Own c w (a++u) F) (y:∀f∈L,f.p w (Dm c F)) (B:aG u L t):
  St ⟨w,λk=>∀i,i<a.length->¬F i k,λk=>∃i,i<a.length∧F i k⟩ a t w:=by
 refine⟨BO.refl _,λi k=>i<a.length∧F i k,⟨λi m s=> ?_,λi k b=>⟨.inr ⟨i,b⟩,(o.rng i k b.2).2⟩,λi j k v x=>o.dis i j k v.2 x.2⟩,λf z=> ?_⟩
 ·have l:i<a.length:=by
   rcases Nat.lt_or_ge i a.length with q|q
   ·exact q
   ·rw[List.getElem?_eq_none q]at s;cases s
  exact a_.same (o.res i m (by rw[List.getElem?_append_left l];exact s)) (λk b=>⟨l,b⟩) (λ_ _ _=>rfl)
 ·refine B f z w (Dm c F) (λj k=>F (j+a.length) k) _ y (λj m A=> ?_) (λk b=> ?_) (λj k b=> ?_)
  ·exact o.res _ m (by rw[List.getElem?_append_right (by omega),Nat.add_sub_cancel];exact A)
  ·exact⟨.inl λi _=>b.2 i,λi l=>b.2 i l.2⟩
  ·exact⟨.inl λi l h=>by have:=o.dis _ _ k h b;omega,λi l=>by have:=o.dis _ _ k l.2 b;omega⟩
theorem Fu {A:Type} {k:A->Value} {m:A->List a_->List a_} {f:FuncId} {p:List Operand} {vs:List Value} {b:Array TypeId} {q Min Mr:List a_} (z:aU P f)
  (C:Fv P f vs.toArray Min q k m) (H:p.map (ev σ)=vs.map some) (y:aZ M (Min++Mr)) (v:aG Mr L q) (o:∀x l,m x l=m x []++l):
  aN P c n σ M L ⟨d,.call ⟨.value (.func f),p.toArray,b⟩,ty,pos,aft,g⟩ k (λx=>m x Mr) (λ_=>L):=λa w s t=>by
 have j:(execOp a.eval ⟨d,.call ⟨.value (.func f),p.toArray,b⟩,ty,pos,aft,g⟩).run P w = .ok (.enter f vs.toArray) w:=by
  have e:=evs s H;simp[execOp,resolve,Act.eval,Deferred.ofValue,invoke,z _ w,e]
 simp only[Oper.wp,j,Oper.upon];obtain⟨B,F,u,i⟩:=t.weak (L':=L) y (λ_ h=>h);refine(C _ (UQ u i v)).mono ?_;rintro e I ⟨x,rfl,E⟩;refine⟨x,rfl,?_⟩
 rw[o];exact WF B u i E

def Ww {A B:Type} (c:tZ) (C:A->Prop) (a:A->B->Value) (f b:A->B->List a_) (e:Ending) (w:World):Prop:=∃x y,C x∧e = .returned (a x y)∧St c (f x y) (b x y) w
theorem JZ {j:Func} {a:List Value} {m:Nat} (l:j.ntmps=m) (k:Nat.ble a.length m=true):Fw ⟨m,[]⟩ (wF 0 a) {tmps:=a.toArray++Array.replicate (j.ntmps - a.toArray.size) undef,defers:=[]}:=by
 have h:a.length<=m:=by simpa using k
 refine⟨rfl,by simp[l,h],?_⟩
 intro t v o;obtain⟨_,b⟩:=DU a 0 t v o;rw[Nat.sub_zero]at b;have i:t<a.length:=by
  rcases Nat.lt_or_ge t a.length with f|f
  ·exact f
  ·rw[List.getElem?_eq_none f]at b;cases b
 rw[Array.getElem?_append_left (by simpa using i)];simpa using b
structure sX (P:Program) (c:tZ) (n:Sz) (σ:Fr) (M L:List a_) (o:Oper) (f:FuncId) (vs:List Value):Prop where
 run:∀a w,Fw n σ a->St c M L w->(execOp a.eval o).run P w = .ok (.enter f vs.toArray) w
theorem sX.fn {f:FuncId} {xs:List Operand} {vs:List Value} {b:Array TypeId} (h:aU P f) (i:xs.map (ev σ)=vs.map some):sX P c n σ M L ⟨d,.call ⟨.value (.func f),xs.toArray,b⟩,ty,pos,aft,g⟩ f vs:=⟨λa w s _=>by
 have e:=evs s i;simp[execOp,resolve,Act.eval,Deferred.ofValue,invoke,h _ w,e]⟩
theorem Hj {f:FuncId} {t:Tmp} {h:List Operand} {us cs vs:List Value} {b:Array TypeId} (j:aU P f) (k:lk σ t=some (.func (.func f) #[] cs.toArray)) (m:h.map (ev σ)=us.map some) (l:us++cs=vs):sX P c n σ M L ⟨d,.call ⟨.value (.tmp t),h.toArray,b⟩,ty,pos,aft,g⟩ f vs:=⟨λa w s _=>by
 have e:=evs s m;have i:a.eval (.tmp t) = .func (.func f) #[] cs.toArray:=s.eval (x:= .tmp t) k;subst l;simp[execOp,resolve,i,Deferred.ofValue,invoke,j _ w,e]⟩

def He (P:Program) (c:tZ) (n:Sz) (σ:Fr) (M L:List a_) (b:Func) (v:Value):Prop:=∀a w,Fw n σ a->St c M L w->(results b a.tmps).run P w = .ok v w
variable {fn:Func}
theorem He.r0 (b:fn.results = #[]):He P c n σ M L fn (.tuple #[]):=λa w _ _=>by simp[results,b]
theorem He.r1 {f:ResultVar} {h:Value} (b:fn.results = #[f]) (i:RV P c n σ M L f h):He P c n σ M L fn h:=λa w s t=>by
 have:=i a w s t;simp only[xT,b];simp[this]
theorem He.r2 {i j:ResultVar} {k l:Value} (b:fn.results = #[i,j]) (f:RV P c n σ M L i k) (h:RV P c n σ M L j l):He P c n σ M L fn (.tuple #[k,l]):=λa w s t=>by
 have f:=f a w s t;have h:=h a w s t;simp only[xT,b];simp[f,h]
theorem tA {A B:Type} {m:Sz} {v:Value} {f:Exit} {C:A->Prop} {b:A->B->Value} {k j:A->B->List a_} (x:A) (y:B) (l:C x) (i:f = .ret∨f = .normal) (q:He P c m σ' M L fn v) (u:v=b x y) (p:aZ M (k x y)) (o:aG [] L (j x y)) (h:m.ds=[]:=by rfl):
  J c m σ' M L (gG P fn (Ww c C b k j) f):=λa w s t=>by
 exact body_end i (s.defers.trans h) (q a w s t) ⟨x,y,l,by rw[u],t.weakE p o⟩
end
section
variable {P:Program} {rd:Option Nat} {c:tZ} {n:Sz} {σ σ':Fr} {M L M' L':List a_} {Q:Exit->Act->World->Prop} {ops:Array Oper} {rest:List Oper} {K:Act->World->Prop} {G:Act->World->Prop}
variable {d:Option Tmp} {D:Nat} {ty:TypeId} {pos:String} {aft:Array Edge} {g:Option (Nat×Bool)}
variable {α β:Type} {e:cQ α} {r:eD α}
def am_ (v:Value) (m:Nat):Prop:=match v with
 | .slice _ _ cap=>m<=cap
 |_=>False
theorem WK [cI P] {T E:TypeId} {R U u V:Nat} {z W:Value} {A:TypeDesc} {x p o q:Operand} {v:Value} {i k m:Int} {y:List α} (O:ev σ x=some v) (j:ev σ p=some (.int .i64 i)) (f:ev σ o=some (.int .i64 k)) (l:ev σ q=some (.int .i64 m)) (J:aF M L (Sl r v y))
  (I:cI.tab P T=some ⟨.slice E,R,U,z⟩) (H:cI.tab P E=some ⟨A,u,V,W⟩) (h:0<=i∧i<=k∧k<=m∧m<=y.length):Y P c n σ M L ⟨d,.slice T x (some p) (some o) (some q),ty,pos,aft,g⟩
   (match v with|.slice a _ _=> .slice (if m.toNat=i.toNat then a else a.map (·.add (i.toNat*u))) (k.toNat - i.toNat) (m.toNat - i.toNat)|v=>v):=λa w s t=>by
 obtain⟨S,X,b,N,hb,_⟩:=J.st t;subst N;have B:0<=m∧m<=(b:Int):=by omega
 have C:0<=k∧k<=((m.toNat:Nat):Int):=by omega
 have F:0<=i∧i<=((k.toNat:Nat):Int):=by omega
 simp[execOp,s.eval O,s.eval j,s.eval f,s.eval l,Instr.sliceAt,Instr.slice,(cI.ok I).run_und w,Instr.sliceBounds,Instr.sliceBound,asIntOf,(cI.ok H).run_size w,B,C,F];rw[if_pos (by omega),if_pos (by omega)]
theorem Oz (i:Nat) {k:Int} {vs:List Value} {xss:List (List α)} (E:M[i]? = some (jZ e vs xss)) (h:0<=k∧k<xss.length):
  oJ M L (Ar e (at' vs k) (at' xss k)::M.set i (jZ e (vs.set k.toNat (.slice none 0 0)) (xss.set k.toNat []))) L:=λc w t=>by
 obtain⟨X,F,s,W⟩:=t;obtain⟨A,G,U,u,O⟩:=s.res i _ E;have R:k.toNat<vs.length:=by omega
 have S:i<M.length:=(List.getElem?_eq_some_iff.1 E).1;have B:=U k.toNat _ _ (jB h.1 (by omega)) (jB h.1 h.2);refine⟨X,λj q=>match j with|0=>G k.toNat q|j+1=>(j=i∧∃p,p≠k.toNat∧G p q)∨(j≠i∧F j q),⟨?_,?_,?_⟩,λf E=> ?_⟩
 ·intro j m y;cases j with
  |zero=>simp at y;subst y;exact B
  | succ j =>
   rw[List.getElem?_cons_succ]at y;by_cases N:j=i
   ·subst N;rw[List.getElem?_set_self S]at y;cases y;refine⟨by simp[A],λp q=>p≠k.toNat∧G p q,λp v V H I=> ?_,λp q a=> .inl ⟨rfl,p,a⟩,λT C q b l=>O _ _ q b.2 l.2⟩
    by_cases x:p=k.toNat
    ·subst x;rw[List.getElem?_set_self R]at H;rw[List.getElem?_set_self (by omega)]at I;cases H;cases I;exact⟨by simp,rfl,.inl ⟨rfl,rfl⟩⟩
    ·rw[List.getElem?_set_ne (Ne.symm x)]at H I;exact a_.same (f:=Ar e v V) (U p v V H I) (λq a=>⟨x,a⟩) (λ_ _ _=>rfl)
   ·rw[List.getElem?_set_ne (Ne.symm N)]at y;exact a_.same (s.res j m y) (λq a=> .inr ⟨N,a⟩) (λ_ _ _=>rfl)
 ·intro j q a;cases j with
  |zero=>exact s.rng i q (u _ q a)
  |succ j=>
   rcases a with⟨_,p,_,a⟩|⟨_,a⟩
   ·exact s.rng i q (u _ q a)
   ·exact s.rng j q a
 ·intro T C q b l;cases T with
  | zero =>
   cases C with
   |zero=>rfl
   |succ C=>
    rcases l with⟨_,p,o,l⟩|⟨o,l⟩
    ·exact absurd (O _ _ q l b) o
    ·exact absurd (s.dis _ _ q l (u _ q b)) o
  | succ T =>
   cases C with
   |zero=>
    rcases b with⟨_,p,o,b⟩|⟨o,b⟩
    ·exact absurd (O _ _ q b l) o
    ·exact absurd (s.dis _ _ q b (u _ q l)) o
   |succ C=>
    congr 1;rcases b with⟨J,p,_,b⟩|⟨J,b⟩<;>rcases l with⟨x,Y,_,l⟩|⟨x,l⟩
    ·rw[J,x]
    ·exact absurd (s.dis _ _ q l (u _ q b)) x
    ·exact absurd (s.dis _ _ q b (u _ q l)) J
    ·exact s.dis _ _ q b l
 ·refine a_.same (W f E) (λq a=>⟨a.1,λj z=> ?_⟩) (λ_ _ _=>rfl);cases j with
  |zero=>exact a.2 i (u _ q z)
  |succ j=>
   rcases z with⟨_,p,_,z⟩|⟨_,z⟩
   ·exact a.2 i (u _ q z)
   ·exact a.2 j z
theorem Ov (i j:Nat) {u:Value} {k:Int} {vs:List Value} {xss:List (List α)} {ys:List α} (a:Nat.beq i j=false) (b:M[i]? = some (jZ e (vs.set k.toNat (.slice none 0 0)) (xss.set k.toNat []))) (f:M[j]? = some (Ar e u ys)) (h:0<=k∧k<(xss.set k.toNat []).length):
  oJ M L ((M.set i (jZ e (vs.set k.toNat u) (xss.set k.toNat ys))).eraseIdx j) L:=by
 have:=xJ (L:=L) i j a b f h;rwa[List.set_set,List.set_set]at this

theorem Lz {α:Type} [Inhabited α] (l:List α) {j k:Int} (y:α) (h:j.toNat≠k.toNat):at' (l.set j.toNat y) k=at' l k:=by
 rw[at',at',List.getD_eq_getElem?_getD,List.getD_eq_getElem?_getD,List.getElem?_set_ne h]
theorem yY [cI P] (i:Nat) {r:eD α} (f:e.Fits r) {x y:Operand} {u o:Value} {k j:Int} {vs:List Value} {a:List (List α)} {l b:List α} {T E:TypeId} {S U m s:Nat} {z t:Value} {v:TypeDesc} (N:ev σ x=some (at' vs k)) (O:ev σ y=some u) (H:M[i]? = some (jZ e (vs.set j.toNat o) (a.set j.toNat b))) (I:aF M L (Sl r u l))
  (F:cI.tab P T=some ⟨.slice E,S,U,z⟩) (C:cI.tab P E=some ⟨v,m,s,t⟩) (A:e.sz=m) (B:Nat.ble s 1024=true) (w:0<=k∧k<a.length) (J:((at' a k).length:Int)+l.length<=1099511627) (R:t.cells.size=m) (h:j.toNat≠k.toNat):
  aN P c n σ M L ⟨d,.call ⟨.builtin .append,#[x,y],#[T,T]⟩,ty,pos,aft,g⟩ (λp:Value=>p) (λp=>M.set i (jZ e ((vs.set j.toNat o).set k.toNat p) ((a.set j.toNat b).set k.toNat (at' a k++l)))) (λ_=>L):=by
 have q:at' (a.set j.toNat b) k=at' a k:=Lz _ _ h;have:=qH (P:=P) (c:=c) (n:=n) (σ:=σ) (M:=M) (L:=L) (d:=d) (ty:=ty) (pos:=pos) (aft:=aft) (g:=g) (x:=x) (y:=y) (u:=u) (k:=k) (vs:=vs.set j.toNat o) (xss:=a.set j.toNat b) (ys:=l) i f (by rw[Lz _ _ h];exact N) O H I F C A B (by simpa using w) (by rw[q];exact J) R;rwa[q]at this
theorem Cg (q:Nat) {vs:List Value} {a:List (List α)} {k j:Int} {u z:Value} (x:M[q]? = some (jZ e ((vs.set k.toNat u).set j.toNat z) a)) (i:k.toNat≠j.toNat) (h:0<=k∧k<a.length):∀c w,St c M L w->Go.Sx.one u=true:=λc w t=>by
 obtain⟨S,v,A,p,_⟩:=t.res x;have f:k.toNat<vs.length:=by simp at v;omega
 obtain⟨_,_,s⟩:=p k.toNat u _ (by rw[List.getElem?_set_ne (Ne.symm i),List.getElem?_set_self f]) (List.getElem?_eq_getElem (by omega));rcases s with⟨l,_⟩|⟨b,y,m,T,o,l,_⟩<;>(rw[l];rfl)
theorem SV {A:Type} {b:A->Value} {M' L':A->List a_} {f:Op} (j:aN P c n σ M L ⟨none,f,ty,pos,aft,none⟩ b M' L') (h:∀x,J c n σ (M' x) (L' x) (wpList P ops Q rest)):
  J c n σ M L (wpList P ops Q (⟨none,f,ty,pos,aft,none⟩::rest)):=λa w s t=>
 lY Z (Kr (mT (λm l ⟨x,i,k⟩=>by subst i;exact h x _ l s k) (j a w s t)))

end
section
variable {P:Program} {rd:Option Nat} {c:tZ} {n:Sz} {σ σ':Fr} {M L M' L':List a_} {Q:Exit->Act->World->Prop} {ops:Array Oper} {rest:List Oper} {K:Act->World->Prop} {G:Act->World->Prop}
variable {d:Option Tmp} {D:Nat} {ty:TypeId} {pos:String} {aft:Array Edge} {g:Option (Nat×Bool)}
variable {α β:Type} {e:cQ α} {r:eD α}
theorem Of [cI P] (j:Nat) {T:TypeId} {s2:Nat} {z:Value} {dT:TypeDesc} {x y:Operand} {v u:Value} {i:Int} {m:List α} (yv:α) (hx:ev σ x=some (DT v (i.toNat*1))) (hy:ev σ y=some u) (hu:e.enc yv=[u]) (B:one u=true)
  (X:M[j]? = some (Ar e v m)) (hT:cI.tab P T=some ⟨dT,1,s2,z⟩) (N:e.sz=1) (h0:0<=i) (W:i<m.length):
  aN P c n σ M L ⟨none,.store T x y,ty,pos,aft,none⟩ (λ_:Unit=>undef) (λ_=>M.set j (Ar e v (m.set i.toNat yv))) (λ_=>L):=λa w s t=>by
 obtain⟨F,J⟩:=t.res X;have Y:i.toNat<m.length:=by omega
 have E:m[i.toNat]? = some m[i.toNat]:=List.getElem?_eq_getElem Y;have H:m≠[]:=by intro e;subst e;simp at Y
 obtain⟨p,hp⟩:∃p,e.enc m[i.toNat]=[p]:=List.length_eq_one_iff.1 ((e.len _).trans N);have f:=Dl.cell J E (j:=0) (u:=p) (by rw[hp];rfl);rw[N,Nat.add_zero,Nat.mul_one]at f;rw[Nat.mul_one]at hx;have o:=NX J H i.toNat;have I:(execOp a.eval ⟨none,.store T x y,ty,pos,aft,none⟩).run P w = .ok .skip (w.setCell (JN v i.toNat) u):=by
  simp only[execOp,s.eval hx,s.eval hy,DT];simp[CW (cI.ok hT) Z B f o]
 simp only[Oper.wp,I,Oper.upon];refine⟨(),trivial,t.upd X Z Z Z (by simp[World.setCell]) λF J _=> ?_⟩
 obtain⟨hl,W,S⟩:=J;rcases S with⟨_,S⟩|⟨b,l,A,T',O,hv,C,hb,hk,hc,ht⟩
 ·exact absurd S H
 ·subst hv;have ha:JN (.slice (some ⟨b,l,none⟩) m.length A) i.toNat=⟨b,l+i.toNat,none⟩:=by simp[JN,dQ]
  rw[ha];refine⟨λk _ U=>Below.heap_setCell _ _ _ _ (λe=>U (by simp only at e;subst e;exact C)),F,⟨by simpa using hl,?_,.inr ⟨b,l,A,T',O.setIfInBounds (l+i.toNat) u,by simp,C,?_,by simpa using hk,by simpa using hc,?_⟩⟩,λ_ h=> .inl h⟩
  ·rw[wC N hu,List.all_eq_true];intro q V;rcases List.mem_or_eq_of_mem_set V with R|R
   ·exact List.all_eq_true.1 W q R
   ·rw[R];exact B
  ·simp[World.setCell,Array.getElem?_modify,hb]
  ·rw[wC N hu,<-ht,Array.toList_setIfInBounds,List.length_set,<-take_set];congr 1;rw[List.drop_set,if_neg (by omega),Nat.add_sub_cancel_left]
theorem Oe [cI P] (i:Nat) {T j:TypeId} {C:Nat} {z:Value} {m:TypeDesc} {x y:Operand} {b o:Nat} {cs:List Value} {v:Value} (A:ev σ x=some (.pointer (some ⟨b,o,none⟩)))
  (B:ev σ y=some v) (u:one v=true) (l:M[i]? = some (bY b cs j)) (p:cI.tab P T=some ⟨m,1,C,z⟩) (q:Nat.blt o cs.length=true):
  aN P c n σ M L ⟨none,.store T x y,ty,pos,aft,none⟩ (λ_:Unit=>undef) (λ_=>M.set i (bY b (cs.set o v) j)) (λ_=>L):=λa w s t=>by
 obtain⟨F,k⟩:=t.res l;have h:o<cs.length:=by simpa [Nat.blt_eq]using q
 have f:(execOp a.eval ⟨none,.store T x y,ty,pos,aft,none⟩).run P w = .ok .skip (w.setCell ⟨b,o,none⟩ v):=by
  simp[execOp,s.eval A,s.eval B,CW (cI.ok p) Z u (bY.cell k (List.getElem?_eq_getElem h)) (NY k o)]
 simp only[Oper.wp,f,Oper.upon];exact⟨(),trivial,t.store l v⟩
theorem Bw [cI P] (j q:Nat) {T:TypeId} {E:Nat} {z:Value} {m:TypeDesc} {x y:Operand} {v u:Value} {i:Int} {vs b:List Value} {f:List (List α)} (h:0<=i∧i<f.length) (B:ev σ x=some (DT v (i.toNat*1))) (C:ev σ y=some u)
  (p:M[j]? = some (Ar cQ.raw v vs)) (A:M[q]? = some (jZ e b f)) (F:b.length=vs.length) (k:one u=true) (o:cI.tab P T=some ⟨m,1,E,z⟩):
  aN P c n σ M L ⟨none,.store T x y,ty,pos,aft,none⟩ (λ_:Unit=>undef) (λ_=>M.set j (Ar cQ.raw v (vs.set i.toNat u))) (λ_=>L):=λa w s t=>by
 have l:b.length=f.length:=by obtain⟨_,h⟩:=t.res A;exact h.1
 exact Of j u B C Z k p o Z h.1 (by omega) a w s t
section
variable {l:List Oper} {m:List Nat} {k0:Nat} {H Bs:List (Nat×List a_×List a_)} {rs:List Nat}
theorem Dv {A:Type} {j:A->Value} {M' L':A->List a_} {i:Nat} {b:Op}
  (o:l[i]? = some ⟨none,b,ty,pos,aft,none⟩) (v:Nat.blt i k0=true) (y:dV b=true) (z:aN P c n σ M L ⟨none,b,ty,pos,aft,none⟩ j M' L')
  (q:∀x,An (before m i) (M' x) (L' x) Bs) (h:∀x,JR c n σ (M' x) (L' x) ((i,M,L)::H) Bs (RW P l.toArray Q (before m) (cN l) k0 rs)):
  JR c n σ M L H Bs (RW P l.toArray Q (before m) (cN l) k0 (i::rs)):=λa w X Y s t u k=>by
 have f:l.toArray[i]? = some ⟨none,b,ty,pos,aft,none⟩:=by simpa using o
 simp only[RW,f];rw[if_pos (by simp[Region.wanted])];refine .inr (.inr ⟨by simpa [Nat.blt_eq]using v,by simp[cN,o,y],mT ?_ (z a w s t)⟩);rintro C B ⟨x,rfl,p⟩;exact⟨(q x).use p k,h x _ B _ Y s p ⟨rfl,t,u⟩ k⟩
end

theorem Ho {A B:Type} {f:FuncId} {j:Func} {b:Code} {k:List Value} {m:Nat} {q:Op} (C:A->Prop) (i:A->B->Value) (o l:A->B->List a_) (E:sX P c n σ M L ⟨d,q,ty,pos,aft,g⟩ f k) (F:P.funcs[f]? = some j) (z:j.body=some b) (I:j.ntmps=m) (H:Nat.ble k.length m=true)
  (u:J c ⟨m,[]⟩ (wF 0 k) M L (b.wpr none P (gG P j (Ww c C i o l)))):
  aN P c n σ M L ⟨d,q,ty,pos,aft,g⟩ (λx:{p:A×B // C p.1}=>i x.1.1 x.1.2) (λx=>o x.1.1 x.1.2) (λx=>l x.1.1 x.1.2):=λa w s t=>by
 have h:=E.run a w s t;simp only[Oper.wp,h,Oper.upon];refine(sI F z (u _ w (JZ I H) t)).mono ?_;rintro e O ⟨x,y,v,rfl,N⟩;exact⟨⟨(x,y),v⟩,rfl,N⟩
theorem Bu {A B:Type} {f:FuncId} {j:Func} {h:Code} {vs:List Value} {m:Nat} {o:Op} (C:A->Prop) (i:A->B->Value) (l k:A->B->List a_) (v:sX P c n σ M L ⟨some D,o,ty,pos,aft,none⟩ f vs) (w:P.funcs[f]? = some j) (u:j.body=some h) (y:j.ntmps=m) (x:Nat.ble vs.length m=true) (t:Nat.blt D n.sz=true)
  (p:J c ⟨m,[]⟩ (wF 0 vs) M L (h.wpr none P (gG P j (Ww c C i l k)))) (q:∀a b,C a->J c n ((D,i a b)::σ) (l a b) (k a b) (wpList P ops Q rest)):J c n σ M L (wpList P ops Q (⟨some D,o,ty,pos,aft,none⟩::rest)):=
 aH (Ho C i l k v w u y x p) t fun⟨⟨a,b⟩,s⟩=>q a b s
section
variable {l:List Oper} {mm:List Nat} {k0:Nat} {H Bs:List (Nat×List a_×List a_)} {rs:List Nat}
theorem SY {A B:Type} {i:Nat} {f:FuncId} {p:Func} {h:Code} {vs:List Value} {m:Nat} {q:Op} (C:A->Prop) (j:A->B->Value) (o k:A->B->List a_) (E:l[i]? = some ⟨some D,q,ty,pos,aft,none⟩) (F:Nat.blt i k0=true) (I:dV q=true) (y:sX P c n σ M L ⟨some D,q,ty,pos,aft,none⟩ f vs) (z:P.funcs[f]? = some p) (x:p.body=some h) (O:p.ntmps=m) (N:Nat.ble vs.length m=true) (w:Nat.blt D n.sz=true)
  (u:∀a b,An (before mm i) (o a b) (k a b) Bs) (s:J c ⟨m,[]⟩ (wF 0 vs) M L (h.wpr none P (gG P p (Ww c C j o k)))) (t:∀a b,C a->JR c n ((D,j a b)::σ) (o a b) (k a b) ((i,M,L)::H) Bs (RW P l.toArray Q (before mm) (cN l) k0 rs)):
  JR c n σ M L H Bs (RW P l.toArray Q (before mm) (cN l) k0 (i::rs)):=
 JR.loud E F I (Ho C j o k y z x O N s) w (λ_=>u _ _) fun⟨⟨a,b⟩,v⟩=>t a b v
theorem Oc {A B:Type} {i j:Nat} {s:Bool} {f:FuncId} {q:Func} {h:Code} {vs:List Value} {m:Nat} {t:Op} (C:A->Prop) (k:A->B->Value) (p o:A->B->List a_) (N:l[i]? = some ⟨some D,t,ty,pos,aft,some (j,s)⟩) (O:Nat.blt i k0=true) (R:dV t=true) (I:gv l.toArray σ j=some s) (E:sX P c n σ M L ⟨some D,t,ty,pos,aft,some (j,s)⟩ f vs) (F:P.funcs[f]? = some q) (z:q.body=some h) (T:q.ntmps=m) (S:Nat.ble vs.length m=true) (y:Nat.blt D n.sz=true)
  (w:∀a b,An (before mm i) (p a b) (o a b) Bs) (u:J c ⟨m,[]⟩ (wF 0 vs) M L (h.wpr none P (gG P q (Ww c C k p o)))) (v:∀a b,C a->JR c n ((D,k a b)::σ) (p a b) (o a b) ((i,M,L)::H) Bs (RW P l.toArray Q (before mm) (cN l) k0 rs)):
  JR c n σ M L H Bs (RW P l.toArray Q (before mm) (cN l) k0 (i::rs)):=
 Wp N O R I (Ho C k p o E F z T S u) y (λ_=>w _ _) fun⟨⟨a,b⟩,x⟩=>v a b x
end

theorem Ez [cI P] {T E:TypeId} {k q u b A:Nat} {z B:Value} {f:TypeDesc} {x y:Operand} {v:Value} {o:Nat} {i:Int} (m:ev σ x=some (DT v o)) (p:ev σ y=some (.int .i64 i))
  (l:cI.tab P T=some ⟨.array k E,q,u,z⟩) (j:cI.tab P E=some ⟨f,b,A,B⟩) (_h3:(b==0)=false) (h:0<=i∧i<(k:Int)):
  Y P c n σ M L ⟨d,.indexAddr T x y,ty,pos,aft,g⟩ (DT v (o+i.toNat*b)):=λa w s t=>by
 simp[execOp,s.eval m,s.eval p,Instr.indexAt,asIntOf,(cI.ok l).run_und w,h,Instr.sureAddr,DT,(cI.ok j).run_size w,IT]
theorem cB {x:Operand} {b o:Nat} (f:ev σ x=some (.pointer (some ⟨b,o,none⟩))):Y P c n σ M L ⟨d,.nilCheck x,ty,pos,aft,g⟩ (.pointer (some ⟨b,o,none⟩)):=λa w s t=>by
 simp[execOp,s.eval f]

theorem Og [cI P] [Inhabited α] (j:Nat) {T:TypeId} {s2 k o q:Nat} {z:Value} {dT:TypeDesc} {x y:Operand} {v u:Value} {C:List Value} {i:Int} {p:List α} (N:α) (h:0<=i∧i<p.length) (hx:ev σ x=some (DT v (i.toNat*q+o))) (hy:ev σ y=some u)
  (hf:M[j]? = some (Ar e v p)) (hq:e.sz=q) (V:u.cells=C.toArray) (hk:C.length=k) (ho:Nat.ble (o+k) q=true) (J:e.enc N=(e.enc (at' p i)).take o++C++(e.enc (at' p i)).drop (o+k)) (X:C.all one=true) (hT:cI.tab P T=some ⟨dT,k,s2,z⟩):
  aN P c n σ M L ⟨none,.store T x y,ty,pos,aft,none⟩ (λ_:Unit=>undef) (λ_=>M.set j (Ar e v (p.set i.toNat N))) (λ_=>L):=λa w s t=>by
 subst hq hk;have ar:o+C.length<=e.sz:=by simpa using ho
 have hi:i.toNat<p.length:=by omega
 have t0:=t;obtain⟨ak,FF,hO,ag⟩:=t0;obtain⟨h0,A,hh⟩:=hO.res j _ hf;rcases hh with⟨_,rfl⟩|⟨b,m,W,T',f,rfl,Y,aa,ab,hc,ht⟩
 ·simp at hi
 -- the parts of the row
 obtain⟨l,B,E,I,hl⟩:∃l B E,p=l++B::E∧l.length=i.toNat:=⟨p.take i.toNat,p[i.toNat],p.drop (i.toNat+1),by rw[List.getElem_cons_drop,List.take_append_drop],by simp;omega⟩
 have ai:at' p i=B:=by
  rw[at',List.getD_eq_getElem?_getD,<-hl,I,List.getElem?_append_right (Nat.le_refl _)];simp
 rw[ai]at J;have eE:=e.len B;have eA:(cellsOf e l).length=i.toNat*e.sz:=by rw[dR,hl]
 have F:cellsOf e p=cellsOf e l++(e.enc B++cellsOf e E):=by rw[I];simp[cellsOf]
 have U:cellsOf e (p.set i.toNat N)=cellsOf e l++(e.enc N++cellsOf e E):=by
  have:p.set i.toNat N=l++N::E:=by rw[I,<-hl,List.set_append_right _ _ (Nat.le_refl _)];simp
  rw[this];simp[cellsOf]
 have ap:p.length*e.sz<=W*e.sz:=Nat.mul_le_mul_right _ ab;obtain⟨O,R,S,hH⟩:∃O R,f.toList=O++(cellsOf e l++(e.enc B++(cellsOf e E++R)))∧O.length=m:=by
  refine⟨f.toList.take m,(f.toList.drop m).drop (p.length*e.sz),?_,by simp;omega⟩
  have e1:cellsOf e l++(e.enc B++(cellsOf e E++(f.toList.drop m).drop (p.length*e.sz)))=f.toList.drop m:=by
   have:cellsOf e l++(e.enc B++(cellsOf e E++(f.toList.drop m).drop (p.length*e.sz)))=cellsOf e p++(f.toList.drop m).drop (p.length*e.sz):=by rw[F];simp
   rw[this,<-ht,List.take_append_drop]
  rw[e1,List.take_append_drop]
 have an:f.size=f.toList.length:=by simp
 have al:f.toList.take (m+(i.toNat*e.sz+o))=O++(cellsOf e l++(e.enc B).take o):=by
  have:f.toList=(O++(cellsOf e l++(e.enc B).take o))++((e.enc B).drop o++(cellsOf e E++R)):=by
   rw[S,List.append_assoc,List.append_assoc,<-List.append_assoc ((e.enc B).take o),List.take_append_drop]
  rw[this];exact List.take_left' (by simp[hH,eA,eE];omega)
 have am:f.toList.drop (m+(i.toNat*e.sz+o)+C.length)=(e.enc B).drop (o+C.length)++(cellsOf e E++R):=by
  have:f.toList=(O++(cellsOf e l++(e.enc B).take (o+C.length)))++((e.enc B).drop (o+C.length)++(cellsOf e E++R)):=by
   rw[S,List.append_assoc,List.append_assoc,<-List.append_assoc ((e.enc B).take (o+C.length)),List.take_append_drop]
  rw[this];exact List.drop_left' (by simp[hH,eA,eE];omega)
 have af:(i.toNat+1)*e.sz<=p.length*e.sz:=Nat.mul_le_mul_right _ (by omega);have aq:(i.toNat+1)*e.sz=i.toNat*e.sz+e.sz:=by rw[Nat.add_mul,Nat.one_mul]
 have ac:m+(i.toNat*e.sz+o)+0+C.length<=f.size:=by omega
 have ae:=run_storeCells_at P b (m+(i.toNat*e.sz+o)) T' C 0 f w aa ac (λu V=>pU (List.all_eq_true.1 X u V));simp only[Nat.add_zero]at ae;have au:(cI.ok hT).run_size w=(cI.ok hT).run_size w:=rfl;have ad:(execOp a.eval ⟨none,.store T x y,ty,pos,aft,none⟩).run P w = .ok .skip (w.setRow b (f.toList.take (m+(i.toNat*e.sz+o))++C++f.toList.drop (m+(i.toNat*e.sz+o)+C.length)).toArray):=by
  simp[execOp,s.eval hx,s.eval hy,DT,JN,Instr.storeAt,Instr.sureAddr,storeVar,V,(cI.ok hT).run_size w,dQ,ae]
 simp only[Oper.wp,ad,Oper.upon];refine⟨(),trivial,?_⟩
 refine IQ ak hO ag hf Z Z Z (by simp) (λk _ aj=>setRow_other w b k _ (λe=>aj (by subst e;exact Y))) (F':=FF j) ?_ (λk hk=> .inl hk);have H:(e.enc N).length=e.sz:=e.len N;refine⟨by simpa using h0,?_,.inr ⟨b,m,W,T',_,by simp,Y,setRow_heap w b _ _ T' _ aa,by simpa using ab,?_,?_⟩⟩
 ·rw[U];rw[F]at A;simp only[List.all_append,Bool.and_eq_true]at A ⊢;refine⟨A.1,?_,A.2.2⟩
  rw[J];simp only[List.all_append,Bool.and_eq_true];refine⟨⟨List.all_eq_true.2 λu V=>List.all_eq_true.1 A.2.1 u (List.mem_of_mem_take V),X⟩,List.all_eq_true.2 λu V=>List.all_eq_true.1 A.2.1 u (List.mem_of_mem_drop V)⟩
 ·simp only[List.size_toArray,List.length_append,List.length_take,List.length_drop];omega
 ·show((f.toList.take _++C++f.toList.drop _).drop m).take ((p.set i.toNat N).length*e.sz)=_;rw[al,am,U,J,List.length_set];have e3:(O++(cellsOf e l++(e.enc B).take o)++C++((e.enc B).drop (o+C.length)++(cellsOf e E++R)))=O++((cellsOf e l++(((e.enc B).take o++C++(e.enc B).drop (o+C.length))++cellsOf e E))++R):=by simp
  rw[e3,<-hH,List.drop_left];refine List.take_left' ?_;have ah:(cellsOf e E).length=E.length*e.sz:=dR e E;have ao:p.length=i.toNat+1+E.length:=by rw[I,<-hl];simp;omega
  rw[J]at H;rw[List.length_append,List.length_append,H,eA,ah,ao,Nat.add_mul,Nat.add_mul,Nat.one_mul];omega
end
def Dfr (D:Nat):a_ where
 p w F:=F D∧w.heap[D]? = some (.deferred (some []))
 mono:=fun⟨b,a⟩ h=>by
  obtain⟨c,d⟩:=h D b (Array.getElem?_eq_some_iff.1 a).1;exact⟨c,by rw[d];exact a⟩
structure Wz where
 n:Nat
 σ:Fr
 ps:Array Tmp
 assign:Code
 body:Code
 D:Nat
def Lp (l:Nat) (R:Wz) (i:LoopState) (a:Option Code):a_ where
 p w F:=F l∧∃(fn:FuncId) (tmps:Array Value),tmps.size=R.n∧(∀t v,lk R.σ t=some v->tmps[t]? = some v)∧
  w.heap[l]? = some (.loop {state:=i,pending:=a,fn:=fn,tmps:=tmps,params:=R.ps,assign:=R.assign,body:=R.body,defers:=R.D})
 mono:=fun⟨c,fn,tmps,d,e,b⟩ h=>by
  obtain⟨f,g⟩:=h l c (Array.getElem?_eq_some_iff.1 b).1;exact⟨f,fn,tmps,d,e,by rw[g];exact b⟩
def Ys (D:Nat):Deferred:={target:= .collected D,args:= #[]}
def xA (l:Nat):Value:= .func (.yield l) #[] #[]
section
variable {P:Program} {rd:Option Nat} {c:tZ} {n m:Sz} {σ σ':Fr} {M L:List a_} {Q:Exit->Act->World->Prop} {K G:Act->World->Prop}
theorem St.putLp {w:World} {l i:Nat} {R:Wz} {y d:LoopState} {b a:Option Code} (t:St c M L w) (v:M[i]? = some (Lp l R y b)) {r:Loop} (o:w.heap[l]? = some (.loop r)):
  St c (M.set i (Lp l R d a)) L (w.putObj l (.loop {r with state:=d,pending:=a})):=by
 refine t.upd v Z Z Z (by simp) λF j _=>⟨λk _ x=> ?_,F,?_,λ_ h=> .inl h⟩
 ·exact World.putObj_heap_other (λe=>x (by subst e;exact j.1))
 ·obtain⟨q,p,f,s,u,g⟩:=j;rw[g]at o;cases o;exact⟨q,p,f,s,u,World.putObj_heap_same (Array.getElem?_eq_some_iff.1 g).1⟩
def WA (P:Program) (n:Sz) (σ:Fr) (l D:Nat) (Q:Exit->Act->World->Prop) (e:Ending) (w:World):Prop:=
 ∀a,Fw ⟨n.sz,Ys D::n.ds⟩ σ a->rangePost (FR none) 0 P l Q a e w
theorem Oa {g:Operand} {ps:Array Tmp} {assign body:Code} {f:FuncId} {fn:Func} {code:Code} {cs:List Value} {k:Nat} (hb:aU P f) (hx:ev σ g=some (.func (.func f) #[] cs.toArray)) (hf:P.funcs[f]? = some fn) (hbd:fn.body=some code) (hn:fn.ntmps=k) (hm:Nat.ble (cs.length+1) k=true)
  (h:∀l D,J c ⟨k,[]⟩ (wF 0 (xA l::cs)) (Lp l ⟨n.sz,σ,ps,assign,body,D⟩ .ready none::Dfr D::M) L (code.wpr none P (gG P fn (WA P n σ l D Q)))):
  J c n σ M L ((Code.rangeFunc g ps assign body).wpr none P Q):=λa w s t=>by
 refine wpIn_rangeFunc λfn' _=> ?_;have hev:a.eval g = .func (.func f) #[] cs.toArray:=s.eval hx;let W:World:=(w.alloc (.deferred (some []))).alloc (.loop {state:= .ready,pending:=none,fn:=fn',tmps:=a.tmps,params:=ps,assign:=assign,body:=body,defers:=w.heap.size});refine⟨_,_,_,{target:= .fn (.func f) cs.toArray,args:= #[xA (w.heap.size+1)]},W,f,(xA (w.heap.size+1)::cs).toArray,W,run_enterLoop_outer fn' a.tmps ps assign body,?_,λ_ _=>trivial,?_,(λhc=>by cases hc),?_⟩
 ·have hc:∀v,a.eval (.const v)=v:=λ_=>rfl;simp[resolve,hev,hc,Deferred.ofValue,xA,W]
 ·simp[invoke,hb _ _,xA]
 ·have t1:St c (Dfr w.heap.size::M) L (w.alloc (.deferred (some []))):=t.push _ ⟨rfl,heap_alloc_new w _⟩;have t2:St c (Lp (w.heap.size+1) ⟨n.sz,σ,ps,assign,body,w.heap.size⟩ .ready none::Dfr w.heap.size::M) L ((w.alloc (.deferred (some []))).alloc (.loop {state:= .ready,pending:=none,fn:=fn',tmps:=a.tmps,params:=ps,assign:=assign,body:=body,defers:=w.heap.size})):=by
   have:=t1.push (.loop {state:= .ready,pending:=none,fn:=fn',tmps:=a.tmps,params:=ps,assign:=assign,body:=body,defers:=w.heap.size}) (m:=Lp (w.heap.size+1) ⟨n.sz,σ,ps,assign,body,w.heap.size⟩ .ready none)
    ⟨by simp,fn',a.tmps,s.size,s.slot,by rw[<-World.size_alloc w (.deferred (some []))];exact heap_alloc_new _ _⟩
   exact this
  refine Tt ((sI hf hbd (h (w.heap.size+1) w.heap.size _ _ (JZ hn (by simpa using hm)) t2)).mono ?_);intro e w' he;exact he _ ⟨by simp[Ys,s.defers],s.size,s.slot⟩
theorem Wn {f:Func} {b:Exit} {v:Value} {l D i:Nat} {R:Wz} (e:b = .ret∨b = .normal) (j:M[i]? = some (Lp l R .ready none)) (q:He P c m σ' M L f v) (h:J c ⟨n.sz,Ys D::n.ds⟩ σ (M.set i (Lp l R .exhausted none)) L (Q .normal)) (d:m.ds=[]:=by rfl):
  J c m σ' M L (gG P f (WA P n σ l D Q) b):=λa w s t=>by
 refine body_end e (s.defers.trans d) (q a w s t) λo r=> ?_;obtain⟨F,u,p,k,x,y,g⟩:=t.res j;exact⟨none,_,run_endLoop g (by simp),h o _ r (t.putLp j g)⟩
theorem ZQ {f:Func} {b:Exit} {v:Value} {l D i:Nat} {R:Wz} (e:b = .ret∨b = .normal) (j:M[i]? = some (Lp l R .done (some .ret))) (q:He P c m σ' M L f v) (h:J c ⟨n.sz,Ys D::n.ds⟩ σ (M.set i (Lp l R .exhausted (some .ret))) L (Q .ret)) (d:m.ds=[]:=by rfl):
  J c m σ' M L (gG P f (WA P n σ l D Q) b):=λa w s t=>by
 refine body_end e (s.defers.trans d) (q a w s t) λo r=> ?_;obtain⟨F,u,p,k,x,y,g⟩:=t.res j;exact⟨some .ret,_,run_endLoop g (by simp),wpIn_ret (h o _ r (t.putLp j g))⟩
def Wa (P:Program) (l:Nat) (G:Act->World->Prop) (a:Act) (w:World):Prop:=∃b,(Instr.beginRound l).run P w = .ok () b∧G a b
theorem SS {l i:Nat} {R:Wz} {b:Option Code} (e:M[i]? = some (Lp l R .ready b)) (h:J c n σ (M.set i (Lp l R .busy b)) L G):J c n σ M L (Wa P l G):=λa w s t=>by
 obtain⟨F,j,g,f,k,o,d⟩:=t.res e;exact⟨_,run_beginRound d Z,h a _ s (t.putLp e d)⟩
def WB (n:Sz) (σ:Fr) (d:Nat) (K:Act->World->Prop) (e:Ending) (w:World):Prop:=∃v,e = .returned v∧∀a,Fw n ((d,v)::σ) a->K a w
theorem Jm {l i d:Nat} {R:Wz} {b:Option Code} (f:M[i]? = some (Lp l R .busy b)) (h:J c m ((d,.bool true)::σ') (M.set i (Lp l R .ready none)) L K):J c n σ M L (roundPost P l (WB m σ' d K) .normal):=λa w s t=>by
 obtain⟨F,p,k,g,q,r,e⟩:=t.res f;exact⟨_,_,run_endRound none e,_,rfl,λj o=>h j _ o (t.putLp f e)⟩
theorem Wo {l i d:Nat} {R:Wz} {b:Option Code} (f:M[i]? = some (Lp l R .busy b)) (h:J c m ((d,.bool false)::σ') (M.set i (Lp l R .done (some .ret))) L K):J c n σ M L (roundPost P l (WB m σ' d K) .ret):=λa w s t=>by
 obtain⟨F,p,k,g,q,r,e⟩:=t.res f;exact⟨_,_,run_endRound (some .ret) e,_,rfl,λj o=>h j _ o (t.putLp f e)⟩
def FM:List Tmp->List Value->Fr->Fr
 |t::ts,v::vs,σ=>FM ts vs ((t,v)::σ)
 |_,_,σ=>σ
theorem JY:∀(d:List Tmp) (f:List Value) (a:Array Value) (σ:Fr) (k:Nat),a.size=k->d.all (λt=>Nat.blt t k)=true->(∀t v,lk σ t=some v->a[t]? = some v)->
  ((d.zip f).foldl (λa (x:Tmp×Value)=>a.setIfInBounds x.1 x.2) a).size=k∧∀t v,lk (FM d f σ) t=some v->((d.zip f).foldl (λa (x:Tmp×Value)=>a.setIfInBounds x.1 x.2) a)[t]? = some v
 | [],_,a,σ,k,h1,_,h3=>by simpa [FM]using ⟨h1,h3⟩
 |_::_,[],a,σ,k,h1,_,h3=>by simpa [FM]using ⟨h1,h3⟩
 | p :: d, x :: f, a, σ, k, h1, h2, h3 => by
  simp only[List.all_cons,Bool.and_eq_true]at h2;have g:p<k:=by simpa [Nat.blt_eq]using h2.1
  simp only[List.zip_cons_cons,List.foldl_cons,FM];refine JY d f _ _ k (by simp[h1]) h2.2 λt v b=> ?_;simp only[lk]at b;by_cases e:t=p
  ·subst e;simp at b;subst b;simp[h1,g]
  ·rw[mF e]at b;simp only[cond_false]at b;rw[Array.getElem?_setIfInBounds_ne (Ne.symm e)];exact h3 t v b
theorem ZS {f:Array Oper} {b:List Oper} {t:Tmp} {z:List Operand} {g:List Value} {o:Array TypeId} {d:Nat} {B:TypeId} {y:String} {k:Array Edge} {l i:Nat} {R:Wz} {j:List Tmp} (U:lk σ t=some (xA l)) (W:z.map (ev σ)=g.map some) (T:M[i]? = some (Lp l R .ready none)) (r:R.ps=j.toArray) (q:g.length=j.length) (p:j.all (λt=>Nat.blt t R.n)=true) (S:Nat.blt d n.sz=true)
  (h:J c ⟨R.n,[]⟩ (FM j g R.σ) M L (R.assign.wpr (some l) P (Exit.then (Wa P l (R.body.wpr (some l) P (roundPost P l (WB n σ d (wpList P f Q b))))) (λ_ _ _=>False)))):
  J c n σ M L (wpList P f Q (⟨some d,.call ⟨.value (.tmp t),z.toArray,o⟩,B,y,k,none⟩::b)):=λa w s A=>by
 obtain⟨F,h1,H,tmps,I,N,O⟩:=A.res T;have e:=evs s W;have C:a.eval (.tmp t)=xA l:=s.eval (x:= .tmp t) U;have X:=run_yield (P:=P) (args:=g.toArray) O (by simp[r,q]);have u:(execOp a.eval ⟨some d,.call ⟨.value (.tmp t),z.toArray,o⟩,B,y,k,none⟩).run P w=(Instr.yield l g.toArray).run P w:=by
  simp[execOp,resolve,C,xA,Deferred.ofValue,invoke,e]
 unfold wpList;rw[if_pos (show Region.wanted _ _=true from rfl)];refine .inr ⟨_,_,_,_,_,_,u.trans X,?_⟩;refine RoundIn.mono (R:=WB n σ d (wpList P f Q b)) (roundIn_of_wpIn (F:=FR none) trivial ?_) ?_
 ·obtain⟨D,E⟩:=JY j g tmps R.σ R.n I p N;have:=h {tmps:=(j.zip g).foldl (λtmps (x:Tmp×Value)=>tmps.setIfInBounds x.1 x.2) tmps,defers:=[]} w ⟨rfl,D,E⟩ A;simp only[r,List.zip_toArray,List.foldl_toArray];exact this
 ·rintro e Y ⟨v,rfl,V⟩;exact⟨v,rfl,V _ (s.put d v S)⟩
theorem MH {g:Operand} {ps:Array Tmp} {assign body:Code} {f:FuncId} {fn:Func} {code:Code} {cs:List Value} {k:Nat} (hb:aU P f) (hx:ev σ g=some (.func (.func f) #[] cs.toArray)) (hf:P.funcs[f]? = some fn) (hbd:fn.body=some code) (hn:fn.ntmps=k) (hm:Nat.ble (cs.length+1) k=true)
  (h:∀(l D:Nat) (R:Wz),R.n=n.sz∧R.σ=σ∧R.ps=ps∧R.assign=assign∧R.body=body->J c ⟨k,[]⟩ (wF 0 (xA l::cs)) (Lp l R .ready none::Dfr D::M) L (code.wpr none P (gG P fn (WA P n σ l D Q)))):
  J c n σ M L ((Code.rangeFunc g ps assign body).wpr none P Q):=Oa hb hx hf hbd hn hm λl D=>h l D _ ⟨rfl,rfl,rfl,rfl,rfl⟩
theorem Ob {j:Array Oper} {e:List Oper} {t:Tmp} {u:List Operand} {us:List Value} {r:Array TypeId} {d:Nat} {B:TypeId} {s:String} {q:Array Edge} {l i k:Nat} {R:Wz} {p:List Tmp} {o:Fr} {a b:Code} (w:R.n=k∧R.σ=o∧R.ps=p.toArray∧R.assign=a∧R.body=b) (z:lk σ t=some (xA l)) (A:u.map (ev σ)=us.map some) (y:M[i]? = some (Lp l R .ready none)) (g:us.length=p.length) (f:p.all (λt=>Nat.blt t k)=true) (x:Nat.blt d n.sz=true)
  (h:J c ⟨k,[]⟩ (FM p us o) M L (a.wpr (some l) P (Exit.then (Wa P l (b.wpr (some l) P (roundPost P l (WB n σ d (wpList P j Q e))))) (λ_ _ _=>False)))):
  J c n σ M L (wpList P j Q (⟨some d,.call ⟨.value (.tmp t),u.toArray,r⟩,B,s,q,none⟩::e)):=by
 obtain⟨rfl,rfl,v,rfl,rfl⟩:=w;exact ZS z A y v g f x h
end
def Ki (Ds:List Nat):List Deferred:=Ds.map Ys
def MD (Ds:List Nat):a_ where
 p w F:=Ds.Nodup∧∀D∈Ds,F D∧w.heap[D]? = some (.deferred (some []))
 mono:=fun⟨c,a⟩ h=>⟨c,λD b=>by
  obtain⟨d,e⟩:=h D (a D b).1 (Array.getElem?_eq_some_iff.1 (a D b).2).1;exact⟨d,by rw[e];exact(a D b).2⟩⟩
section
variable {P:Program} {rd:Option Nat} {c:tZ} {n m:Sz} {σ σ':Fr} {M L:List a_} {Q:Exit->Act->World->Prop} {K G:Act->World->Prop}
theorem Ox:oJ M L (MD []::M) L:=oJ.add λ_=>⟨List.nodup_nil,by simp⟩
theorem Oy (i j:Nat) {D:Nat} {e:List Nat} (d:i≠j) (l:M[i]? = some (MD e)) (o:M[j]? = some (Dfr D)):oJ M L ((M.set i (MD (D::e))).eraseIdx j) L:=λc w t=>
 t.merge i j d l o (by
  rintro w q r ⟨g,b⟩ ⟨f,h⟩ k;refine⟨List.nodup_cons.2 ⟨λp=>k D (b D p).1 f,g⟩,λE a=> ?_⟩
  rcases List.mem_cons.1 a with rfl|a
  ·exact⟨.inr f,h⟩
  ·exact⟨.inl (b E a).1,(b E a).2⟩)
theorem F_ {g:Operand} {ps:Array Tmp} {assign body:Code} {f:FuncId} {fn:Func} {code:Code} {cs:List Value} {k i s:Nat} (Ds:List Nat) (hi:M[i]? = some (MD Ds)) (hb:aU P f) (hx:ev σ g=some (.func (.func f) #[] cs.toArray)) (hf:P.funcs[f]? = some fn) (hbd:fn.body=some code) (hn:fn.ntmps=k) (hm:Nat.ble (cs.length+1) k=true)
  (h:∀(l D:Nat) (R:Wz),R.n=s∧R.σ=σ∧R.ps=ps∧R.assign=assign∧R.body=body->J c ⟨k,[]⟩ (wF 0 (xA l::cs)) (Lp l R .ready none::M.set i (MD (D::Ds))) L (code.wpr none P (gG P fn (WA P ⟨s,Ki Ds⟩ σ l D Q)))):
  J c ⟨s,Ki Ds⟩ σ M L ((Code.rangeFunc g ps assign body).wpr none P Q):=MH hb hx hf hbd hn hm λl D R hR=>
 jL (Oy (i+2) 1 (by omega) hi Z) (h l D R hR)
theorem rI {o:Func} {R:Ending->World->Prop} {f:Exit} {i k:Nat} (b:f = .ret∨f = .normal):∀{Ds:List Nat} {M:List a_},M[i]? = some (MD Ds)->J c ⟨k,[]⟩ σ (M.set i (MD [])) L (gG P o R f)->J c ⟨k,Ki Ds⟩ σ M L (gG P o R f)
 | [], M, hi, h => by
  have:M.set i (MD [])=M:=by
   apply List.ext_getElem?;intro j;by_cases e:i=j
   ·subst e;rw[hi];simp[(List.getElem?_eq_some_iff.1 hi).1]
   ·simp[List.getElem?_set_ne e]
  rw[this]at h;exact h
 | D :: Ds, M, hi, h => λa w s t => by
  obtain⟨F,v,q⟩:=t.res hi;have u:St c (M.set i (MD Ds)) L (w.putObj D (.deferred none)):=by
   refine t.upd hi Z Z Z (by simp) λF d _=>⟨λk _ r=> ?_,F,?_,λ_ h=> .inl h⟩
   ·exact World.putObj_heap_other (λe=>r (e▸(d.2 D (by simp)).1))
   ·obtain⟨p,d⟩:=d;refine⟨(List.nodup_cons.1 p).2,λE g=>⟨(d E (by simp[g])).1,?_⟩⟩
    rw[World.putObj_heap_other (λe=>(List.nodup_cons.1 p).1 (by subst e;exact g))];exact(d E (by simp[g])).2
  refine UX b s.defers (q D (by simp)).2 ?_;have l:(M.set i (MD Ds))[i]? = some (MD Ds):=by simp[(List.getElem?_eq_some_iff.1 hi).1]
  have:=rI b l (by rw[List.set_set];exact h) {tmps:=a.tmps,defers:=Ki Ds} _ ⟨rfl,s.size,s.slot⟩ u;rcases b with rfl|rfl<;>exact this
def afZ {A B:Type} (c:tZ) (f:A->B->Sz) (C:A->Prop) (b:A->B->Fr) (e d:A->B->List a_) (a:Act) (w:World):Prop:=∃x y,C x∧Fw (f x y) (b x y) a∧St c (e x y) (d x y) w
theorem QS {A B:Type} {x:Code} (h:A->B->Sz) (C:A->Prop) (d:A->B->Fr) (g f:A->B->List a_) (j:J c n σ M L (x.wpr rd P (Exit.then (afZ c h C d g f) Q))) (k:∀a b,C a->J c (h a b) (d a b) (g a b) (f a b) K):
  J c n σ M L (x.wpr rd P (Exit.then K Q)):=λa w s t=>Hc (λe i u q=>by
 cases e with
 |normal=>obtain⟨z,y,o,p,r⟩:=q;exact k z y o i u p r
 |exit id=>exact q
 |goto l=>exact q
 |ret=>exact q
 |panic v=>exact q
 |outgrown=>exact q) (j a w s t)
theorem IL {A B:Type} {e:A->B->Sz} {C:A->Prop} {a:A->B->Fr} {d b:A->B->List a_} (x:A) (y:B) (i:n=e x y) (f:C x) (j:yO σ (a x y)) (h:aZ M (d x y)) (g:aG [] L (b x y)):J c n σ M L (afZ c e C a d b):=
 λ_ _ s t=>⟨x,y,f,i▸s.weak j,t.weakE h g⟩
end
def Gb (b:Nat) (cs:List Value):a_ where
 p w S:=S b∧∃T,w.heap[b]? = some (.cells cs.toArray T (0,0))
 mono:=fun⟨c,T,a⟩ h=>by
  obtain⟨d,e⟩:=h b c (Array.getElem?_eq_some_iff.1 a).1;exact⟨d,T,by rw[e];exact a⟩
section
variable {P:Program} {c:tZ} {n:Sz} {σ:Fr} {M L:List a_} {d:Option Tmp} {ty:TypeId} {pos:String} {aft:Array Edge} {g:Option (Nat×Bool)} {α:Type} {e:cQ α}
theorem OC [cI P] {T E:TypeId} {u:IntKind} {k v A f B:Nat} {z C:Value} {l:TypeDesc} {x y:Operand} {b:Nat} {i:Int} (q:ev σ x=some (.pointer (some ⟨b,0,none⟩))) (r:ev σ y=some (.int u i))
  (p:cI.tab P T=some ⟨.array k E,v,A,z⟩) (o:cI.tab P E=some ⟨l,f,B,C⟩) (m:(f==0)=false) (h:0<=i∧i<(k:Int)):
  Y P c n σ M L ⟨d,.indexAddr T x y,ty,pos,aft,g⟩ (.pointer (some ⟨b,i.toNat*f,none⟩)):=λa w s t=>by
 have j:f≠0:=by simpa using m
 simp[execOp,s.eval q,s.eval r,Instr.indexAt,asIntOf,(cI.ok p).run_und w,h,Instr.sureAddr,(cI.ok o).run_size w,j,dQ]
theorem US [cI P] [Inhabited α] {T:TypeId} {E:Nat} {z:Value} {o:TypeDesc} {x:Operand} {b k:Nat} {i:Int} {f:List α} {u:Value} (q:ev σ x=some (.pointer (some ⟨b,i.toNat*1,none⟩)))
  (y:aF M L (Gb b (cellsOf e f))) (A:cI.tab P T=some ⟨o,1,E,z⟩) (B:xM o=false) (C:e.sz=1) (D:(e.enc (at' f i))=[u]) (h:(0<=i∧i<(k:Int))∧f.length=k):
  Y P c n σ M L ⟨d,.load T x,ty,pos,aft,g⟩ u:=λa w s t=>by
 obtain⟨F,j,r,l⟩:=y.st t;have v:(bY b (cellsOf e f) r).p w F:=⟨j,l⟩
 have m:=vF e f i.toNat (at' f i) (jB h.1.1 (by omega)) 0 u (by rw[D];rfl);rw[C,Nat.add_zero]at m;rw[Nat.mul_one]at q m;simp[execOp,s.eval q,xV (cI.ok A) B (bY.cell v m)]
end
def sl3 (v:Value) (l h m b:Nat):Value:=match v with
 | .slice a _ _=> .slice (if m=l then a else a.map (·.add (l*b))) (h - l) (m - l)
 |v=>v
section
variable {P:Program} {rd:Option Nat} {c:tZ} {n:Sz} {σ:Fr} {M L:List a_} {Q:Exit->Act->World->Prop} {ops:Array Oper} {rest:List Oper} {d:Option Tmp} {ty:TypeId} {pos:String} {aft:Array Edge} {g:Option (Nat×Bool)} {α:Type} {e:cQ α} {r:eD α} {G:Act->World->Prop}
theorem Ly [cI P] {T E:TypeId} {J K u N:Nat} {z O:Value} {B:TypeDesc} {x p o q:Operand} {v:Value} {i k m:Int} {y:List α} (I:ev σ x=some v) (f:ev σ p=some (.int .i64 i)) (b:ev σ o=some (.int .i64 k)) (j:ev σ q=some (.int .i64 m)) (l:aF M L (Sl r v y))
  (F:cI.tab P T=some ⟨.slice E,J,K,z⟩) (D:cI.tab P E=some ⟨B,u,N,O⟩) (h:0<=i∧i<=k∧k<=m∧m<=y.length):Y P c n σ M L ⟨d,.slice T x (some p) (some o) (some q),ty,pos,aft,g⟩ (sl3 v i.toNat k.toNat m.toNat u):=λa w s t=>by
 have C:=WK (P:=P) (c:=c) (n:=n) (d:=d) (ty:=ty) (pos:=pos) (aft:=aft) (g:=g) I f b j l F D h a w s t;obtain⟨S,R,A,H,_⟩:=l.st t;subst H;exact C
theorem UP {w:World} {S:Nat->Prop} {v:Value} {i:List α} (p:Hf r w S v i) {l h m:Nat} (x:l<=h) (u:h<=m) (z:m<=i.length):Hf r w S (sl3 v l h m r.sz) ((i.take h).drop l):=by
 have A:=Hf.part p x (Nat.le_trans u z);obtain⟨a,s,rfl,C,_⟩:=p;obtain⟨B,k,j,t,b⟩:=A;have f:((i.take h).drop l).length=h - l:=by simp;omega
 refine⟨if m=l then a else a.map (·.add (l*r.sz)),m - l,by simp[sl3,f],by omega,?_⟩
 rcases b with b|b
 ·exact .inl b
 ·by_cases o:(i.take h).drop l=[]
  ·exact .inl o
  ·right;have y:l<h:=by
    rcases Nat.lt_or_ge l h with q|q
    ·exact q
    ·exact absurd (List.eq_nil_of_length_eq_zero (by omega)) o
   simp only[slq,Value.slice.injEq]at j;rw[if_neg (by omega)]at j;rw[if_neg (by omega),j.1];exact b
theorem Ch {v:Value} {a:List α} (b:aF M L (Sl r v a)) {l h m:Int} {q:Nat} (f:r.sz=q) (j:0<=l∧l<=h∧h<=m∧m<=a.length):aF M L (Sl r (sl3 v l.toNat h.toNat m.toNat q) ((a.take h.toNat).drop l.toNat)):=by
 subst f;exact b.mono λi=>UP i (by omega) (by omega) (by omega)
def WC (r:eD α) (vs:List Value) (b:List (List α)):a_ where
 p w S:=vs.length=b.length∧∀(i:Nat) v a,vs[i]? = some v->b[i]? = some a->Hf r w S v a
 mono:=fun⟨f,j⟩ h=>⟨f,λi v a k l=>(Sl r v a).mono (j i v a k l) h⟩
theorem SR (r:eD α) (m:Nat) (h:J c n σ M (WC r (List.replicate m (.slice none 0 0)) (List.replicate m ([]:List α))::L) G):J c n σ M L G:=λa w s t=>h a w s (by
 obtain⟨k,F,b,j⟩:=t;refine⟨k,F,b,λf hf=> ?_⟩
 rcases List.mem_cons.1 hf with rfl|hf
 ·refine⟨by simp,λi v p l o=> ?_⟩
  obtain⟨_,rfl⟩:=List.mem_replicate.1 (List.mem_of_getElem? l);obtain⟨_,rfl⟩:=List.mem_replicate.1 (List.mem_of_getElem? o);exact⟨none,0,rfl,by simp,.inl Z⟩
 ·exact j f hf)
theorem SX (j:Nat) {vs:List Value} {o:List (List α)} {t:Value} {u:List α} {k:Nat} (C:L[j]? = some (WC r vs o)) (D:aF [] L (Sl r t u)) (h:J c n σ M (L.set j (WC r (vs.set k t) (o.set k u))) G):J c n σ M L G:=λa w s I=>h a w s (by
 obtain⟨H,F,B,p⟩:=I;refine⟨H,F,B,λf q=> ?_⟩
 rcases List.mem_or_eq_of_mem_set q with q|rfl
 ·exact p f q
 ·obtain⟨x,y⟩:=p _ (List.mem_of_getElem? C);refine⟨by simp[x],λi v K b l=> ?_⟩
  by_cases e:k=i
  ·subst e;have z:=bD b;have A:=bD l;rw[List.getElem?_set_self (by simpa using z)]at b;rw[List.getElem?_set_self (by simpa using A)]at l;cases b;cases l;exact D w (Dm c F) (λ_ _=>False) (Dm c F) p (λi m E=>by simp at E) (λ_ h=>h) (λ_ _ h=>h.elim)
  ·rw[List.getElem?_set_ne e]at b l;exact y i v K b l)
theorem Lr [cI P] (j q:Nat) {T:TypeId} {E:Nat} {z:Value} {l:TypeDesc} {x y:Operand} {v u:Value} {i:Int} {vs:List Value} {b:List (List α)} (h:0<=i∧i<b.length) (C:ev σ x=some (DT v (i.toNat*1))) (D:ev σ y=some u)
  (p:M[j]? = some (Ar cQ.raw v vs)) (B:L[q]? = some (WC r vs b)) (f:one u=true) (o:cI.tab P T=some ⟨l,1,E,z⟩)
  (A:J c n σ (M.set j (Ar cQ.raw v (vs.set i.toNat u))) L (wpList P ops Q rest)):
  J c n σ M L (wpList P ops Q (⟨none,.store T x y,ty,pos,aft,none⟩::rest)):=λa w s t=>by
 have k:vs.length=b.length:=by obtain⟨_,F,_,m⟩:=t;exact(m _ (List.mem_of_getElem? B)).1
 exact Jn j u C D Z f p o Z h.1 (by omega) A a w s t
theorem Ci {i j:Nat} {v:Value} {vs:List Value} {a:List (List α)} (K:M[i]? = some (Ar cQ.raw v vs)) (N:L[j]? = some (WC r vs a)):aF M L (S2 r v (vs.zip a) a):=λw S T U D E H I=>by
 have C:=E i _ K;obtain⟨h,F⟩:=D _ (List.mem_of_getElem? N);refine⟨?_,by rw[List.map_snd_zip];omega⟩
 have A:(vs.zip a).length=vs.length:=by simp[h]
 have f:Dl cQ.raw w (T i) v vs:=C;have o:=f;obtain⟨Y,_,J⟩:=f;rcases J with⟨rfl,rfl⟩|⟨b,t,m,V,B,rfl,p,W,y,X,ht⟩
 ·exact⟨none,0,rfl,by simp,.inl Z⟩
 ·refine⟨_,m,by rw[A],by rw[A];omega,.inr ⟨b,t,rfl,I i _ p,λq x l=> ?_⟩⟩
  have z:vs[q]? = some x.1:=by rw[List.getElem?_zip_eq_some]at l;exact l.1
  have s:a[q]? = some x.2:=by rw[List.getElem?_zip_eq_some]at l;exact l.2
  refine⟨[x.1],λR u O=> ?_,rfl,?_⟩
  ·have:=Dl.cell o z (j:=R) (u:=u) O;simp only[JN,dQ]at this;exact this
  ·exact(Sl r x.1 x.2).mono (F q _ _ z s) (λk y _=>⟨H k y,rfl⟩)
end
end Go.Sx
namespace Go.Sx
section
variable {P:Program} {M L:List a_} {α β γ:Type} {r:eD α} {s:eD γ} {q:eD β}
def eD.Deep (r:eD α) (q:eD β) (f:α->Value×List β):Prop:=∀{w S es x},r.R w S es x->Hf q w S (f x).1 (f x).2
theorem Dy (q:eD β):(eD.sl q).Deep q (λx=>x):=λh=>h.2
theorem UN {f:α->Value×List β} (h:r.Deep q f):(r.pair s).Deep q (λx=>f x.1):=by
 rintro w S d x ⟨b,c,rfl,a,_⟩;exact h a
theorem Ey {f:α->Value×List β} (h:r.Deep q f):(s.pair r).Deep q (λx=>f x.2):=by
 rintro w S d x ⟨b,c,rfl,_,a⟩;exact h a
theorem vD [Inhabited α] {v:Value} {a:List α} {i:Int} {f:α->Value×List β} (h:aF M L (Sl r v a)) (d:r.Deep q f) (b:0<=i) (c:i<a.length):aF M L (Sl q (f (at' a i)).1 (f (at' a i)).2):=h.mono λ{w U} hs=>by
 obtain⟨g,e,_⟩:=sl_cell hs (jB b c);exact d e
def JE (s:ByteArray):List Int:=s.data.toList.map λb=>(b.toNat:Int)
theorem Cn [cI P] {c:tZ} {n:Sz} {l:Fr} {d:Option Tmp} {H:TypeId} {e:String} {b:Array Edge} {g:Option (Nat×Bool)} {T:TypeId} {F G:Nat} {z:Value} {x y:Operand} {s:ByteArray} {f:List Int} {k:IntKind} {i:Int} (D:ev l x=some (.string s)) (E:ev l y=some (.int k i)) (u:cI.tab P T=some ⟨.string,F,G,z⟩) (A:JE s=f) (h:0<=i∧i<f.length):
  Y P c n l M L ⟨d,.index T x y,H,e,b,g⟩ (.int .u8 (at' f i)):=λa w p t=>by
 subst A;obtain⟨I,m⟩:=h;obtain⟨j,rfl⟩:∃j:Nat,i=(j:Int):=⟨i.toNat,by omega⟩
 have o:j<s.data.toList.length:=by unfold JE at m;simp at m ⊢;omega
 have C:j<s.size:=by have:=Lib.size_eq s;simp at o;omega
 have B:s[j]? = some (s.data.toList[j]):=by
  rw[getElem?_pos s j C];rfl
 have v:at' (JE s) (j:Int)=((s.data.toList[j]).toNat:Int):=by
  unfold at' JE;simp[List.getD_eq_getElem?_getD,List.getElem?_eq_getElem o]
 rw[v];simp[execOp,p.eval D,p.eval E,Instr.index,asIntOf,(cI.ok u).run_und w,B]
theorem Re [cI P] {c:tZ} {n:Sz} {j:Fr} {d:Option Tmp} {F:TypeId} {i:String} {e:Array Edge} {g:Option (Nat×Bool)} {T E:TypeId} {A B C D m b:Nat} {z G:Value} {o:TypeDesc} {x l:Operand} {k:Int} (y:ev j x=some (.pointer (some ⟨b,0,none⟩))) (f:ev j l=some (.int .i64 k))
  (v:cI.tab P T=some ⟨.array m E,A,B,z⟩) (u:cI.tab P E=some ⟨o,C,D,G⟩) {q:Int} (h:0<=k∧k<=((m:Nat):Int)∧k<=q):Y P c n j M L ⟨d,.slice T x none (some l) none,F,i,e,g⟩ (.slice (some ⟨b,0,none⟩) k.toNat m):=λa w s t=>by
 have p:0<=k∧k<=(m:Int):=⟨h.1,h.2.1⟩
 simp[execOp,s.eval y,s.eval f,Instr.sliceAt,Instr.slice,(cI.ok v).run_und w,Instr.sliceBounds,Instr.sliceBound,asIntOf,(cI.ok u).run_size w,p,asAddr,Addr.add,Instr.sureAddr]
theorem Wr {e:cQ α} {i b T m:Nat} {k:Int} {a:List α} (t:M[i]? = some (bY b (cellsOf e a) T)) (c:e.Fits r) (h:0<=k∧k<=((m:Nat):Int)∧k<=(a.length:Int)) (p:m<=9223372036854775807):aF M L (Sl r (.slice (some ⟨b,0,none⟩) k.toNat m) (a.take k.toNat)):=λw S T U B f C v=>by
 have n:=f i _ t;have o:(a.take k.toNat).length=k.toNat:=by simp;omega
 refine⟨some ⟨b,0,none⟩,m,by rw[o],by rw[o];omega,.inr ⟨b,0,rfl,v _ _ n.1,λj x d=> ?_⟩⟩
 have l:a[j]? = some x:=by
  rw[List.getElem?_take]at d;split at d
  ·exact d
  ·cases d
 obtain⟨g,D,z,_⟩:=c;refine⟨e.enc x,λq u A=> ?_,z⟩
 have y:=vF e a _ _ l _ _ A;rw[g,Nat.zero_add];exact bY.cell n y
def eD.All (r:eD α) (n:Nat) (g:α->List Value):Prop:=r.sz=n∧∀{w S es x},r.R w S es x->es=g x
theorem QZ {e:cQ α} (h:e.Fits r):r.All e.sz e.enc:=⟨h.1,h.2.1⟩
theorem Q_ (q:eD β):(eD.sl q).All 1 (λx=>[x.1]):=⟨rfl,λh=>h.1⟩
theorem ML {n m:Nat} {f:α->List Value} {g:γ->List Value} (h:r.All n f) (k:s.All m g):(r.pair s).All (n+m) (λx=>f x.1++g x.2):=⟨by show r.sz+s.sz=_;rw[h.1,k.1],by
 rintro w S e x ⟨c,d,rfl,a,b⟩;rw[h.2 a,k.2 b]⟩
theorem Rc [cI P] [Inhabited α] {c:tZ} {n:Sz} {B:Fr} {d:Option Tmp} {O:TypeId} {o:String} {k:Array Edge} {g:Option (Nat×Bool)} {T:TypeId} {N q m:Nat} {z:Value} {p:TypeDesc} {x:Operand} {v:Value} {i:Int} {e:List α} {cs:List Value} {f:α->List Value} (K:ev B x=some (DT v (i.toNat*q))) (G:aF M L (Sl r v e)) (y:r.All m f) (l:f (at' e i)=cs)
  (E:cI.tab P T=some ⟨p,cs.length,N,z⟩) (F:xM p=true) (H:m=q) (h:0<=i∧i<e.length):Y P c n B M L ⟨d,.load T x,O,o,k,g⟩ (.agg cs.toArray):=λa w s t=>by
 obtain⟨C,D⟩:=h;obtain⟨S,h⟩:=G.st t;obtain⟨Q,I,b⟩:=sl_cell h (jB C D);have:=y.2 I;subst this l;rw[y.1,H]at b;have:=Bq (w:=w) (A:=JN v (i.toNat*q)) (cs:=f (at' e i)) (cI.ok E) F Z (λj u J=>by rw[IT];exact b j u J);simp[execOp,s.eval K,DT,this]
end
end Go.Sx
namespace Go.Sx
open Go.RowKit
section
variable {P:Program} {c:tZ} {n:Sz} {σ:Fr} {M L:List a_} {d:Option Tmp} {ty:TypeId} {pos:String} {aft:Array Edge} {g:Option (Nat×Bool)}
def age (v:Value) (m:Nat):Prop:=∃a e,v = .slice a m e∧(m=0∨∃b f,a=some ⟨b,f,none⟩)
theorem Know.len {f:Type} {r:eD f} {v:Value} {xs:List f} (j:aF M L (Sl r v xs)):∀c w,St c M L w->age v xs.length:=λc w t=>by
 obtain⟨S,i,cap,k,_,h⟩:=j.st t;exact⟨i,cap,k,h.imp (λh=>by simp[h]) fun⟨b,a,e,_⟩=>⟨b,a,e⟩⟩
theorem Jz [cI P] {T E:TypeId} {B C k D m:Nat} {z F:Value} {o:TypeDesc} {x y:Operand} {v:Value} {i:Int} (u:ev σ x=some v) (A:ev σ y=some (.int .i64 i)) (f:age v m)
  (s:cI.tab P T=some ⟨.slice E,B,C,z⟩) (r:cI.tab P E=some ⟨o,k,D,F⟩) (h:0<=i∧i<(m:Int)):Y P c n σ M L ⟨d,.indexAddr T x y,ty,pos,aft,g⟩ (DT v (i.toNat*k)):=λa w l t=>by
 obtain⟨G,e,rfl,f⟩:=f;obtain⟨p,q⟩:=h;rcases f with rfl|⟨b,j,rfl⟩
 ·omega
 ·simp[execOp,l.eval u,l.eval A,HP w (cI.ok s) Z (cI.ok r) b j _ e i p q]
theorem Js [cI P] (i:Nat) {T j:TypeId} {H m o b:Nat} {z:Value} {q:TypeDesc} {x y:Operand} {cs e us:List Value} {u:Value} (E:ev σ x=some (.pointer (some ⟨b,o,none⟩))) (G:ev σ y=some u) (l:u.cells=us.toArray) (B:us.length=m)
  (r:us.all one=true) (p:M[i]? = some (bY b cs j)) (A:cI.tab P T=some ⟨q,m,H,z⟩) (C:Nat.ble (o+m) cs.length=true) (k:cs.take o++us++cs.drop (o+m)=e):
  aN P c n σ M L ⟨none,.store T x y,ty,pos,aft,none⟩ (λ_:Unit=>undef) (λ_=>M.set i (bY b e j)) (λ_=>L):=λa w s t=>by
 subst B k;obtain⟨F,v⟩:=t.res p;have D:o+us.length<=cs.length:=by simpa using C
 have h:=run_storeCells_at P b o j us 0 cs.toArray w v.2 (by simp;omega) (λu l=>pU (List.all_eq_true.1 r u l));simp only[Nat.add_zero]at h;have f:(execOp a.eval ⟨none,.store T x y,ty,pos,aft,none⟩).run P w = .ok .skip (w.setRow b (cs.take o++us++cs.drop (o+us.length)).toArray):=by
  simp[execOp,s.eval E,s.eval G,Instr.storeAt,Instr.sureAddr,storeVar,l,(cI.ok A).run_size w,h]
 simp only[Oper.wp,f,Oper.upon];exact⟨(),trivial,t.fill p⟩
theorem KB {a:Type} [Inhabited a] (l:List a) (k:Int) (h:k.toNat<l.length) (b:0<=k):l.set k.toNat (at' l k)=l:=by
 have:=jB (xs:=l) b (by omega);refine List.ext_getElem? λi=> ?_;by_cases e:k.toNat=i
 ·subst e;rw[List.getElem?_set_self h,this]
 ·rw[List.getElem?_set_ne e]
theorem Dx [cI P] {l:Type} [Inhabited l] {e:cQ l} (j:Nat) {T:TypeId} {Q m o q:Nat} {z:Value} {C:TypeDesc} {x y:Operand} {u:Value} {us:List Value} {i k:Int} {vs:List Value} {b:List (List l)} (f:l) (A:0<=k∧k<b.length) (h:0<=i∧i<(at' b k).length) (N:ev σ x=some (DT (at' vs k) (i.toNat*q+o))) (O:ev σ y=some u)
  (v:M[j]? = some (jZ e vs b)) (I:e.sz=q) (K:u.cells=us.toArray) (G:us.length=m) (H:Nat.ble (o+m) q=true) (B:e.enc f=(e.enc (at' (at' b k) i)).take o++us++(e.enc (at' (at' b k) i)).drop (o+m)) (p:us.all one=true) (D:cI.tab P T=some ⟨C,m,Q,z⟩):
  aN P c n σ M L ⟨none,.store T x y,ty,pos,aft,none⟩ (λ_:Unit=>undef) (λ_=>M.set j (jZ e vs (b.set k.toNat ((at' b k).set i.toNat f)))) (λ_=>L):=λa w s t=>by
 have U:=dA j v c w t;have F:j<M.length:=(List.getElem?_eq_some_iff.1 v).1;refine mT (λS R ⟨x,E,J⟩=>⟨x,E,?_⟩) (Og 0 f h N O Z I K G H B p D a w s (Oz j v A c w t));have r:=Ov (j+1) 0 (u:=at' vs k) (k:=k) (vs:=vs) (xss:=b) (ys:=(at' b k).set i.toNat f) (e:=e) Z (by simp[F]) Z (by simpa using A) c R J;simp only[List.set_cons_zero,List.set_cons_succ,List.eraseIdx_cons_zero,List.set_set]at r;rw[KB vs k (by omega) A.1]at r;exact r
end
theorem aZ.ix {M a:List a_} (l:List Nat) (c:decide l.Nodup=true) (h:l.map (λi=>M[i]?)=a.map some):aZ M a:=by
 have c:l.Nodup:=of_decide_eq_true c;have k:l.length=a.length:=by simpa using congrArg List.length h
 refine⟨λi=>l.getD i 0,λi j b n e=> ?_,λi m d=> ?_⟩
 ·have f:i<l.length:=by omega
  have g:j<l.length:=by omega
  simp only[List.getD_eq_getElem?_getD,List.getElem?_eq_getElem f,List.getElem?_eq_getElem g,Option.getD_some]at e;exact(List.getElem_inj c).1 e
 ·have b:i<l.length:=by rw[k];exact(List.getElem?_eq_some_iff.1 d).1
  have:=congrArg (λq=>q[i]?) h;simp only[List.getElem?_map,List.getElem?_eq_getElem b,d,Option.map_some,Option.some.injEq]at this;simpa [List.getD_eq_getElem?_getD,List.getElem?_eq_getElem b]using this
def cQ.fn:cQ Nat:=⟨1,Nat.one_pos,λf=>[.func (.func f) #[] #[]],λ_=>rfl⟩
def eD.fn:eD Nat:=⟨1,Nat.one_pos,λ_ _ cs x=>cs=[.func (.func x) #[] #[]],λh=>by simp[h],λh _=>h⟩
theorem NZ:cQ.fn.Fits eD.fn:=⟨rfl,λh=>h,rfl,λ_=>rfl⟩
section
variable {P:Program} {rd:Option Nat} {c:tZ} {n:Sz} {σ:Fr} {M L:List a_} {Q:Exit->Act->World->Prop} {ops:Array Oper} {rest:List Oper} {d:Nat} {ty:TypeId} {pos:String} {aft:Array Edge} {x y:Operand} {v:Value} {K:Act->World->Prop}
abbrev vS (x:ByteArray):Value:= .string x
abbrev vB (x:Bool):Value:= .bool x
theorem dB {a:Type} {p G:Prop} {_:Decidable p} {u:Option a} {r:a} (h:ck p u=some r) (k:p->u=some r->G):G:=k (Tv h).1 (Tv h).2
theorem fU {a b:Type} {G:Prop} {u:Option a} {f:a->Option b} {r:b} (h:u.bind f=some r) (k:∀y,u=some y->f y=some r->G):G:=by
  obtain⟨y,e,g⟩:=bnd h;exact k y e g
theorem oO (l:List Nat) {a:List a_} (h:l.map (L[·]?)=a.map some):aG M L a:=λf b=>by
  have g:some f∈l.map (L[·]?):=h▸List.mem_map_of_mem b;obtain⟨j,_,e⟩:=List.mem_map.1 g;exact aF.fact j e
theorem zY.ix (l:List Nat) {a:List a_} (h:l.map (L[·]?)=a.map some):zY L a:=λf b=>by
  have g:some f∈l.map (L[·]?):=h▸List.mem_map_of_mem b;obtain⟨j,_,e⟩:=List.mem_map.1 g;exact List.mem_of_getElem? e
theorem lE {f:a_} (i:Nat) (h:L[i]? = some f):zY L [f]:=zY.cons (List.mem_of_getElem? h) zY.nil
/-- which of the early loads must still hold,with the numbers of what they have read -/
def bsW (A:Nat->Bool):List (List Nat×List Nat)->List (Nat×List a_×List a_)->List (List Nat×List Nat×List a_×List a_)
  |_,[]=>[]
  |q,(j,Mx,Lx)::B=>bif A j||(Mx.isEmpty&&Lx.isEmpty)then bsW A q B else((q.headD ([],[])).1,(q.headD ([],[])).2,Mx,Lx)::bsW A q.tail B
theorem vY {A:Nat->Bool} (q:List (List Nat×List Nat)) {B:List (Nat×List a_×List a_)} (h:(bsW A q B).map (λz=>(decide z.1.Nodup,z.1.map (M[·]?),z.2.1.map (L[·]?)))=(bsW A q B).map (λz=>(true,z.2.2.1.map some,z.2.2.2.map some))):An A M L B:=by
  induction B generalizing q with
  |nil=>exact An.z
  | cons b B ih =>
    obtain⟨j,k,i⟩:=b;cases a:A j with
    |true=>exact An.b a (ih q (by simpa [bsW,a]using h))
    | false =>
      cases g:(k.isEmpty&&i.isEmpty)with
      | true =>
        obtain⟨e,f⟩:=Bool.and_eq_true_iff.1 g;rw[List.isEmpty_iff]at e f;subst e;subst f;exact An.h aZ.nil zY.nil (ih q (by simpa [bsW,a]using h))
      | false =>
        simp only[bsW,a,g,Bool.or_self,cond_false,List.map_cons,List.cons.injEq,Prod.mk.injEq]at h;exact An.h (aZ.ix _ h.1.1 h.1.2.1) (zY.ix _ h.1.2.2) (ih q.tail h.2)
def hkB (A:Nat->Bool):List (Nat×List a_×List a_)->Bool
  | []=>true
  |(j,_,_)::H=>bif A j then hkB A H else false
theorem hkI {A:Nat->Bool} {f e:List a_} {H:List (Nat×List a_×List a_)} (h:hkB A H=true):aL A f e H:=by
  induction H with
  |nil=>exact aL.z
  | cons b B ih =>
    obtain⟨j,_,_⟩:=b;cases a:A j with
    |false=>simp[hkB,a]at h
    |true=>exact aL.b a (ih (by simpa [hkB,a]using h))
theorem hkN {A:Nat->Bool} {H:List (Nat×List a_×List a_)}:aL A [] [] H:=by
  induction H with
  |nil=>exact aL.z
  |cons b B a=>exact aL.h aZ.nil zY.nil a
theorem fM {T:Operand} (h:(ev σ T,ev σ x,Nat.blt d n.sz)=(some (.bool true),some v,true)) (k:J c n ((d,v)::σ) M L (wpList P ops Q rest)):J c n σ M L (wpList P ops Q (⟨some d,.pick T x y,ty,pos,aft,none⟩::rest)):=by
  simp only[Prod.mk.injEq]at h;exact aB (Te h.1 h.2.1) h.2.2 k
theorem iI {T:Operand} (h:(ev σ T,ev σ y,Nat.blt d n.sz)=(some (.bool false),some v,true)) (k:J c n ((d,v)::σ) M L (wpList P ops Q rest)):J c n σ M L (wpList P ops Q (⟨some d,.pick T x y,ty,pos,aft,none⟩::rest)):=by
  simp only[Prod.mk.injEq]at h;exact aB (Td h.1 h.2.1) h.2.2 k
theorem iS {vs:List Value} {i:Nat} (h:(ev σ x,vs[i]?,Nat.blt d n.sz)=(some (.tuple vs.toArray),some v,true)) (k:J c n ((d,v)::σ) M L (wpList P ops Q rest)):J c n σ M L (wpList P ops Q (⟨some d,.extract x i,ty,pos,aft,none⟩::rest)):=by
  simp only[Prod.mk.injEq]at h;exact aB (lZ h.1 h.2.1) h.2.2 k
theorem qO {t a:TypeId} {i:IntKind} {p q:Int} (h:(ev σ x,ev σ y,Nat.blt d n.sz)=(some (.int i p),some (.int i q),true)) (k:J c n ((d,.bool (decide (p≠q)))::σ) M L (wpList P ops Q rest)):J c n σ M L (wpList P ops Q (⟨some d,.binOp .neq t x y a,ty,pos,aft,none⟩::rest)):=by
  simp only[Prod.mk.injEq]at h;exact aB (Dg h.1 h.2.1) h.2.2 k
theorem zQ {t a:TypeId} {i:IntKind} {p q:Int} (h:(ev σ x,ev σ y,Nat.blt d n.sz)=(some (.int i p),some (.int i q),true)) (k:J c n ((d,.int i (dM i p q))::σ) M L (wpList P ops Q rest)):J c n σ M L (wpList P ops Q (⟨some d,.binOp .and t x y a,ty,pos,aft,none⟩::rest)):=by
  simp only[Prod.mk.injEq]at h;exact aB (Ta h.1 h.2.1) h.2.2 k
theorem kT [cI P] {b:Type} {r:eD b} {T E:TypeId} {f g:Nat} {z:Value} {a:List b} (e:aF M L (Sl r v a)) (h:(ev σ x,cI.tab P T,Nat.blt d n.sz)=(some v,some ⟨.slice E,f,g,z⟩,true)) (k:J c n ((d,.int .i64 a.length)::σ) M L (wpList P ops Q rest)):J c n σ M L (wpList P ops Q (⟨some d,.call ⟨.builtin .len,#[x],#[T]⟩,ty,pos,aft,none⟩::rest)):=by
  simp only[Prod.mk.injEq]at h;exact aB (h_ h.1 e h.2.1) h.2.2 k
variable {l:List Oper} {m:List Nat} {k0:Nat} {H Bs:List (Nat×List a_×List a_)} {rs:List Nat}
theorem iX {i a:Nat} {b:Op} (f:l[i]? = some ⟨some a,b,ty,pos,aft,none⟩) (k:Y P c n σ [] [] ⟨some a,b,ty,pos,aft,none⟩ v)
    (h:JR c n ((a,v)::σ) M L H ((i,[],[])::Bs) (RW P l.toArray Q (before m) (cN l) k0 rs))
    (g:Nat.blt i k0=true:=by exact rfl) (j:dV b=false:=by exact rfl) (e:Nat.blt a n.sz=true:=by exact rfl):JR c n σ M L H Bs (RW P l.toArray Q (before m) (cN l) k0 (i::rs)):=bK f aZ.nil zY.nil k hkN h g j e
end
end Go.Sx
namespace Go.Sx
abbrev aO:=List Int
abbrev fN:=List (Int×Int)
abbrev bE:=List aO
abbrev fO:=List fN
abbrev HU:=(ByteArray×(List (ByteArray×Int×Int×Int×Int×Int))×(List (ByteArray×(Value×fN)×(Value×List (Int×(Value×fN))))))×((ByteArray×(List (ByteArray×Int×Int×Int×Int×Int))×(List (ByteArray×(Value×fN)×(Value×List (Int×(Value×fN))))))×(aO×fO)×Int×bE)×fO
abbrev BH:=ByteArray×(List (ByteArray×Int×Int×Int×Int×Int))×(List (ByteArray×(Value×fN)×(Value×List (Int×(Value×fN)))))
abbrev NS:=((ByteArray×(List (ByteArray×Int×Int×Int×Int×Int))×(List (ByteArray×(Value×fN)×(Value×List (Int×(Value×fN))))))×(aO×fO)×Int×bE)×bE×Int×fN
abbrev Ba:=(List bE×(List (Int×Int×Int×Int×Int))×Int)
abbrev cG:=aO×fO
abbrev lJ:=List (Value×fN)
abbrev VR:=(ByteArray×(List (ByteArray×Int×Int×Int×Int×Int))×(List (ByteArray×(Value×fN)×(Value×List (Int×(Value×fN))))))×(aO×fO)×Int×bE
abbrev qF:=List (Value×aO)
abbrev Dt:=Int×aO×aO×aO×Bool×Bool
abbrev ab_:=(((ByteArray×(List (ByteArray×Int×Int×Int×Int×Int))×(List (ByteArray×(Value×fN)×(Value×List (Int×(Value×fN))))))×(aO×fO)×Int×bE)×bE×Int×fN)
abbrev fT:=List Value
abbrev Er:=ByteArray×Int×Int×Int×Int×Int
abbrev iQ:=(Int×Int)
abbrev Ip:=List (ByteArray×Int×Int×Int×Int×Int)
abbrev fF:=Int×Int
abbrev sZ:=((aO×fO))
abbrev kU:=Int×aO
abbrev qP:=(Int×aO)
abbrev Zi:=(Int×aO×Int×Int×Int×Int×Int×Int×bE×aO×(List (Int×Int×Int×Int×Int))×List bE)
abbrev Zj:=Int×aO×Int×Int×Int×Int×Int×Int×bE×aO×(List (Int×Int×Int×Int×Int))×List bE
abbrev Qm:=List bE×(List (Int×Int×Int×Int×Int))×Bool
abbrev Iq:=Int×(List ((Int×Int)×Int))
abbrev Zk:=(ByteArray×List (ByteArray×Int×Int×Int×Int×Int)×List (fN×List (Int×fN)))
abbrev KU:=List (fN×List (Int×fN))
abbrev Mn:=(Int×(List ((Int×Int)×Int)))
abbrev oC:=List Nat
abbrev Ir:=Int×Int×Int×Int×Int
abbrev Mo:=List (Int×Int×Int×Int×Int)
abbrev Qn:=(ByteArray×Int×Int×Int×Int×Int)
abbrev Mq:=Int×aO×fO×Int×bE
abbrev Is:=Value×List Value
abbrev zT:=List bE
abbrev acA:=Int×Int×Int×Int×Int×Int×aO×aO×bE×(List (Int×Int×Int×Int×Int))×List bE
abbrev acB:=(List (Int×Int×Int×Int×Int))×List bE×aO×aO×bE×Int×Int×Int×Int×Int×Int
abbrev Zl:=((List (ByteArray×Int×Int×Int×Int×Int)))
abbrev Zm:=(List (ByteArray×Int×Int×Int×Int×Int))
abbrev lH:Value:=Value.slice none 0 0
abbrev Qr:List Value:=[lH,lH,lH,vI (0:Int),vI (0:Int),vI (0:Int),vI (0:Int),vU (0:Int)]
abbrev vD1:List Value:=[Value.pointer none,lH,vI (0:Int),vU (0:Int),Value.nilFunc]
abbrev vD2:List Value:=[vI (0:Int),vI (0:Int),vI (0:Int),vI (0:Int),vU (0:Int)]
abbrev vD3:List Value:=[vS (ByteArray.mk #[]),vI (0:Int),vI (0:Int),vI (0:Int),vI (0:Int),vI (0:Int)]
abbrev V_:List Value:=[vI (0:Int),vI (0:Int)]
end Go.Sx
namespace Go.Sx
open Go.RowKit
section
variable {P:Program} {c:tZ} {n:Sz} {σ:Fr} {M L:List a_} {d:Option Tmp} {ty:TypeId} {pos:String} {aft:Array Edge} {g:Option (Nat×Bool)} {α:Type} {e:cQ α} {r:eD α}
def Cfg {α:Type} (e:cQ α) (v:Value) (l:List Value) (i:List (List α)):a_ where
 p w F:=∃A B:Nat->Prop,Dl cQ.raw w A v l∧(jZ e l i).p w B∧(∀k,A k->F k)∧(∀k,B k->F k)∧∀k,A k->¬B k
 mono:=by
  rintro w x S u ⟨A,B,s,t,m,o,q⟩ j;exact⟨λk=>A k∧k<w.heap.size,λk=>B k∧k<w.heap.size,(Ar cQ.raw v l).mono s λk f h=>⟨⟨f,h⟩,(j k (m k f) h).2⟩,(jZ e l i).mono t λk f h=>⟨⟨f,h⟩,(j k (o k f) h).2⟩,λk f=>(j k (m k f.1) f.2).1,λk f=>(j k (o k f.1) f.2).1,λk a b=>q k a.1 b.1⟩
def IP {α:Type} (e:cQ α) (vs:List Value) (m:List (List Value)) (b:List (List (List α))):a_ where
 p w F:=(vs.length=b.length∧m.length=b.length)∧∃G:Nat->Nat->Prop,(∀i v l a,vs[i]? = some v->m[i]? = some l->b[i]? = some a->(Cfg e v l a).p w (G i))∧(∀i k,G i k->F k)∧∀i j k,G i k->G j k->i=j
 mono:=by
  rintro w D S C ⟨y,G,s,o,t⟩ q;exact⟨y,λi k=>G i k∧k<w.heap.size,λi v l a z A B=>(Cfg e v l a).mono (s i v l a z A B) λk f h=>⟨⟨f,h⟩,(q k (o i k f) h).2⟩,λi k f=>(q k (o i k f.1) f.2).1,λi j k u x=>t i j k u.1 x.1⟩
theorem Aq (e:cQ α):oJ M L (IP e [] [] []::M) L:=oJ.add λw=>⟨⟨rfl,rfl⟩,λ_ _=>False,λi v f b a=>by simp at a,λ_ _ h=>h,λ_ _ _ h=>h.elim⟩
theorem S_ (i j:Nat) {v:Value} {f:List Value} {a:List (List α)} (b:Nat.beq i j=false) (m:M[i]? = some (Ar cQ.raw v f)) (o:M[j]? = some (jZ e f a)):oJ M L ((M.set i (Cfg e v f a)).eraseIdx j) L:=λc w t=>
 t.merge i j (λe=>by subst e;simp at b) m o λh k l=>⟨_,_,h,k,λ_=> .inl,λ_=> .inr,l⟩
theorem Jv (i j:Nat) {u:Value} {us:List Value} {p:List (List α)} {vs:List Value} {l:List (List Value)} {b:List (List (List α))} (x:Nat.beq i j=false) (O:M[i]? = some (IP e vs l b)) (Q:M[j]? = some (Cfg e u us p)):oJ M L ((M.set i (IP e (vs++[u]) (l++[us]) (b++[p]))).eraseIdx j) L:=λc w t=>
 t.merge i j (λe=>by subst e;simp at x) O Q (by
  rintro w S F ⟨⟨y,z⟩,G,H,s,I⟩ N C;refine⟨⟨by simp[y],by simp[z]⟩,λq k=>(q<vs.length∧G q k)∨(q=vs.length∧F k),?_,?_,?_⟩
  ·intro q v R B h m o;by_cases D:q<vs.length
   ·rw[List.getElem?_append_left D]at h;rw[List.getElem?_append_left (by omega)]at m o;exact a_.same (H q v R B h m o) (λk a=> .inl ⟨D,a⟩) (λ_ _ _=>rfl)
   ·rw[List.getElem?_append_right (by omega)]at h m o;have A:q - vs.length=0:=by have:=bD h;simp at this;omega
    rw[A]at h;rw[show q - l.length=0 by omega]at m;rw[show q - b.length=0 by omega]at o;simp at h m o;subst h;subst m;subst o;exact a_.same N (λk a=> .inr ⟨by omega,a⟩) (λ_ _ _=>rfl)
  ·rintro q k (⟨_,a⟩|⟨_,a⟩)
   ·exact .inl (s q k a)
   ·exact .inr a
  ·rintro q E k (⟨J,a⟩|⟨J,a⟩) (⟨K,f⟩|⟨K,f⟩)
   ·exact I q E k a f
   ·exact absurd f (C k (s q k a))
   ·exact absurd a (C k (s E k f))
   ·omega)
theorem Jw (i j:Nat) {us vs:List Value} {s m:List (List Value)} {h f:List (List (List α))} (B:Nat.beq i j=false) (T:M[i]? = some (IP e vs m f)) (U:M[j]? = some (IP e us s h)):oJ M L ((M.set i (IP e (vs++us) (m++s) (f++h))).eraseIdx j) L:=λc w t=>
 t.merge i j (λe=>by subst e;simp at B) T U (by
  rintro w V W ⟨⟨C,D⟩,G,O,z,Q⟩ ⟨⟨E,F⟩,N,y,l,A⟩ H;refine⟨⟨by simp[C,E],by simp[D,F]⟩,λq k=>(q<vs.length∧G q k)∨(vs.length<=q∧N (q - vs.length) k),?_,?_,?_⟩
  ·intro q v K u x o p;by_cases I:q<vs.length
   ·rw[List.getElem?_append_left I]at x;rw[List.getElem?_append_left (by omega)]at o p;exact a_.same (O q v K u x o p) (λk a=> .inl ⟨I,a⟩) (λ_ _ _=>rfl)
   ·rw[List.getElem?_append_right (by omega)]at x o p;rw[show q - m.length=q - vs.length by omega]at o;rw[show q - f.length=q - vs.length by omega]at p;exact a_.same (y _ v K u x o p) (λk a=> .inr ⟨by omega,a⟩) (λ_ _ _=>rfl)
  ·rintro q k (⟨_,a⟩|⟨_,a⟩)
   ·exact .inl (z q k a)
   ·exact .inr (l _ k a)
  ·rintro q J k (⟨R,a⟩|⟨R,a⟩) (⟨S,b⟩|⟨S,b⟩)
   ·exact Q q J k a b
   ·exact absurd (l _ k b) (H k (z q k a))
   ·exact absurd (l _ k a) (H k (z J k b))
   ·have:=A _ _ k a b;omega)
theorem pA (q:Nat) {vs:List Value} {b:List (List Value)} {a:List (List (List α))} (f:M[q]? = some (IP e vs b a)):∀c w,St c M L w->vs.length=a.length:=λc w t=>by
 obtain⟨_,h⟩:=t.res f;exact h.1.1
theorem vZ {j:Nat} {vs:List Value} {f:List (List Value)} {a:List (List (List α))} {k:Int} (x:M[j]? = some (IP e vs f a)) (b:e.Fits r) (h:0<=k) (s:k<a.length):aF M L (S2 r (at' vs k) ((at' f k).zip (at' a k)) (at' a k)):=λw S T U D u E v=>by
 obtain⟨⟨y,z⟩,G,o,p,_⟩:=u j _ x;obtain⟨A,B,t,i,l,m,_⟩:=o k.toNat _ _ _ (jB h (by omega)) (jB h (by omega)) (jB h s);refine⟨(Uh b t i).mono λq C _=>⟨v j q (p _ q (C.elim (l q) (m q))),rfl⟩,?_⟩
 rw[List.map_snd_zip];obtain⟨F,_⟩:=i;omega
theorem JA [cI P] (i j:Nat) {T E:TypeId} {o p:Nat} {z:Value} {x:Operand} {v:Value} {vs:List Value} {f:List (List Value)} {b:List (List (List α))} (m:ev σ x=some v) (k:M[i]? = some (Ar cQ.raw v vs)) (l:M[j]? = some (IP e vs f b))
  (h:cI.tab P T=some ⟨.slice E,o,p,z⟩):Y P c n σ M L ⟨d,.call ⟨.builtin .len,#[x],#[T]⟩,ty,pos,aft,g⟩ (.int .i64 b.length):=λa w s t=>by
 rw[<-pA j l c w t];exact acV i m k h a w s t
theorem Jr (i:Nat) {v:Value} {l:List α} (j:M[i]? = some (Ar e v l)):∀c w,St c M L w->Sx.one v=true:=λc w t=>by
 obtain⟨_,_,_,h⟩:=t.res j;rcases h with⟨q,_⟩|⟨b,k,a,T,f,q,_⟩<;>rw[q]<;>rfl
end
end Go.Sx
namespace Go.Proofs.YtlkhndebimcbbaaGreatDoor
open Go.Sx
def IR:aO:=[0,1,1,2,1,2,2,3,1,2,2,3,2,3,3,4,1,2,2,3,2,3,3,4,2,3,3,4,3,4,4,5,1,2,2,3,2,3,3,4,2,3,3,4,3,4,4,5,2,3,3,4,3,4,4,5,3,4,4,5,4,5,5,6,1,2,2,3,2,3,3,4,2,3,3,4,3,4,4,5,2,3,3,4,3,4,4,5,3,4,4,5,4,5,5,6,2,3,3,4,3,4,4,5,3,4,4,5,4,5,5,6,3,4,4,5,4,5,5,6,4,5,5,6,5,6,6,7,1,2,2,3,2,3,3,4,2,3,3,4,3,4,4,5,2,3,3,4,3,4,4,5,3,4,4,5,4,5,5,6,2,3,3,4,3,4,4,5,3,4,4,5,4,5,5,6,3,4,4,5,4,5,5,6,4,5,5,6,5,6,6,7,2,3,3,4,3,4,4,5,3,4,4,5,4,5,5,6,3,4,4,5,4,5,5,6,4,5,5,6,5,6,6,7,3,4,4,5,4,5,5,6,4,5,5,6,5,6,6,7,4,5,5,6,5,6,6,7,5,6,6,7,6,7,7,8]
theorem M_:JE (ByteArray.mk #[0,1,1,2,1,2,2,3,1,2,2,3,2,3,3,4,1,2,2,3,2,3,3,4,2,3,3,4,3,4,4,5,1,2,2,3,2,3,3,4,2,3,3,4,3,4,4,5,2,3,3,4,3,4,4,5,3,4,4,5,4,5,5,6,1,2,2,3,2,3,3,4,2,3,3,4,3,4,4,5,2,3,3,4,3,4,4,5,3,4,4,5,4,5,5,6,2,3,3,4,3,4,4,5,3,4,4,5,4,5,5,6,3,4,4,5,4,5,5,6,4,5,5,6,5,6,6,7,1,2,2,3,2,3,3,4,2,3,3,4,3,4,4,5,2,3,3,4,3,4,4,5,3,4,4,5,4,5,5,6,2,3,3,4,3,4,4,5,3,4,4,5,4,5,5,6,3,4,4,5,4,5,5,6,4,5,5,6,5,6,6,7,2,3,3,4,3,4,4,5,3,4,4,5,4,5,5,6,3,4,4,5,4,5,5,6,4,5,5,6,5,6,6,7,3,4,4,5,4,5,5,6,4,5,5,6,5,6,6,7,4,5,5,6,5,6,6,7,5,6,6,7,6,7,7,8])=IR:=by kernel_rfl
def w_:aO:=[0,1,28,2,29,14,24,3,30,22,20,15,25,17,4,8,31,27,13,23,21,19,16,7,26,12,18,6,11,5,10,9]
theorem _root_.Go.Sx.Y.bld5 {P:Program} {c:tZ} {n:Sz} {a:Fr} {M L:List a_} {d:Option Tmp} {E:TypeId} {k:String} {j:Array Edge} {g:Option (Nat×Bool)} {T:TypeId} {b e f h i:Nat} {s t u v x:Operand} {l m o p q:Value} {r:Value} (y:ev a s=some l) (z:ev a t=some m) (A:ev a u=some o) (B:ev a v=some p) (C:ev a x=some q) (D:∀w,(Instr.build T ([(b,l),(e,m),(f,o),(h,p),(i,q)]:List (Nat×Value)).toArray).run P w = .ok r w):Y P c n a M L ⟨d,.build T #[(b,s),(e,t),(f,u),(h,v),(i,x)],E,k,j,g⟩ r:=
 Ak (ps:=[(b,s),(e,t),(f,u),(h,v),(i,x)]) (vs:=[(b,l),(e,m),(f,o),(h,p),(i,q)]) (by simp[y,z,A,B,C]) D
abbrev ESt:cQ ByteArray:=⟨1,Nat.one_pos,λx=>[.string x],λ_=>rfl⟩
abbrev RSt:eD ByteArray:=⟨1,Nat.one_pos,λ_ _ a x=>a=[.string x],λh=>by simp[h],λh _=>h⟩
theorem FSt:ESt.Fits RSt:=⟨rfl,λh=>h,rfl,λ_=>rfl⟩
abbrev bX:cQ Int:=cQ.int .i64
abbrev bO:eD Int:=eD.int .i64
theorem dC:bX.Fits bO:=FZ .i64
theorem cX:bO.Cell 0 (λx=> .int .i64 x):=Ge .i64
abbrev iD:cQ Qn:=cQ.pair ESt (cQ.pair bX (cQ.pair bX (cQ.pair bX (cQ.pair bX (bX)))))
abbrev aR:eD Qn:=eD.pair RSt (eD.pair bO (eD.pair bO (eD.pair bO (eD.pair bO (bO)))))
theorem iF:iD.Fits aR:=iO FSt (iO dC (iO dC (iO dC (iO dC (dC)))))
theorem xF:aR.Cell 1 (λx=> .int .i64 x.2.1):=cR (pB (cX))
theorem Dn:aR.Cell 2 (λx=> .int .i64 x.2.2.1):=cR (cR (pB (cX)))
theorem Do:aR.Cell 3 (λx=> .int .i64 x.2.2.2.1):=cR (cR (cR (pB (cX))))
theorem Dp:aR.Cell 4 (λx=> .int .i64 x.2.2.2.2.1):=cR (cR (cR (cR (pB (cX)))))
theorem Dq:aR.Cell 5 (λx=> .int .i64 x.2.2.2.2.2):=cR (cR (cR (cR (cR (cX)))))
abbrev b_:cQ iQ:=cQ.pair bX (bX)
abbrev bA:eD iQ:=eD.pair bO (bO)
theorem bU:b_.Fits bA:=iO dC (dC)
theorem Ao:bA.Cell 0 (λx=> .int .i64 x.1):=pB (cX)
theorem QX:bA.Cell 1 (λx=> .int .i64 x.2):=cR (cX)
abbrev qT:eD (Int×(Value×fN)):=eD.pair bO ((eD.sl bA))
theorem K_:qT.All 2 (λx=>[Value.int .i64 (x.1),x.2.1]):=(ML (QZ dC) (Q_ bA))
theorem Dc:qT.Deep bA (λx=>x.2):=Ey (Dy bA)
abbrev aJ:eD (ByteArray×(Value×fN)×(Value×List (Int×(Value×fN)))):=eD.pair RSt (eD.pair (eD.sl bA) ((eD.sl qT)))
theorem zV:aJ.Cell 1 (λx=>x.2.1.1):=cR (pB (eD.sl_cell bA))
theorem zX:aJ.Deep bA (λx=>x.2.1):=Ey (UN (Dy bA))
theorem zW:aJ.Cell 2 (λx=>x.2.2.1):=cR (cR (eD.sl_cell qT))
theorem gC:aJ.Deep qT (λx=>x.2.2):=Ey (Ey (Dy qT))
abbrev EFn:cQ Nat:=cQ.fn
abbrev RFn:eD Nat:=eD.fn
theorem FFn:EFn.Fits RFn:=NZ
abbrev IJ:cQ (Int×Nat):=cQ.pair bX (EFn)
abbrev ZU:eD (Int×Nat):=eD.pair bO (RFn)
theorem Bb:IJ.Fits ZU:=iO dC (FFn)
abbrev EBo:cQ Bool:=cQ.bool
abbrev oZ:cQ Int:=cQ.int .u32
abbrev yZ:eD Int:=eD.int .u32
theorem uV:oZ.Fits yZ:=FZ .u32
theorem Hp:yZ.Cell 0 (λx=> .int .u32 x):=Ge .u32
abbrev HY:cQ Int:=cQ.int .u8
abbrev cJ:cQ (Int×Int×Int×Int×Int):=cQ.pair bX (cQ.pair bX (cQ.pair bX (cQ.pair bX (oZ))))
abbrev Gc:eD (Int×Int×Int×Int×Int):=eD.pair bO (eD.pair bO (eD.pair bO (eD.pair bO (yZ))))
theorem jK:cJ.Fits Gc:=iO dC (iO dC (iO dC (iO dC (uV))))
def Qs (x:Int):Value:=Value.int .i64 (x)
def mV (x:fF):Value:=Value.agg #[Value.int .i64 (x.1),Value.int .i64 (x.2)]
theorem Yi (x y:fF) (m:Nat) (w:World):(Op.equalIn (m+2) 138 (.agg #[.int .i64 x.1,.int .i64 x.2]) (.agg #[.int .i64 y.1,.int .i64 y.2])).run Tryz.prog w = .ok (decide (x=y)) w:=by
 have c:∀a b:Int,(Op.equalIn (m+1) 3 (.int .i64 a) (.int .i64 b)).run Tryz.prog w = .ok (a==b) w:=by
  intro a b;simp[Op.equalIn]
 unfold Op.equalIn;simp[show List.range' 0 2=[0,1]from rfl,part,isAgg,c];obtain⟨d,e⟩:=x;obtain⟨f,g⟩:=y;by_cases h:d=f<;>by_cases i:e=g<;>simp[h,i,c]
theorem Xk (b:Bool) (k:fF) (w:World):(Instr.checkKey b 10000 138 (mV k)).run Tryz.prog w = .ok () w:=by
 have a:∀m:Nat,(Instr.checkKey b (m+2) 138 (mV k)).run Tryz.prog w = .ok () w:=by
  intro m;simp[Instr.checkKey,mV,part,isAgg,show List.range' 0 2=[0,1]from rfl]
 exact a 9998
theorem Nq:Jq Tryz.prog 138 mV:=QT Tryz.underlying138 Xk (λ_ _=>rfl) (λa b w=>Yi a b 9998 w) (λk=>by
 have c:∀m:Nat,Instr.sameBits (m+2) (mV k) (mV k)=true:=λm=>by simp[Instr.sameBits,mV]
 exact c 9998)
theorem nT (b:Value) (c:one b=true) (a:Array Value) (h:a.size=1*1):Instr.fill (λi=>some (i*1,1)) a [(0,b)]=some [b].toArray:=by
 obtain⟨l⟩:=a
 match l,h with
 | [z0],_=>simp[Instr.fill,eI c]
theorem yR (b c:Value) (a:Array Value) (h:a.size=1*2):Instr.fill (λi=>some (i*2,2)) a [(0,.agg #[b,c])]=some [b,c].toArray:=by
 obtain⟨l⟩:=a
 match l,h with
 | [z0,z1],_=>simp[Instr.fill,Value.cells]
theorem O_ (b c d e f:Value) (a:Array Value) (h:a.size=1*5):Instr.fill (λi=>some (i*5,5)) a [(0,.agg #[b,c,d,e,f])]=some [b,c,d,e,f].toArray:=by
 obtain⟨l⟩:=a
 match l,h with
 | [z0,z1,z2,z3,z4],_=>simp[Instr.fill,Value.cells]
theorem JW (b c:Value) (d:one b=true) (e:one c=true) (a:Array Value) (h:a.size=2*1):Instr.fill (λi=>some (i*1,1)) a [(0,b),(1,c)]=some [b,c].toArray:=by
 obtain⟨l⟩:=a
 match l,h with
 | [z0,z1],_=>simp[Instr.fill,eI d,eI e]
theorem JX (d e f g j k m n o p b c:Value) (a:Array Value) (h:a.size=2*6):Instr.fill (λi=>some (i*6,6)) a [(0,.agg #[d,e,f,g,j,k]),(1,.agg #[m,n,o,p,b,c])]=some [d,e,f,g,j,k,m,n,o,p,b,c].toArray:=by
 obtain⟨l⟩:=a
 match l,h with
 | [z0,z1,z2,z3,z4,z5,z6,z7,z8,z9,z10,z11],_=>simp[Instr.fill,Value.cells]
theorem XK (b c d e f g:Value) (a:Array Value) (h:a.size=3*2):Instr.fill (λi=>some (i*2,2)) a [(0,.agg #[b,c]),(1,.agg #[d,e]),(2,.agg #[f,g])]=some [b,c,d,e,f,g].toArray:=by
 obtain⟨l⟩:=a
 match l,h with
 | [z0,z1,z2,z3,z4,z5],_=>simp[Instr.fill,Value.cells]
theorem XL (b c d e:Value) (f:one b=true) (g:one c=true) (j:one d=true) (k:one e=true) (a:Array Value) (h:a.size=4*1):Instr.fill (λi=>some (i*1,1)) a [(0,b),(1,c),(2,d),(3,e)]=some [b,c,d,e].toArray:=by
 obtain⟨l⟩:=a
 match l,h with
 | [z0,z1,z2,z3],_=>simp[Instr.fill,eI f,eI g,eI j,eI k]
theorem XM (b c d e f g:Value) (j:one b=true) (k:one c=true) (m:one d=true) (n:one e=true) (o:one f=true) (p:one g=true) (a:Array Value) (h:a.size=6*1):Instr.fill (λi=>some (i*1,1)) a [(0,b),(1,c),(2,d),(3,e),(4,f),(5,g)]=some [b,c,d,e,f,g].toArray:=by
 obtain⟨l⟩:=a
 match l,h with
 | [z0,z1,z2,z3,z4,z5],_=>simp[Instr.fill,eI j,eI k,eI m,eI n,eI o,eI p]
def uG  (a:aO):Option aO:=
 some (a)
def qK (c:Int×aO×aO) (b:(Int×aO×aO)->Option aO) (a:aO×aO):Option aO:=
 b ((wI .i64 (c.1+(1:Int))),a.1,a.2)
def qL (c:cG) (b:aO×aO) (e:(aO×aO)->Option aO) (a:Int×aO×aO) (d:(Int×aO×aO)->Option aO):Option aO:=
 if a.1<(List.length (at' c.2 (at' b.1 (0:Int))):Int)then(ck (0<=a.1∧a.1<(List.length (at' c.2 (at' b.1 (0:Int))):Int)) (ck (0<=((at' (at' c.2 (at' b.1 (0:Int))) a.1).1)∧((at' (at' c.2 (at' b.1 (0:Int))) a.1).1)<(List.length a.2.2:Int)) (if(at' a.2.2 ((at' (at' c.2 (at' b.1 (0:Int))) a.1).1))<(0:Int)then(ck (0<=(at' b.1 (0:Int))∧(at' b.1 (0:Int))<(List.length a.2.2:Int)) (ck (0<=((at' (at' c.2 (at' b.1 (0:Int))) a.1).1)∧((at' (at' c.2 (at' b.1 (0:Int))) a.1).1)<(List.length a.2.2:Int)) (ck ((List.length a.2.1:Int)+(List.length ([((at' (at' c.2 (at' b.1 (0:Int))) a.1).1)]):Int)<=1099511627) (qK a d ((a.2.1++([((at' (at' c.2 (at' b.1 (0:Int))) a.1).1)])),(List.set a.2.2 (Int.toNat ((at' (at' c.2 (at' b.1 (0:Int))) a.1).1)) (wI .i64 ((at' a.2.2 (at' b.1 (0:Int)))+(1:Int)))))))))else(qK a d (a.2.1,a.2.2)))))else(e (a.2.1,a.2.2))
def nK (U:Nat) (c:cG) (a:aO×aO) (b:(aO×aO)->Option aO):Option aO:=
 if(0:Int)<(List.length a.1:Int)then(ck (0<=(0:Int)∧(0:Int)<(List.length a.1:Int)) (ck (0<=(1:Int)∧(1:Int)<=(List.length a.1:Int)) (ck (0<=(at' a.1 (0:Int))∧(at' a.1 (0:Int))<(List.length c.2:Int)) (bL (qL c a b) U ((0:Int),(List.drop (Int.toNat (1:Int)) a.1),a.2)))))else(uG  (a.2))
def zC (U:Nat) (c:cG) (a:Int) (b:aO):Option aO:=
 ck (0<=a∧a<(List.length b:Int)) (bL (nK U c) U (([a]),(List.set b (Int.toNat a) (0:Int))))
def zD (U:Nat) (c:cG) (d:Int) (a:kU) (b:qP->Option aO):Option aO:=
 if a.1<(List.length (List.replicate (Int.toNat (List.length c.2:Int)) (0:Int)):Int)then(ck (0<=a.1∧a.1<(List.length a.2:Int)) (b ((wI .i64 (a.1+(1:Int))),(List.set a.2 (Int.toNat a.1) (-1:Int)))))else(zC U c d (a.2))
def jQ (U:Nat) (a:cG) (b:Int):Option aO:=
 ck (0<=(List.length a.2:Int)∧(List.length a.2:Int)<=1099511627) (bL (zD U a b) U ((0:Int),(List.replicate (Int.toNat (List.length a.2:Int)) (0:Int))))
theorem Xb:aU Tryz.prog 61:=Tryz.call61
theorem Em (U:Nat) {d:cG} {o:Int} (s:Value)  (t:Value)  (M:lJ) (r:aO) (h:jQ U d o=some r):
  aY Tryz.prog 61 #[Value.agg #[s,t],vI (o)] [Sl bO s d.1,S2 bA t M d.2] (λx:Value=>x) (λx l=>Ar bX x r::l) (λ_ l=>l):=by
 refine aY.of Tryz.func61 Z Tryz.ntmps61 Z λc=>?_;refine aW<|aH (aN.box (cs:=[s,t]) Z Z) Z λp=>aE Z<|aM<|aW<|bW Z<|dN 0 Z<|aB (gQ Z (aF.fact 1 Z) Z) Z<|dB h λQ h=>aH (mC (e:=bX) (0:Int) Z Z Z Z Q Z Z Z) Z λk=>aE Z<|aM<|aK<|eS (λu=>zC U d o u=some r) (λu N=>[(1,vI (o)),(2,vP p),(5,k)]) (λu N=>[Ar bX k u,bY p [s,t] 28]) ?_ ?_
 ·refine aW<|aA Z<|aB (h_ Z (bF (aF.res 0 Z) dC) Z) Z<|aA Z<|aM<|aT<|eV (zD U d o) (λg w=>[(1,vI (o)),(2,vP p),(5,k),(16,vI (List.length (List.replicate (Int.toNat (List.length d.2:Int)) (0:Int)):Int)),(17,vI (g.1))]) (λg w=>[Ar bX k g.2,bY p [s,t] 28]) ((0:Int),(List.replicate (Int.toNat (List.length d.2:Int)) (0:Int))) () h SF (aZ.refl _) ?_;intro R g w h;refine aW<|cY Z<|aM<|aK ?_;refine fJ h Z (λh=>?_) λh=>?_
  ·refine cU<|aK<|aT<|aW<|aA Z<|aE Z<|aM<|aS<|aA Z<|aA Z<|dB h λF h=>aB (bB Z Z (bF (aF.res 0 Z) dC) Z Z F) Z<|yM 0 (-1:Int) F Z Z Z Z Z Z Z<|eM<|oD<|aS<|cL Z<|aA Z<|aM ?_;exact Al ((wI .i64 (g.1+(1:Int))),(List.set g.2 (Int.toNat g.1) (-1:Int))) () h SF Z
  refine fV ?_;exact jG (g.2) () h SF Z
 intro u N h;refine aW<|aA Z<|aA Z<|dB h λO h=>aB (bB Z Z (bF (aF.res 0 Z) dC) Z Z O) Z<|yM 0 (0:Int) O Z Z Z Z Z Z Z<|aM<|aW<|aA Z<|aH (cA (e:=bX) ([o]) [(0,vI (o))] Z Z Z Z (nT (vI (o)) Z) Z Z Z) Z λT=>aE Z<|aM<|aK<|eS (λm=>uG  m=some r) (λm v=>[(5,k)]) (λm v=>[Ar bX k m]) ?_ ?_
 ·refine aT<|eV (B:=Value) (nK U d) (λa q=>[(2,vP p),(5,k),(7,q)]) (λa q=>[Ar bX q a.1,Ar bX k a.2,bY p [s,t] 28]) (([o]),(List.set u (Int.toNat o) (0:Int))) (T) h SF (aZ.refl _) ?_;intro G a q h;refine aK<|aW<|aA Z<|aB (h_ Z (bF (aF.res 0 Z) dC) Z) Z<|aB (yP Z Z) Z<|aM ?_;refine fJ h Z (λh=>?_) λh=>?_
  ·refine cU<|aT<|aW<|aA Z<|dB h λy h=>aB (bB Z Z (bF (aF.res 0 Z) dC) Z Z y) Z<|aB (bS Z (bF (aF.res 0 Z) dC) Z Z Z cX y) Z<|aE Z<|aM<|aW<|aA Z<|dB h λH h=>aH (Od 0 H Z Z Z Z Z Z) Z λK=>aE Z<|aM<|aW<|bW Z<|dN 2 Z<|aA Z<|dB h λi h=>aB (cC Z Z (aF.fact 1 Z) Z Z i) Z<|aB (cE Z (aF.fact 1 Z) Z Z i) Z<|aB (h_ Z (aF.el (aF.fact 1 Z) i.1 i.2) Z) Z<|aA Z<|aM<|aT<|eV (B:=Value) (qL d a (bL (nK U d) G)) (λb j=>[(2,vP p),(5,k),(7,j),(8,vI (at' a.1 (0:Int))),(41,(at' M (at' a.1 (0:Int))).1),(42,vI (List.length (at' d.2 (at' a.1 (0:Int))):Int)),(43,vI (b.1))]) (λb j=>[Ar bX j b.2.1,Ar bX k b.2.2,bY p [s,t] 28]) ((0:Int),(List.drop (Int.toNat (1:Int)) a.1),a.2) (K) h SF (aZ.refl _) ?_;intro J b j h;refine aW<|cY Z<|aM<|aK ?_;refine fJ h Z (λh=>?_) λh=>?_
   ·refine cU<|aK<|ER (B:=Value) (λf=>qK b (bL (qL d a (bL (nK U d) G)) J) f=some r) (λf n=>[(2,vP p),(5,k),(7,n),(8,vI (at' a.1 (0:Int))),(41,(at' M (at' a.1 (0:Int))).1),(42,vI (List.length (at' d.2 (at' a.1 (0:Int))):Int)),(43,vI (b.1))]) (λf n=>[Ar bX n f.1,Ar bX k f.2,bY p [s,t] 28]) ?_ ?_
    ·refine aT<|aW<|dB h λA h=>aB (bB Z Z (aF.el (aF.fact 1 Z) i.1 i.2) Z Z A) Z<|aB (jM (cs:=[vI ((at' (at' d.2 (at' a.1 (0:Int))) b.1).1),vI ((at' (at' d.2 (at' a.1 (0:Int))) b.1).2)]) Z (aF.el (aF.fact 1 Z) i.1 i.2) bU Z Z Z Z A) Z<|aH (aN.alloc (cs:=V_) Z Z) Z λP=>bT 0 (vs:=[vI ((at' (at' d.2 (at' a.1 (0:Int))) b.1).1),vI ((at' (at' d.2 (at' a.1 (0:Int))) b.1).2)]) Z Z Z Z Z Z<|aM<|aW<|aA Z<|bW Z<|dN 0 Z<|dB h λC h=>aB (bB Z Z (bF (aF.res 2 Z) dC) Z Z C) Z<|aB (bS Z (bF (aF.res 2 Z) dC) Z Z Z cX C) Z<|cY Z<|aM ?_;refine fJ h Z (λh=>?_) λh=>?_
     ·refine aK ?_;refine JR.start [0,0,2,0,0,24,56,120,255,511] 8 mixedOrders (by decide +kernel) ?_;refine JR.open (by exact rfl) ?_;refine bH Z<|dD Z<|jO 0 Z<|bH Z<|bH Z<|dB h λD h=>bK Z (aZ.cons 2 Z .nil) .nil (bB Z Z (bF (aF.res 0 Z) dC) Z Z D) aL.z<|bK Z (aZ.cons 2 Z .nil) .nil (bS Z (bF (aF.res 0 Z) dC) Z Z Z cX D) aL.z<|iX Z (y_ Z Z)<|bQ 8 Z Z<|dB h λE h=>aB (bB Z Z (bF (aF.res 2 Z) dC) Z Z E) Z<|yM 2 (wI .i64 ((at' b.2.2 (at' a.1 (0:Int)))+(1:Int))) E Z Z Z Z Z Z Z<|aM<|aS<|aA Z<|bW Z<|dN 0 Z<|aH (cA (e:=bX) ([((at' (at' d.2 (at' a.1 (0:Int))) b.1).1)]) [(0,vI ((at' (at' d.2 (at' a.1 (0:Int))) b.1).1))] Z Z Z Z (nT (vI ((at' (at' d.2 (at' a.1 (0:Int))) b.1).1)) Z) Z Z Z) Z λS=>dB h λI h=>aH (eW 2 dC Z Z Z (bF (aF.res 0 Z) dC) Z Z Z Z I Z) Z λL=>aE Z<|eM<|oD ?_;exact cK ((b.2.1++([((at' (at' d.2 (at' a.1 (0:Int))) b.1).1)])),(List.set b.2.2 (Int.toNat ((at' (at' d.2 (at' a.1 (0:Int))) b.1).1)) (wI .i64 ((at' b.2.2 (at' a.1 (0:Int)))+(1:Int))))) (L) h SF (aZ.ix [2,3,4] Z Z) (aG.refl _ _)
     refine dO<|oD ?_;exact cK (b.2.1,b.2.2) (j) h SF (aZ.ix [1,2,3] Z Z) (aG.refl _ _)
    intro f n h;unfold qK at h;refine aS<|cL Z<|aA Z<|aM ?_;exact Al ((wI .i64 (b.1+(1:Int))),f.1,f.2) (n) h SF Z
   refine s_<|fW<|fW<|zO<|oD ?_;exact Al (b.2.1,b.2.2) (j) h SF Z
  refine fV ?_;exact cK (a.2) () h SF (aZ.ix [1] Z Z) (aG.refl _ _)
 intro m v h;unfold uG at h;refine aW<|aA Z<|aE Z<|aM<|aV ?_;cases h;exact hZ (k) Z Z (RV.tmp Z) (aZ.refl _) aG.nil
def nA  (a:Unit):Option (Bool):=
 some (true)
def iM (d:aO) (a:Int×List (Bool)) (c:(Int×List (Bool))->Option (Bool)) (b:Bool):Option (Bool):=
 if b=true then(some (false))else(ck ((0<=(at' d a.1)∧(at' d a.1)<((256:Nat):Int))∧List.length a.2=256) (c ((wI .i64 (a.1+(1:Int))),(List.set a.2 (Int.toNat (at' d a.1)) true))))
def f_ (b:aO) (a:Int×List (Bool)) (c:(Int×List (Bool))->Option (Bool)):Option (Bool):=
 if a.1<(List.length b:Int)then(ck (0<=a.1∧a.1<(List.length b:Int)) (if(at' b a.1)<(0:Int)then(iM b a c (true))else(if(255:Int)<(at' b a.1)then(iM b a c (true))else(ck ((0<=(at' b a.1)∧(at' b a.1)<((256:Nat):Int))∧List.length a.2=256) (iM b a c ((at' a.2 (at' b a.1))))))))else(nA  (()))
def jF (U:Nat) (a:aO):Option (Bool):=
 bL (f_ a) U ((0:Int),(List.replicate 256 false))
theorem aas:aU Tryz.prog 118:=Tryz.call118
theorem El (U:Nat) {d:aO} (n:Value) (r:Bool) (h:jF U d=some r):
  aY Tryz.prog 118 #[n] [Sl bO n d] (λx:Unit=>vB (r)) (λx l=>l) (λ_ l=>l):=by
 refine aY.of Tryz.func118 Z Tryz.ntmps118 Z λc=>?_;unfold jF at h;refine aW<|aE Z<|aM<|aW ?_;refine aH (aN.alloc (cs:=cellsOf EBo (List.replicate 256 false)) Z (by kernel_rfl)) Z λm=>?_;refine aM<|aK<|eS (λk=>nA  k=some r) (λk o=>[]) (λk o=>[]) ?_ ?_
 ·refine aW<|aA Z<|kT (aF.fact 0 Z) Z<|aA Z<|aM<|aT<|eV (f_ d) (λa p=>[(3,vP m),(6,n),(7,vI (List.length d:Int)),(8,vI (a.1))]) (λa p=>[bY m (cellsOf EBo a.2) 203]) ((0:Int),(List.replicate 256 false)) () h SF (aZ.refl _) ?_;intro q a p h;refine aW<|cY Z<|aM<|aK ?_;refine fJ h Z (λh=>?_) λh=>?_
  ·refine cU<|aK<|aT<|aW<|dB h λg h=>aB (bB Z Z (aF.fact 0 Z) Z Z g) Z<|aB (bS Z (aF.fact 0 Z) Z Z Z cX g) Z<|aE Z<|aM<|aK<|aK<|eS (λb=>iM d a (bL (f_ d) q) b=some r) (λb f=>[(3,vP m),(5,vI (at' d a.1)),(6,n),(7,vI (List.length d:Int)),(8,vI (a.1)),(22,vB (b))]) (λb f=>[bY m (cellsOf EBo a.2) 203]) ?_ ?_
   ·refine aS<|aA Z<|cY Z<|aA Z ?_;refine FG h Z (λ_ h=>?_) λ_ h=>?_
    ·refine aP Z<|aP Z<|fM Z<|aA Z<|aP Z<|aP Z<|aP Z<|fM Z<|aM ?_;exact jG (true) () h SF Z
    refine eR Z<|aX Z (yP Z Z) Z<|iI Z<|aA Z ?_;refine FG h Z (λ_ h=>?_) λ_ h=>?_
    ·refine aP Z<|aP Z<|aP Z<|fM Z<|aM ?_;exact jG (true) () h SF Z
    refine eR Z<|dB h λj h=>aX Z (oE Z Z Z Z Z j.1) Z<|aX Z (UR (e:=EBo) Z (aF.res 0 Z) Z Z Z Z j) Z<|iI Z<|aM ?_;exact jG ((at' a.2 (at' d a.1))) () h SF Z
   intro b f h;refine BM h Z (λ_ h=>?_) λ_ h=>?_
   ·refine aW<|aE Z<|aM<|aV<|aI<|bP<|aI<|aI<|bP<|aI ?_;cases h;exact vN Z
   refine cU<|aS<|aA Z<|dB h λi h=>aB (oE Z Z Z Z Z i.1) Z<|Jo 0 (e:=EBo) true i Z Z Z Z Z Z Z<|eM<|oD<|aS<|cL Z<|aA Z<|aM ?_;exact Al ((wI .i64 (a.1+(1:Int))),(List.set a.2 (Int.toNat (at' d a.1)) true)) () h SF Z
  refine fV ?_;exact cK () (()) h SF .nil (aG.refl _ _)
 intro k o h;unfold nA at h;refine aW<|aE Z<|aM<|aV ?_;cases h;exact lP Z
def uW (c:(List ((Int×Int)×Int))) (a:(Int×Int)×Int) (b:Option (Bool)):Option (Bool):=
 if(Option.getD (mA (a.1.2,a.1.1) c) (0:Int))≠a.2 then(some (false))else(b)
def iV  (a:(List ((Int×Int)×Int))):Option (Bool):=
 Le (uW a) (some (true)) a
def mJ (b:Iq) (a:Mn->Option (Bool)) (c:(List ((Int×Int)×Int))):Option (Bool):=
 a ((wI .i64 (b.1+(1:Int))),c)
def iW (e:fO) (b:Iq) (a:Iq) (c:Mn->Option (Bool)) (d:Bool):Option (Bool):=
 if d=true then(some (false))else(if(Option.isSome (mA (b.1,((at' (at' e b.1) a.1).1)) a.2))=true then(some (false))else(c ((wI .i64 (a.1+(1:Int))),(CJ (b.1,((at' (at' e b.1) a.1).1)) ((at' (at' e b.1) a.1).2) a.2))))
def gT (d:fO) (a:Iq) (b:Iq) (c:Mn->Option (Bool)) (e:Bool):Option (Bool):=
 if e=true then(some (false))else(if((at' (at' d a.1) b.1).2)<(1:Int)then(iW d a b c (true))else(iW d a b c (decide ((15:Int)<((at' (at' d a.1) b.1).2)))))
def cH (d:fO) (a:Iq) (e:Mn->Option (Bool)) (b:Iq) (c:Mn->Option (Bool)):Option (Bool):=
 if b.1<(List.length (at' d a.1):Int)then(ck (0<=b.1∧b.1<(List.length (at' d a.1):Int)) (if((at' (at' d a.1) b.1).1)<(0:Int)then(gT d a b c (true))else(if(List.length d:Int)<=((at' (at' d a.1) b.1).1)then(gT d a b c (true))else(gT d a b c (decide (((at' (at' d a.1) b.1).1)=a.1))))))else(mJ a e (b.2))
def cS (U:Nat) (c:fO) (a:Iq) (b:Mn->Option (Bool)):Option (Bool):=
 if a.1<(List.length c:Int)then(ck (0<=a.1∧a.1<(List.length c:Int)) (bL (cH c a b) U ((0:Int),a.2)))else(iV  (a.2))
def gH (U:Nat) (a:fO):Option (Bool):=
 bL (cS U a) U ((0:Int),([]:List ((Int×Int)×Int)))
theorem aat:aU Tryz.prog 119:=Tryz.call119
theorem Ha (U:Nat) {f:fO} (n:Value)  (F:lJ) (r:Bool) (h:gH U f=some r):
  aY Tryz.prog 119 #[n] [S2 bA n F f] (λx:Unit=>vB (r)) (λx l=>l) (λ_ l=>l):=by
 refine aY.of Tryz.func119 Z Tryz.ntmps119 Z λc=>?_;unfold gH at h;refine aW<|aE Z<|aM<|aW<|aH (aN.makeMap mV Qs) Z λk=>aE Z<|aM<|aK<|eS (λq=>iV  q=some r) (λq H=>[(3,Value.map (some k))]) (λq H=>[Mp mV Qs k q]) ?_ ?_
 ·refine aW<|aA Z<|aB (gQ Z (aF.fact 0 Z) Z) Z<|aA Z<|aM<|aT<|eV (cS U f) (λd y=>[(0,n),(3,Value.map (some k)),(14,n),(15,vI (List.length f:Int)),(16,vI (d.1))]) (λd y=>[Mp mV Qs k d.2]) ((0:Int),([]:List ((Int×Int)×Int))) () h SF (aZ.refl _) ?_;intro t d y h;refine aW<|cY Z<|aM<|aK ?_;refine fJ h Z (λh=>?_) λh=>?_
  ·refine cU<|aK<|eS (λm=>mJ d (bL (cS U f) t) m=some r) (λm z=>[(0,n),(3,Value.map (some k)),(14,n),(15,vI (List.length f:Int)),(16,vI (d.1))]) (λm z=>[Mp mV Qs k m]) ?_ ?_
   ·refine aT<|aW<|aA Z<|dB h λj h=>aB (cC Z Z (aF.fact 0 Z) Z Z j) Z<|aB (cE Z (aF.fact 0 Z) Z Z j) Z<|aE Z<|aE Z<|aM<|aW<|aA Z<|aB (h_ Z (aF.el (aF.fact 0 Z) j.1 j.2) Z) Z<|aA Z<|aM<|aT<|eV (cH f d (bL (cS U f) t)) (λe A=>[(0,n),(3,Value.map (some k)),(4,vI (d.1)),(14,n),(15,vI (List.length f:Int)),(16,vI (d.1)),(21,(at' F d.1).1),(22,vI (List.length (at' f d.1):Int)),(23,vI (e.1))]) (λe A=>[Mp mV Qs k e.2]) ((0:Int),d.2) () h SF (aZ.refl _) ?_;intro E e A h;refine aW<|cY Z<|aM<|aK ?_;refine fJ h Z (λh=>?_) λh=>?_
    ·refine cU<|aK<|aT<|aW<|dB h λD h=>aB (bB Z Z (aF.el (aF.fact 0 Z) j.1 j.2) Z Z D) Z<|aB (jM (cs:=[vI ((at' (at' f d.1) e.1).1),vI ((at' (at' f d.1) e.1).2)]) Z (aF.el (aF.fact 0 Z) j.1 j.2) bU Z Z Z Z D) Z<|aH (aN.alloc (cs:=V_) Z Z) Z λs=>bT 0 (vs:=[vI ((at' (at' f d.1) e.1).1),vI ((at' (at' f d.1) e.1).2)]) Z Z Z Z Z Z<|aM<|aK<|aK<|eS (λo=>gT f d e (bL (cH f d (bL (cS U f) t)) E) o=some r) (λo B=>[(0,n),(3,Value.map (some k)),(4,vI (d.1)),(7,vP s),(14,n),(15,vI (List.length f:Int)),(16,vI (d.1)),(21,(at' F d.1).1),(22,vI (List.length (at' f d.1):Int)),(23,vI (e.1)),(42,vB (o))]) (λo B=>[bY s [vI ((at' (at' f d.1) e.1).1),vI ((at' (at' f d.1) e.1).2)] 97,Mp mV Qs k e.2]) ?_ ?_
     ·refine aS<|bW Z<|dN 0 Z<|cY Z<|aA Z ?_;refine FG h Z (λ_ h=>?_) λ_ h=>?_
      ·refine aP Z<|aP Z<|aP Z<|aP Z<|aP Z<|fM Z<|aA Z<|aP Z<|aP Z<|aP Z<|aP Z<|fM Z<|aM ?_;exact jG (true) () h SF Z
      refine aX Z (eN Z Z Z Z Z) Z<|aX Z (gE 0 Z Z Z Z Z) Z<|eR Z<|aX Z (gQ Z (aF.fact 0 Z) Z) Z<|aX Z (E_ Z Z) Z<|iI Z<|aA Z ?_;refine FG h Z (λ_ h=>?_) λ_ h=>?_
      ·refine aP Z<|aP Z<|aP Z<|aP Z<|fM Z<|aM ?_;exact jG (true) () h SF Z
      refine aX Z (eN Z Z Z Z Z) Z<|aX Z (gE 0 Z Z Z Z Z) Z<|eR Z<|aX Z (Tb Z Z) Z<|iI Z<|aM ?_;exact jG (decide (((at' (at' f d.1) e.1).1)=d.1)) () h SF Z
     intro o B h;refine BM h Z (λ_ h=>?_) λ_ h=>?_
     ·refine aW<|aE Z<|aM<|aV<|aI<|bP<|aI<|aI<|bP<|bP<|aI<|aI<|bP<|aI ?_;cases h;exact vN Z
     refine cU<|aK<|aK<|eS (λp=>iW f d e (bL (cH f d (bL (cS U f) t)) E) p=some r) (λp C=>[(0,n),(3,Value.map (some k)),(4,vI (d.1)),(7,vP s),(14,n),(15,vI (List.length f:Int)),(16,vI (d.1)),(21,(at' F d.1).1),(22,vI (List.length (at' f d.1):Int)),(23,vI (e.1)),(50,vB (p))]) (λp C=>[bY s [vI ((at' (at' f d.1) e.1).1),vI ((at' (at' f d.1) e.1).2)] 97,Mp mV Qs k e.2]) ?_ ?_
     ·refine aS<|bW Z<|dN 0 Z<|cY Z<|aA Z ?_;refine FG h Z (λ_ h=>?_) λ_ h=>?_
      ·refine aP Z<|aP Z<|aP Z<|fM Z<|aM ?_;exact jG (true) () h SF Z
      refine aX Z (eN Z Z Z Z Z) Z<|aX Z (gE 0 Z Z Z Z Z) Z<|aX Z (yP Z Z) Z<|iI Z<|aM ?_;exact jG (decide ((15:Int)<((at' (at' f d.1) e.1).2))) () h SF Z
     intro p C h;refine BM h Z (λ_ h=>?_) λ_ h=>?_
     ·refine aW<|aE Z<|aM<|aV<|aI<|bP<|aI<|aI<|bP<|bP<|aI<|aI<|bP<|aI ?_;cases h;exact vN Z
     refine cU<|aW<|aA Z<|bW Z<|dN 0 Z ?_;refine aB (Cm (r:=Value.agg #[vI (d.1),vI ((at' (at' f d.1) e.1).1)]) Z Z (by intro w;simp[Instr.build,Instr.fill,eX,dY,dH,eY,eZ,dZ,gK])) Z ?_;refine aH (aN.alloc (cs:=V_) Z Z) Z λK=>bT 0 (vs:=[vI (d.1),vI ((at' (at' f d.1) e.1).1)]) Z Z Z Z Z Z<|aM<|aK<|aW<|aA Z<|eQ 0 Z ?_;refine aB (OD 2 ((d.1,((at' (at' f d.1) e.1).1))) (u:=vI (Option.getD (mA (d.1,((at' (at' f d.1) e.1).1)) e.2) (0:Int))) Nq Z Z Z Z Z (by cases mA ((d.1,((at' (at' f d.1) e.1).1))) e.2<;>rfl)) Z ?_;refine aA Z<|iS Z<|iS Z<|aE Z<|aE Z<|aM<|aW<|aA Z<|aM ?_;refine BM h Z (λ_ h=>?_) λ_ h=>?_
     ·refine aW<|aE Z<|aM<|aV<|aI<|bP<|aI<|aI<|bP<|bP<|aI<|aI<|bP<|aI ?_;cases h;exact vN Z
     refine cU<|aS<|aA Z<|eQ 0 Z<|bW Z<|dN 1 Z<|N_ 2 ((d.1,((at' (at' f d.1) e.1).1))) ((at' (at' f d.1) e.1).2) Nq Z Z Z Z Z<|eM<|oD<|aS<|cL Z<|aA Z<|aM ?_;exact nR ((wI .i64 (e.1+(1:Int))),(CJ (d.1,((at' (at' f d.1) e.1).1)) ((at' (at' f d.1) e.1).2) e.2)) () h SF (aZ.ix [2] Z Z) (aG.refl _ _)
    refine s_<|fW<|fW<|zO<|oD ?_;exact jG (e.2) () h SF Z
   intro m z h;unfold mJ at h;refine aS<|cL Z<|aA Z<|aM ?_;exact Al ((wI .i64 (d.1+(1:Int))),m) () h SF Z
  refine fV ?_;exact jG (d.2) () h SF Z
 intro q H h;unfold iV at h;refine aK<|aW<|aA Z<|aH (aN.range 0 Z Z Z) Z λI=>aM<|aT<|ZR [(3,Value.map (some k)),(69,vP I)] [It I k (List.length q) ([]),Mp mV Qs k q] [S2 bA n F f] SF (aZ.refl _) (aG.refl _ _) ?_;refine UH (uW q) 1 0 (by intro a b x;unfold uW;repeat' split;all_goals first|rfl|contradiction|simp_all) h Z Z Z Z Z Z ?_ ?_
 ·skip
  intro g N G M v h;refine aT<|aW<|aH (aN.entry 1 0 v Z Z Z) Z λL=>iS Z<|iS Z<|aH (aN.alloc (cs:=V_) Z Z) Z λJ=>bT 0 (vs:=[vI (g.1.1),vI (g.1.2)]) Z Z Z Z Z Z<|aE Z<|aM<|aW<|aA Z ?_;refine aB (oE (i:=1) Z Z Z Z Z (by decide)) Z ?_;refine dN 0 Z ?_;refine aB (oE (i:=0) Z Z Z Z Z (by decide)) Z ?_;refine dN 0 Z ?_;refine aB (Cm (r:=Value.agg #[vI (g.1.2),vI (g.1.1)]) Z Z (by intro w;simp[Instr.build,Instr.fill,eX,dY,dH,eY,eZ,dZ,gK])) Z ?_;refine aB (OD 2 ((g.1.2,g.1.1)) (u:=vI (Option.getD (mA (g.1.2,g.1.1) q) (0:Int))) Nq Z Z Z Z Z (by cases mA ((g.1.2,g.1.1)) q<;>rfl)) Z ?_;refine aA Z<|qO Z<|aM ?_;refine fJ h Z (λh=>?_) λh=>?_
  ·refine aW<|aE Z<|aM<|aV<|bP<|aI<|bP<|aI ?_;cases h;exact vN Z
  refine dO<|oD ?_;exact QR h SF (aZ.ix [1,2] Z Z) (aG.refl _ _)
 intro G h;refine zO<|zU<|aW<|aE Z<|aM<|aV ?_;cases h;exact vN Z
def pP  (a:Bool):Option (Bool):=
 some (a)
def pO (U:Nat) (b:cG) (c:Bool):Option (Bool):=
 if c=true then(some (false))else(Option.bind (jF U b.1) λd=>(if d=true then(Option.bind (gH U b.2) λa=>(pP  (a)))else(pP  (false))))
def gX (U:Nat) (a:cG):Option (Bool):=
 if(List.length a.1:Int)<(1:Int)then(pO U a (true))else(if(24:Int)<(List.length a.1:Int)then(pO U a (true))else(pO U a (decide ((List.length a.2:Int)≠(List.length a.1:Int)))))
theorem MY:aU Tryz.prog 87:=Tryz.call87
theorem yH (U:Nat) {p0:cG} (f:Value)  (g:Value)  (o:lJ) (r:Bool) (h:gX U p0=some r):
  aY Tryz.prog 87 #[Value.agg #[f,g]] [Sl bO f p0.1,S2 bA g o p0.2] (λx:Unit=>vB (r)) (λx l=>l) (λ_ l=>l):=by
 refine aY.of Tryz.func87 Z Tryz.ntmps87 Z λc=>?_;refine aW<|aH (aN.box (cs:=[f,g]) Z Z) Z λk=>aE Z<|aM<|aW<|bW Z<|dN 0 Z<|kT (aF.fact 0 Z) Z<|aE Z<|aM<|aK<|aK<|eS (λb=>pO U p0 b=some r) (λb m=>[(1,vP k),(19,vB (b))]) (λb m=>[bY k [f,g] 28]) ?_ ?_
 ·refine aS<|aA Z<|cY Z<|aA Z ?_;refine FG h Z (λ_ h=>?_) λ_ h=>?_
  ·refine aP Z<|aP Z<|fM Z<|aA Z<|aP Z<|aP Z<|aP Z<|aP Z<|aP Z<|fM Z<|aM ?_;exact jG (true) () h SF Z
  refine eR Z<|aX Z (yP Z Z) Z<|iI Z<|aA Z ?_;refine FG h Z (λ_ h=>?_) λ_ h=>?_
  ·refine aP Z<|aP Z<|aP Z<|aP Z<|aP Z<|fM Z<|aM ?_;exact jG (true) () h SF Z
  refine aX Z (eN Z Z Z Z Z) Z<|aX Z (gE 0 Z Z Z Z Z) Z<|aX Z (gQ Z (aF.fact 1 Z) Z) Z<|eR Z<|aX Z (Dg Z Z) Z<|iI Z<|aM ?_;exact jG (decide ((List.length p0.2:Int)≠(List.length p0.1:Int))) () h SF Z
 intro b m h;refine BM h Z (λ_ h=>?_) λ_ h=>?_
 ·refine aW<|aE Z<|aM<|aV<|aI ?_;cases h;exact vN Z
 refine cU<|aK<|eS (λd=>pP  d=some r) (λd n=>[(2,vB (d))]) (λd n=>[]) ?_ ?_
 ·refine aS<|bW Z<|dN 0 Z<|fU h λp i h=>aH (aN.callQ aas (El U f p i) Z (oO [0] Z)) Z λq=>aA Z ?_;refine Bc (by exact rfl) (by exact rfl) (λa=>?_) (λa=>?_)
  ·have h:=Pd a h;refine aX Z (eN Z Z Z Z Z) Z<|aX Z (gE 0 Z Z Z Z Z) Z<|fU h λe j h=>q_ Z (aN.callQ aat (Ha U g o e j) Z (oO [1] Z)) Z λs=>fM Z<|aE Z<|aM ?_;exact cK (e) () h SF .nil (aG.refl _ _)
  have h:=Lc a h;refine aP Z<|aP Z<|aP Z<|iI Z<|aE Z<|aM ?_;exact cK (false) () h SF .nil (aG.refl _ _)
 intro d n h;unfold pP at h;refine aV ?_;cases h;exact lP Z
def qA  (a:Unit):Option (Bool):=
 some (true)
def kP (c:aO) (a:Int) (b:(Int)->Option (Bool)):Option (Bool):=
 if a<(List.length c:Int)then(ck (0<=a∧a<(List.length c:Int)) (if(at' c a)<(0:Int)then(some (false))else(b (wI .i64 (a+(1:Int))))))else(qA  (()))
def eL (U:Nat) (a:cG):Option (Bool):=
 Option.bind (gX U ((a.1,a.2))) λb=>(if(!b)=true then(some (false))else(Option.bind (jQ U ((a.1,a.2)) (0:Int)) λc=>(bL (kP c) U (0:Int))))
theorem Ro:aU Tryz.prog 59:=Tryz.call59
theorem wZ (U:Nat) {k:cG} (e:Value)  (f:Value)  (m:lJ) (r:Bool) (h:eL U k=some r):
  aY Tryz.prog 59 #[Value.agg #[e,f]] [Sl bO e k.1,S2 bA f m k.2] (λx:Unit=>vB (r)) (λx l=>l) (λ_ l=>l):=by
 refine aY.of Tryz.func59 Z Tryz.ntmps59 Z λc=>?_;refine aW<|aH (aN.box (cs:=[e,f]) Z Z) Z λt=>aE Z<|aM<|aK<|aW<|eQ 0 Z<|fU h λp q h=>aH (aN.callQ MY (yH U e f m p q) Z (oO [0,1] Z)) Z λu=>aB (tK Z) Z<|aM ?_;refine BM h Z (λ_ h=>?_) λ_ h=>?_
 ·refine aW<|aE Z<|aM<|aV<|aI ?_;cases h;exact vN Z
 refine cU<|aK<|eS (λi=>qA  i=some r) (λi n=>[]) (λi n=>[]) ?_ ?_
 ·refine aW<|eQ 0 Z<|fU h λj s h=>aH (aN.callQ Xb (Em U e f m j s) Z (oO [0,1] Z)) Z λg=>aB (h_ Z (bF (aF.res 0 Z) dC) Z) Z<|aA Z<|aM<|aT<|eV (kP j) (λa b=>[(9,g),(10,vI (List.length j:Int)),(11,vI (a))]) (λa b=>[Ar bX g j]) (0:Int) () h SF (aZ.ix [0] Z Z) ?_;intro o a b h;refine aW<|cY Z<|aM<|aK ?_;refine fJ h Z (λh=>?_) λh=>?_
  ·refine cU<|aK<|aT<|aW<|dB h λd h=>aB (bB Z Z (bF (aF.res 0 Z) dC) Z Z d) Z<|aB (bS Z (bF (aF.res 0 Z) dC) Z Z Z cX d) Z<|aE Z<|aM<|aW<|aA Z<|cY Z<|aM ?_;refine fJ h Z (λh=>?_) λh=>?_
   ·refine aW<|aE Z<|aM<|aV<|bP<|aI<|aI<|bP<|aI ?_;cases h;exact vN Z
   refine dO<|oD<|aS<|cL Z<|aA Z<|aM ?_;exact Al (wI .i64 (a+(1:Int))) () h SF Z
  refine fV ?_;exact cK () (()) h SF .nil (aG.refl _ _)
 intro i n h;unfold qA at h;refine aW<|aE Z<|aM<|aV ?_;cases h;exact lP Z
def HD (U:Nat) (a:cG):Option (Bool):=
 Option.bind (eL U ((a.1,a.2))) λb=>(some (b))
theorem aap:aU Tryz.prog 114:=Tryz.call114
theorem VQ (U:Nat) {d:cG} (a:Value)  (b:Value)  (e:lJ) (r:Bool) (h:HD U d=some r):
  aY Tryz.prog 114 #[Value.agg #[a,b]] [Sl bO a d.1,S2 bA b e d.2] (λx:Unit=>vB (r)) (λx l=>l) (λ_ l=>l):=by
 refine aY.of Tryz.func114 Z Tryz.ntmps114 Z λc=>?_;refine aW<|aH (aN.box (cs:=[a,b]) Z Z) Z λi=>aE Z<|aM<|aW<|eQ 0 Z<|fU h λf g h=>aH (aN.callQ Ro (wZ U a b e f g) Z (oO [0,1] Z)) Z λj=>aE Z<|aM<|aV ?_;cases h;exact vN Z
def Bo  (a:Int):Option (Int):=
 some (a)
def Bp (b:aO) (a:fF) (c:iQ->Option (Int)):Option (Int):=
 if a.2<(List.length b:Int)then(ck (0<=a.2∧a.2<(List.length b:Int)) (if(at' b a.2)<(0:Int)then(some (-1:Int))else(ck (0<=a.2∧a.2<(List.length b:Int)) (c ((max a.1 (at' b a.2)),(wI .i64 (a.2+(1:Int))))))))else(Bo  (a.1))
def xS (a:Nat) (b:aO):Option (Int):=
 bL (Bp b) a ((-1:Int),(0:Int))
def DZ  (a:Bool):Option (Bool):=
 some (a)
def uY (a:Nat) (b:Int) (c:Int) (d:Int):Option (Bool):=
 if c<=b then(DZ  (decide (b<=d)))else(DZ  (false))
def zR  (a:Unit):Option (Bool):=
 some (true)
def zS (b:Int) (a:(Int)->Option (Bool)) (c:Unit):Option (Bool):=
 a (wI .i64 (b+(1:Int)))
def jT (d:fN) (b:Int) (e:(Int)->Option (Bool)) (a:Int) (c:(Int)->Option (Bool)):Option (Bool):=
 if a<b then(ck (0<=a∧a<(List.length d:Int)) (ck (0<=b∧b<(List.length d:Int)) (if((at' d a).1)=((at' d b).1)then(some (false))else(c (wI .i64 (a+(1:Int)))))))else(zS b e (()))
def lU (a:Nat) (e:fN) (d:Int) (c:(Int)->Option (Bool)) (b:Bool):Option (Bool):=
 if b=true then(some (false))else(bL (jT e d c) a (0:Int))
def oW (a:Nat) (c:fN) (g:Int) (h:Int) (b:Int) (d:(Int)->Option (Bool)):Option (Bool):=
 if b<(List.length c:Int)then(ck (0<=b∧b<(List.length c:Int)) (Option.bind (uY a ((at' c b).1) (0:Int) (wI .i64 (h - (1:Int)))) λe=>(if(!e)=true then(lU a c b d (true))else(ck (0<=b∧b<(List.length c:Int)) (if((at' c b).1)=g then(lU a c b d (true))else(ck (0<=b∧b<(List.length c:Int)) (Option.bind (uY a ((at' c b).2) (1:Int) (15:Int)) λf=>(lU a c b d ((!f))))))))))else(zR  (()))
def qD (a:Nat) (b:fN) (c:Int) (d:Int):Option (Bool):=
 bL (oW a b c d) a (0:Int)
def Lg  (a:Unit):Option (Int):=
 some (-1:Int)
def BF (c:cG) (a:Int) (e:Int) (b:Int) (d:(Int)->Option (Int)):Option (Int):=
 ck (0<=a∧a<(List.length c.2:Int)) (if b<(List.length (at' c.2 a):Int)then(ck (0<=a∧a<(List.length c.2:Int)) (ck (0<=b∧b<(List.length (at' c.2 a):Int)) (if((at' (at' c.2 a) b).1)=e then(some (b))else(d (wI .i64 (b+(1:Int)))))))else(Lg  (())))
def CE (a:Nat) (b:cG) (c:Int) (d:Int):Option (Int):=
 bL (BF b c d) a (0:Int)
def D_  (a:Unit):Option (Bool):=
 some (true)
def Ea (b:Int) (a:(Int)->Option (Bool)) (c:Unit):Option (Bool):=
 a (wI .i64 (b+(1:Int)))
def AM (b:Int) (a:(Int)->Option (Bool)) (c:Bool):Option (Bool):=
 if c=true then(some (false))else(a (wI .i64 (b+(1:Int))))
def mU (g:Nat) (c:cG) (a:Int) (f:(Int)->Option (Bool)) (b:Int) (e:(Int)->Option (Bool)):Option (Bool):=
 ck (0<=a∧a<(List.length c.2:Int)) (if b<(List.length (at' c.2 a):Int)then(ck (0<=a∧a<(List.length c.2:Int)) (ck (0<=b∧b<(List.length (at' c.2 a):Int)) (Option.bind (CE g ((c.1,c.2)) ((at' (at' c.2 a) b).1) a) λd=>(if d<(0:Int)then(AM b e (true))else(ck (0<=((at' (at' c.2 a) b).1)∧((at' (at' c.2 a) b).1)<(List.length c.2:Int)) (ck (0<=d∧d<(List.length (at' c.2 ((at' (at' c.2 a) b).1)):Int)) (AM b e (decide (((at' (at' c.2 ((at' (at' c.2 a) b).1)) d).2)≠((at' (at' c.2 a) b).2))))))))))else(Ea a f (())))
def sA (a:Nat) (d:cG) (b:Int) (c:(Int)->Option (Bool)):Option (Bool):=
 if b<(List.length d.2:Int)then(bL (mU a d b c) a (0:Int))else(D_  (()))
def AL (a:Nat) (b:cG) (c:Unit):Option (Bool):=
 bL (sA a b) a (0:Int)
def Eb (b:Int) (a:(Int)->Option (Bool)) (c:Unit):Option (Bool):=
 a (wI .i64 (b+(1:Int)))
def pT (e:cG) (a:Int) (c:(Int)->Option (Bool)) (b:Int) (d:(Int)->Option (Bool)):Option (Bool):=
 if b<a then(ck (0<=b∧b<(List.length e.1:Int)) (ck (0<=a∧a<(List.length e.1:Int)) (if(at' e.1 b)=(at' e.1 a)then(some (false))else(d (wI .i64 (b+(1:Int)))))))else(Eb a c (()))
def r_ (b:Nat) (e:cG) (c:Int) (a:(Int)->Option (Bool)) (d:Bool):Option (Bool):=
 if d=true then(some (false))else(bL (pT e c a) b (0:Int))
def sB (b:Nat) (c:cG) (a:Int) (d:(Int)->Option (Bool)):Option (Bool):=
 if a<(List.length c.2:Int)then(ck (0<=a∧a<(List.length c.1:Int)) (Option.bind (uY b (at' c.1 a) (0:Int) (255:Int)) λe=>(if(!e)=true then(r_ b c a d (true))else(ck (0<=a∧a<(List.length c.2:Int)) (if(List.length c.2:Int)<=(List.length (at' c.2 a):Int)then(r_ b c a d (true))else(ck (0<=a∧a<(List.length c.2:Int)) (Option.bind (qD b (at' c.2 a) a (List.length c.2:Int)) λf=>(r_ b c a d ((!f))))))))))else(AL b c (()))
def AK (a:Nat) (c:cG) (b:Bool):Option (Bool):=
 if b=true then(some (false))else(bL (sB a c) a (0:Int))
def yB (a:Nat) (b:cG):Option (Bool):=
 Option.bind (uY a (List.length b.2:Int) (1:Int) (24:Int)) λc=>(if(!c)=true then(AK a b (true))else(AK a b (decide ((List.length b.1:Int)≠(List.length b.2:Int)))))
def AD  (a:aO):Option aO:=
 some (a)
def AE (b:kU) (a:qP->Option aO) (c:aO):Option aO:=
 a ((wI .i64 (b.1+(1:Int))),c)
def AF (b:kU) (a:qP->Option aO) (c:aO):Option aO:=
 a ((wI .i64 (b.1+(1:Int))),c)
def vA (b:kU) (a:qP->Option aO) (c:aO):Option aO:=
 a ((wI .i64 (b.1+(1:Int))),c)
def u_ (f:cG) (d:kU) (b:kU) (e:qP->Option aO) (a:kU) (c:qP->Option aO) (g:Bool):Option aO:=
 if g=true then(ck (0<=b.1∧b.1<(List.length f.2:Int)) (ck (0<=a.1∧a.1<(List.length (at' f.2 b.1):Int)) (ck (0<=((at' (at' f.2 b.1) a.1).1)∧((at' (at' f.2 b.1) a.1).1)<(List.length a.2:Int)) (if(at' a.2 ((at' (at' f.2 b.1) a.1).1))=(wI .i64 (d.1 - (1:Int)))then(ck (0<=b.1∧b.1<(List.length a.2:Int)) (vA a c (List.set a.2 (Int.toNat b.1) d.1)))else(vA a c (a.2))))))else(AF b e (a.2))
def vC (f:cG) (e:kU) (a:kU) (c:qP->Option aO) (b:kU) (d:qP->Option aO):Option aO:=
 ck (0<=a.1∧a.1<(List.length f.2:Int)) (if b.1<(List.length (at' f.2 a.1):Int)then(ck (0<=a.1∧a.1<(List.length b.2:Int)) (u_ f e a c b d (decide ((at' b.2 a.1)<(0:Int)))))else(u_ f e a c b d (false)))
def AI (e:Nat) (f:cG) (b:kU) (c:qP->Option aO) (a:kU) (d:qP->Option aO):Option aO:=
 if a.1<(List.length f.2:Int)then(bL (vC f b a d) e ((0:Int),a.2))else(AE b c (a.2))
def AH (b:Nat) (d:cG) (a:kU) (c:qP->Option aO):Option aO:=
 if a.1<(List.length d.2:Int)then(bL (AI b d a c) b ((0:Int),a.2))else(AD  (a.2))
def AC (a:Nat) (d:cG) (b:Int) (c:aO):Option aO:=
 ck (0<=b∧b<(List.length c:Int)) (bL (AH a d) a ((1:Int),(List.set c (Int.toNat b) (0:Int))))
def AJ (c:Nat) (d:cG) (e:Int) (a:aO×Int) (b:(aO×Int)->Option aO):Option aO:=
 if a.2<(List.length d.2:Int)then(ck ((List.length a.1:Int)+(List.length ([(-1:Int)]):Int)<=1099511627) (b ((a.1++([(-1:Int)])),(wI .i64 (a.2+(1:Int))))))else(AC c d e (a.1))
def uZ (a:Nat) (c:cG) (d:Int) (b:Bool):Option aO:=
 if b=true then(some ([]:aO))else(bL (AJ a c d) a (([]:aO),(0:Int)))
def wP (a:Nat) (b:cG) (c:Int):Option aO:=
 Option.bind (yB a ((b.1,b.2))) λd=>(if(!d)=true then(uZ a b c (true))else(Option.bind (uY a c (0:Int) (wI .i64 ((List.length b.2:Int) - (1:Int)))) λe=>(uZ a b c ((!e)))))
def nZ (a:Nat) (b:cG) (c:Int):Option (Int):=
 Option.bind (wP a ((b.1,b.2)) c) λd=>(Option.bind (xS a d) λe=>(some (e)))
def qS  (a:Int):Option (Int):=
 some (a)
def gW (U:Nat) (b:Int) (a:Int):Option (Int):=
 if a<(1:Int)then(some (0:Int))else(ck (a≠0) (if(Int.tmod b a)<(0:Int)then(qS  (wI .i64 ((Int.tmod b a)+a)))else(qS  (Int.tmod b a))))
theorem DJ:aU Tryz.prog 23:=Tryz.call23
theorem lF (U:Nat) {d:Int} {b:Int} (r:Int) (h:gW U d b=some r):
  aY Tryz.prog 23 #[vI (d),vI (b)] [] (λx:Unit=>vI (r)) (λx l=>l) (λ_ l=>l):=by
 refine aY.of Tryz.func23 Z Tryz.ntmps23 Z λc=>?_;refine aW<|aE Z<|aM<|aK<|aW<|aA Z<|cY Z<|aM ?_;refine fJ h Z (λh=>?_) λh=>?_
 ·refine aW<|aE Z<|aM<|aV<|aI ?_;cases h;exact lP Z
 refine cU<|aW<|aA Z<|aA Z<|dB h λf h=>aB (OF Z Z f) Z<|aE Z<|aM<|aK<|eS (λa=>qS  a=some r) (λa e=>[(0,vI (a))]) (λa e=>[]) ?_ ?_
 ·refine aW<|aA Z<|cY Z<|aM ?_;refine fJ h Z (λh=>?_) λh=>?_
  ·refine aS<|aA Z<|aA Z<|cL Z<|aE Z<|aM ?_;exact jG (wI .i64 ((Int.tmod d b)+b)) () h SF Z
  refine cU ?_;exact jG (Int.tmod d b) () h SF Z
 intro a e h;unfold qS at h;refine aW<|aA Z<|aE Z<|aM<|aV ?_;cases h;exact lP Z
def rY (U:Nat) (b:aO) (a:Int):Option (Int):=
 if a<(List.length b:Int)then(ck (0<=a∧a<(List.length b:Int)) (some (at' b a)))else(some (0:Int))
theorem JD:aU Tryz.prog 24:=Tryz.call24
theorem AW (U:Nat) {b:aO} {d:Int} (e:Value) (r:Int) (h:rY U b d=some r):
  aY Tryz.prog 24 #[e,vI (d)] [Sl bO e b] (λx:Unit=>vI (r)) (λx l=>l) (λ_ l=>l):=by
 refine aY.of Tryz.func24 Z Tryz.ntmps24 Z λc=>?_;refine aW<|aE Z<|aM<|aK<|aW<|aA Z<|aA Z<|kT (aF.fact 0 Z) Z<|cY Z<|aM ?_;refine fJ h Z (λh=>?_) λh=>?_
 ·refine aW<|aA Z<|aA Z<|dB h λa h=>aB (bB Z Z (aF.fact 0 Z) Z Z a) Z<|aB (bS Z (aF.fact 0 Z) Z Z Z cX a) Z<|aE Z<|aM<|aV<|aI ?_;cases h;exact lP Z
 refine cU<|aW<|aE Z<|aM<|aV ?_;cases h;exact lP Z
def uT  (a:Unit):Option (Bool):=
 some (false)
def zN (c:cG) (a:Int) (e:Int) (b:Int) (d:(Int)->Option (Bool)):Option (Bool):=
 ck (0<=a∧a<(List.length c.2:Int)) (if b<(List.length (at' c.2 a):Int)then(ck (0<=a∧a<(List.length c.2:Int)) (ck (0<=b∧b<(List.length (at' c.2 a):Int)) (if((at' (at' c.2 a) b).1)=e then(some (true))else(d (wI .i64 (b+(1:Int)))))))else(uT  (())))
def mS (U:Nat) (a:cG) (b:Int) (c:Int):Option (Bool):=
 bL (zN a b c) U (0:Int)
theorem adu:aU Tryz.prog 73:=Tryz.call73
theorem KQ (U:Nat) {g:cG} {i:Int} {j:Int} (k:Value)  (m:Value)  (q:lJ) (r:Bool) (h:mS U g i j=some r):
  aY Tryz.prog 73 #[Value.agg #[k,m],vI (i),vI (j)] [Sl bO k g.1,S2 bA m q g.2] (λx:Unit=>vB (r)) (λx l=>l) (λ_ l=>l):=by
 refine aY.of Tryz.func73 Z Tryz.ntmps73 Z λc=>?_;unfold mS at h;refine aW<|aH (aN.box (cs:=[k,m]) Z Z) Z λn=>aE Z<|aM<|aK<|eS (λd=>uT  d=some r) (λd o=>[]) (λd o=>[]) ?_ ?_
 ·refine aW<|aE Z<|aM<|aT<|eV (zN g i j) (λe p=>[(1,vI (i)),(2,vI (j)),(3,vP n),(7,vI (e))]) (λe p=>[bY n [k,m] 28]) (0:Int) () h SF (aZ.refl _) ?_;intro s e p h;refine aK<|aW<|aA Z<|bW Z<|dN 0 Z<|aA Z<|dB h λf h=>aB (cC Z Z (aF.fact 1 Z) Z Z f) Z<|aB (cE Z (aF.fact 1 Z) Z Z f) Z<|aB (h_ Z (aF.el (aF.fact 1 Z) f.1 f.2) Z) Z<|cY Z<|aM ?_;refine fJ h Z (λh=>?_) λh=>?_
  ·refine cU<|aK<|aT<|aW<|bW Z<|dN 0 Z<|aA Z<|dB h λa h=>aB (cC Z Z (aF.fact 1 Z) Z Z a) Z<|aB (cE Z (aF.fact 1 Z) Z Z a) Z<|aA Z<|dB h λb h=>aB (bB Z Z (aF.el (aF.fact 1 Z) a.1 a.2) Z Z b) Z<|aB (nH Z Z Z Z Z) Z<|aB (pY Z (aF.el (aF.fact 1 Z) a.1 a.2) Z Z Z Ao b) Z<|aA Z<|cT Z<|aM ?_;refine fJ h Z (λh=>?_) λh=>?_
   ·refine aW<|aE Z<|aM<|aV<|bP<|aI<|aI<|bP<|aI ?_;cases h;exact vN Z
   refine dO<|oD<|aS<|aA Z<|cL Z<|aE Z<|aM ?_;exact Al (wI .i64 (e+(1:Int))) () h SF Z
  refine fV ?_;exact cK () (()) h SF .nil (aG.refl _ _)
 intro d o h;unfold uT at h;refine aW<|aE Z<|aM<|aV ?_;cases h;exact lP Z
def oQ (f:Dt) (c:cG) (a:Int) (b:Int) (d:Int) (e:Bool):Option (fO):=
 if e=true then(some (c.2))else(if f.2.2.2.2.2=true then(ck (0<=a∧a<(List.length c.2:Int)) (ck ((List.length ([(b,d)]):Int)+(List.length (at' c.2 a):Int)<=1099511627) (ck (0<=a∧a<(List.length c.2:Int)) (ck (0<=b∧b<(List.length (List.set c.2 (Int.toNat a) (([(b,d)])++(at' c.2 a))):Int)) (ck ((List.length ([(a,d)]):Int)+(List.length (at' (List.set c.2 (Int.toNat a) (([(b,d)])++(at' c.2 a))) b):Int)<=1099511627) (ck (0<=b∧b<(List.length (List.set c.2 (Int.toNat a) (([(b,d)])++(at' c.2 a))):Int)) (some (List.set (List.set c.2 (Int.toNat a) (([(b,d)])++(at' c.2 a))) (Int.toNat b) (([(a,d)])++(at' (List.set c.2 (Int.toNat a) (([(b,d)])++(at' c.2 a))) b))))))))))else(ck (0<=a∧a<(List.length c.2:Int)) (ck (0<=b∧b<(List.length c.2:Int)) (ck ((List.length (at' c.2 a):Int)+(List.length ([(b,d)]):Int)<=1099511627) (ck ((List.length (at' c.2 b):Int)+(List.length ([(a,d)]):Int)<=1099511627) (ck (Int.toNat a≠Int.toNat b) (ck (0<=a∧a<(List.length (List.set (List.set c.2 (Int.toNat a) ((at' c.2 a)++([(b,d)]))) (Int.toNat b) ((at' c.2 b)++([(a,d)]))):Int)) (ck (0<=b∧b<(List.length (List.set (List.set c.2 (Int.toNat a) ((at' c.2 a)++([(b,d)]))) (Int.toNat b) ((at' c.2 b)++([(a,d)]))):Int)) (some (List.set (List.set c.2 (Int.toNat a) ((at' c.2 a)++([(b,d)]))) (Int.toNat b) ((at' c.2 b)++([(a,d)]))))))))))))
def mN (U:Nat) (e:Dt) (a:cG) (b:Int) (c:Int) (f:Int):Option (fO):=
 if b=c then(oQ e a b c f (true))else(Option.bind (mS U ((a.1,a.2)) b c) λd=>(oQ e a b c f (d)))
theorem WZ:aU Tryz.prog 42:=Tryz.call42
theorem AS (U:Nat) {s:Dt} {G:cG} {f:Int} {g:Int} {d:Int} (J:Value)  (K:Value)  (L:Value)  (H:Value)  (C:Value)  (A:fT) (r:fO) (h:mN U s G f g d=some r):
  Fv Tryz.prog 42 #[Value.agg #[vI (s.1),J,K,L,vB (s.2.2.2.2.1),vB (s.2.2.2.2.2)],Value.agg #[H,C],vI (f),vI (g),vI (d)] [Ar cQ.raw C A,jZ b_ A G.2] [Sl bO J s.2.1,Sl bO K s.2.2.1,Sl bO L s.2.2.2.1,Sl bO H G.1] (λx:fT=>Value.tuple #[]) (λx l=>Ar cQ.raw C x::jZ b_ x r::l):=by
 refine Fv.of (vs:=[Value.agg #[vI (s.1),J,K,L,vB (s.2.2.2.2.1),vB (s.2.2.2.2.2)],Value.agg #[H,C],vI (f),vI (g),vI (d)]) Tryz.func42 Z Tryz.ntmps42 Z λc=>?_;refine aW<|aH (aN.box (cs:=[vI (s.1),J,K,L,vB (s.2.2.2.2.1),vB (s.2.2.2.2.2)]) Z Z) Z λb1=>aH (aN.box (cs:=[H,C]) Z Z) Z λb2=>aM<|aK<|aK<|Bv (B:=Unit) (λI=>oQ s G f g d I=some r) (λI b5=>[(2,vI (f)),(3,vI (g)),(4,vI (d)),(5,vP b1),(6,vP b2),(20,vB (I))]) (λI b5=>[bY b2 [H,C] 28,bY b1 [vI (s.1),J,K,L,vB (s.2.2.2.2.1),vB (s.2.2.2.2.2)] 24,Ar cQ.raw C A,jZ b_ A G.2]) (λI b5=>[Sl bO J s.2.1,Sl bO K s.2.2.1,Sl bO L s.2.2.2.1,Sl bO H G.1]) ?_ ?_
 ·refine aS<|aA Z<|aA Z<|cT Z<|aA Z ?_;refine FG h Z (λ_ h=>?_) λ_ h=>?_
  ·refine aP Z<|aP Z<|aP Z<|aP Z<|fM Z<|aM ?_;exact jG (true) () h SF Z
  refine aX Z (jN 0 Z Z Z Z) Z<|eR Z<|eR Z<|fU h λav au h=>q_ Z (aN.callQ adu (KQ U H C (List.zip A G.2) av au) Z (aG.cons (aF.fact 3 Z) (aG.cons (bV (i:=2) (j:=3) Z Z bU) .nil))) Z λa8=>iI Z<|aM ?_;exact jG (av) () h SF Z
 intro I b5 h;refine BM h Z (λ_ h=>?_) λ_ h=>?_
 ·refine aV<|aI ?_;cases h;exact Ga (A) Z Z .ret (.inl Z) (aZ.ix [2,3] Z Z) aG.nil
 refine cU<|aW<|aA Z<|aA Z ?_;refine aB (Cm (r:=Value.agg #[vI (g),vI (d)]) Z Z (by intro w;simp[Instr.build,Instr.fill,eX,dY,dH,eY,eZ,dZ,gK])) Z ?_;refine aA Z<|aA Z ?_;refine aB (Cm (r:=Value.agg #[vI (f),vI (d)]) Z Z (by intro w;simp[Instr.build,Instr.fill,eX,dY,dH,eY,eZ,dZ,gK])) Z ?_;refine aH (aN.alloc (cs:=V_) Z Z) Z λb7=>aH (aN.alloc (cs:=V_) Z Z) Z λb8=>bT 1 (vs:=[vI (g),vI (d)]) Z Z Z Z Z Z<|bT 0 (vs:=[vI (f),vI (d)]) Z Z Z Z Z Z<|aM<|aK<|aW<|bW Z<|dN 3 Z<|aM ?_;refine BM h Z (λ_ h=>?_) λ_ h=>?_
 ·refine aK ?_;refine JR.start [0,1,0,0,8,0,32,0,224,480,1016,2047,4095] 11 mixedOrders (by decide +kernel) ?_;refine JR.open (by exact rfl) ?_;refine dD Z<|jO 2 Z<|bH Z<|nU 1 Z<|JR.loud Z Z Z (cA (e:=b_) ([((g,d))]) [(0,Value.agg #[vI (g),vI (d)])] Z Z Z Z (yR (vI (g)) (vI (d))) Z Z Z) Z (λaR=>(vY [([3],[])] Z)) λaR=>iX Z (eN Z Z Z Z Z)<|bK Z (aZ.cons 3 Z .nil) .nil (gE 0 Z Z Z Z Z) (aL.h (aZ.ix [2] Z Z) .nil aL.z)<|iX Z (fH Z)<|dB h λu h=>cZ (dA 6 Z) λM=>?_;refine bK Z (aZ.cons 5 Z .nil) .nil (gO 0 Z Z Z Z Z u.1 (by have m:=u.2;have n:=M;(try simp only[List.length_set]at m);(try simp only[List.length_set]at n);(try simp only[List.length_set]);omega)) (aL.h (aZ.ix [4] Z Z) .nil aL.z) ?_;refine cZ (dA 6 Z) λN=>bK Z (aZ.cons 5 Z .nil) .nil (iY 0 Z Z N Z Z u) (aL.h (aZ.ix [4] Z Z) .nil aL.z)<|dB h λaO h=>JR.loud Z Z Z (eW 0 bU Z Z Z (aF.row (j:=6) Z bU u.1 u.2) Z Z Z Z aO Z) Z (λaw=>(vY [([3],[])] Z)) λaw=>bQ 11 Z Z<|dB h λv h=>aB (cC Z Z (bV (i:=5) (j:=6) Z Z bU) Z Z v) Z<|cF (Know.one ((bF (aF.res 0 Z) bU))) λak=>jL (xJ (k:=f) 6 0 Z Z Z v) ?_;refine pW 4 5 ⟨v.1,by first|exact v.2|simpa using v.2⟩ Z Z Z Z Z (by simp) ak Z ?_;refine aM<|aK ?_;refine JR.start [0,1,0,0,8,0,32,0,224,480,1016,2047,4095] 11 mixedOrders (by decide +kernel) ?_;refine JR.open (by exact rfl) ?_;refine dD Z<|jO 2 Z<|bH Z<|nU 0 Z<|JR.loud Z Z Z (cA (e:=b_) ([((f,d))]) [(0,Value.agg #[vI (f),vI (d)])] Z Z Z Z (yR (vI (f)) (vI (d))) Z Z Z) Z (λaT=>(vY [([3],[])] Z)) λaT=>iX Z (eN Z Z Z Z Z)<|bK Z (aZ.cons 3 Z .nil) .nil (gE 0 Z Z Z Z Z) (aL.h (aZ.ix [2] Z Z) .nil aL.z)<|iX Z (fH Z)<|dB h λt h=>cZ (dA 6 Z) λO=>?_;refine bK Z (aZ.cons 5 Z .nil) .nil (gO 0 Z Z Z Z Z t.1 (by have m:=t.2;have n:=O;(try simp only[List.length_set]at m);(try simp only[List.length_set]at n);(try simp only[List.length_set]);omega)) (aL.h (aZ.ix [4] Z Z) .nil aL.z) ?_;refine cZ (dA 6 Z) λP=>bK Z (aZ.cons 5 Z .nil) .nil (iY 0 Z Z P Z Z t) (aL.h (aZ.ix [4] Z Z) .nil aL.z)<|dB h λaQ h=>JR.loud Z Z Z (eW 0 bU Z Z Z (aF.row (j:=6) Z bU t.1 (by first|exact t.2|simpa using t.2)) Z Z Z Z aQ Z) Z (λax=>(vY [([3],[])] Z)) λax=>?_;refine bQ 11 Z Z<|dB h λy h=>aB (cC Z Z (bV (i:=5) (j:=6) Z Z bU) Z Z y) Z<|cF (Know.one ((bF (aF.res 0 Z) bU))) λal=>jL (xJ (k:=g) 6 0 Z Z Z y) ?_;refine pW 4 5 ⟨y.1,by first|exact y.2|simpa using y.2⟩ Z Z Z Z Z (by simp) al Z ?_;refine aM<|aV<|aI ?_;cases h;exact Ga (List.set (List.set A (Int.toNat f) aw) (Int.toNat g) ax) Z Z .ret (.inl Z) (aZ.ix [4,5] Z Z) aG.nil
 refine cU<|dB h λp h=>dB h λq h=>dB h λD h=>dB h λE h=>dB h λF h=>dB h λa h=>dB h λb h=>UJ [0,1,0,0,8,0,0,64,0,448,960,0,2048,8128,0,16384,0,114688,245760,0,524288,2097088,4194247,8388551,16777215,33554431] 24 [[0,1,2,3,4,5,6,7,8,9,10,11,14,15,16,17,18,19,12,13,20,21,22,23,24,25],[0,1,2,3,4,5,6,7,8,9,10,11,14,15,16,17,18,19,12,20,13,21,22,23,24,25],[0,1,2,3,4,5,6,7,8,9,10,11,14,15,16,17,18,19,20,12,13,21,22,23,24,25]] mixedOrders (by decide +kernel) (by decide +kernel) ?_;intro o ho;simp only[List.mem_cons,List.not_mem_nil,or_false]at ho;rcases ho with rfl|rfl|rfl
 ·refine dD Z<|jO 2 Z<|bH Z<|dD Z<|jO 2 Z<|bH Z<|dD Z<|jO 2 Z<|bH Z<|cZ (dA 5 Z) λQ=>?_;refine bK Z (aZ.cons 4 Z .nil) .nil (gO 0 Z Z Z Z Z p.1 (by have m:=p.2;have n:=Q;(try simp only[List.length_set]at m);(try simp only[List.length_set]at n);(try simp only[List.length_set]);omega)) aL.z ?_;refine cZ (dA 5 Z) λR=>bK Z (aZ.cons 4 Z .nil) .nil (iY 0 Z Z R Z Z p) aL.z<|nU 1 Z<|dD Z<|jO 2 Z<|bH Z<|cZ (dA 5 Z) λS=>?_;refine bK Z (aZ.cons 4 Z .nil) .nil (gO 0 Z Z Z Z Z q.1 (by have m:=q.2;have n:=S;(try simp only[List.length_set]at m);(try simp only[List.length_set]at n);(try simp only[List.length_set]);omega)) aL.z ?_;refine cZ (dA 5 Z) λT=>bK Z (aZ.cons 4 Z .nil) .nil (iY 0 Z Z T Z Z q) aL.z<|nU 0 Z<|JR.loud Z Z Z (cA (e:=b_) ([((g,d))]) [(0,Value.agg #[vI (g),vI (d)])] Z Z Z Z (yR (vI (g)) (vI (d))) Z Z Z) Z (λaU=>(vY [([1],[]),([5],[]),([5],[]),([3],[]),([5],[]),([5],[]),([3],[]),([3],[]),([3],[])] Z)) λaU=>JR.loud Z Z Z (qH 6 bU Z Z Z (bF (aF.res 0 Z) bU) Z Z Z Z p D Z) Z (λay=>(vY [([1],[]),([5],[]),([5],[]),([3],[]),([3],[]),([3],[])] Z)) λay=>JR.loud Z Z Z (cA (e:=b_) ([((f,d))]) [(0,Value.agg #[vI (f),vI (d)])] Z Z Z Z (yR (vI (f)) (vI (d))) Z Z Z) Z (λaY=>(vY [([6],[]),([6],[]),([4],[]),([3],[]),([6],[]),([6],[]),([4],[]),([4],[]),([4],[])] Z)) λaY=>JR.loud Z Z Z (yY (j:=f) 7 bU Z Z Z (bF (aF.res 0 Z) bU) Z Z Z Z q E Z F) Z (λaz=>(vY [([4],[]),([4],[])] Z)) λaz=>cZ (dA 7 Z) λV=>?_;refine bK Z (aZ.cons 6 Z .nil) .nil (gO 0 Z Z Z Z Z a.1 (by have m:=a.2;have n:=V;(try simp only[List.length_set]at m);(try simp only[List.length_set]at n);(try simp only[List.length_set]);omega)) (hkI Z) ?_;refine cZ (Cg (k:=f) (j:=g) 7 Z (by omega) ⟨a.1,by first|exact a.2|simpa using a.2⟩) λam=>?_;refine Dv Z Z Z (Bw 6 7 ⟨a.1,by first|exact a.2|simpa using a.2⟩ Z Z Z Z (by simp) am Z) (λa5=>(vY [([4],[])] Z)) λa5=>?_;refine bQ 24 Z Z<|cF (dA 7 Z) λW=>?_;refine aB (gO 6 Z Z Z Z Z b.1 (by have m:=b.2;have n:=W;(try simp only[List.length_set]at m);(try simp only[List.length_set]at n);(try simp only[List.length_set]);omega)) Z ?_;refine cF (Bd 7 (k:=g) Z ⟨b.1,by first|exact b.2|simpa using b.2⟩) λan=>?_;refine pW 6 7 ⟨b.1,by first|exact b.2|simpa using b.2⟩ Z Z Z Z Z (by simp) an Z ?_;refine eM ?_;cases h;exact Ga (List.set (List.set A (Int.toNat f) ay) (Int.toNat g) az) Z Z .normal (.inr Z) (aZ.ix [6,7] Z Z) aG.nil
 ·refine dD Z<|jO 2 Z<|bH Z<|dD Z<|jO 2 Z<|bH Z<|dD Z<|jO 2 Z<|bH Z<|cZ (dA 5 Z) λX=>?_;refine bK Z (aZ.cons 4 Z .nil) .nil (gO 0 Z Z Z Z Z p.1 (by have m:=p.2;have n:=X;(try simp only[List.length_set]at m);(try simp only[List.length_set]at n);(try simp only[List.length_set]);omega)) aL.z ?_;refine cZ (dA 5 Z) λY=>bK Z (aZ.cons 4 Z .nil) .nil (iY 0 Z Z Y Z Z p) aL.z<|nU 1 Z<|dD Z<|jO 2 Z<|bH Z<|cZ (dA 5 Z) λaa=>?_;refine bK Z (aZ.cons 4 Z .nil) .nil (gO 0 Z Z Z Z Z q.1 (by have m:=q.2;have n:=aa;(try simp only[List.length_set]at m);(try simp only[List.length_set]at n);(try simp only[List.length_set]);omega)) aL.z ?_;refine cZ (dA 5 Z) λab=>bK Z (aZ.cons 4 Z .nil) .nil (iY 0 Z Z ab Z Z q) aL.z<|nU 0 Z<|JR.loud Z Z Z (cA (e:=b_) ([((g,d))]) [(0,Value.agg #[vI (g),vI (d)])] Z Z Z Z (yR (vI (g)) (vI (d))) Z Z Z) Z (λa0=>(vY [([1],[]),([5],[]),([5],[]),([3],[]),([5],[]),([5],[]),([3],[]),([3],[]),([3],[])] Z)) λa0=>JR.loud Z Z Z (cA (e:=b_) ([((f,d))]) [(0,Value.agg #[vI (f),vI (d)])] Z Z Z Z (yR (vI (f)) (vI (d))) Z Z Z) Z (λa1=>(vY [([6],[]),([6],[]),([4],[]),([3],[]),([6],[]),([6],[]),([4],[]),([4],[]),([4],[])] Z)) λa1=>JR.loud Z Z Z (qH 7 bU Z Z Z (bF (aF.res 1 Z) bU) Z Z Z Z p D Z) Z (λaC=>(vY [([2],[]),([6],[]),([6],[]),([4],[]),([4],[]),([4],[])] Z)) λaC=>JR.loud Z Z Z (yY (j:=f) 7 bU Z Z Z (bF (aF.res 0 Z) bU) Z Z Z Z q E Z F) Z (λaD=>(vY [([4],[]),([4],[])] Z)) λaD=>cZ (dA 7 Z) λac=>?_;refine bK Z (aZ.cons 6 Z .nil) .nil (gO 0 Z Z Z Z Z a.1 (by have m:=a.2;have n:=ac;(try simp only[List.length_set]at m);(try simp only[List.length_set]at n);(try simp only[List.length_set]);omega)) (hkI Z) ?_;refine cZ (Cg (k:=f) (j:=g) 7 Z (by omega) ⟨a.1,by first|exact a.2|simpa using a.2⟩) λao=>?_;refine Dv Z Z Z (Bw 6 7 ⟨a.1,by first|exact a.2|simpa using a.2⟩ Z Z Z Z (by simp) ao Z) (λa6=>(vY [([4],[])] Z)) λa6=>?_;refine bQ 24 Z Z<|cF (dA 7 Z) λad=>?_;refine aB (gO 6 Z Z Z Z Z b.1 (by have m:=b.2;have n:=ad;(try simp only[List.length_set]at m);(try simp only[List.length_set]at n);(try simp only[List.length_set]);omega)) Z ?_;refine cF (Bd 7 (k:=g) Z ⟨b.1,by first|exact b.2|simpa using b.2⟩) λap=>?_;refine pW 6 7 ⟨b.1,by first|exact b.2|simpa using b.2⟩ Z Z Z Z Z (by simp) ap Z ?_;refine eM ?_;cases h;exact Ga (List.set (List.set A (Int.toNat f) aC) (Int.toNat g) aD) Z Z .normal (.inr Z) (aZ.ix [6,7] Z Z) aG.nil
 refine dD Z<|jO 2 Z<|bH Z<|dD Z<|jO 2 Z<|bH Z<|dD Z<|jO 2 Z<|bH Z<|cZ (dA 5 Z) λae=>?_;refine bK Z (aZ.cons 4 Z .nil) .nil (gO 0 Z Z Z Z Z p.1 (by have m:=p.2;have n:=ae;(try simp only[List.length_set]at m);(try simp only[List.length_set]at n);(try simp only[List.length_set]);omega)) aL.z ?_;refine cZ (dA 5 Z) λaf=>bK Z (aZ.cons 4 Z .nil) .nil (iY 0 Z Z af Z Z p) aL.z<|nU 1 Z<|dD Z<|jO 2 Z<|bH Z<|cZ (dA 5 Z) λag=>?_;refine bK Z (aZ.cons 4 Z .nil) .nil (gO 0 Z Z Z Z Z q.1 (by have m:=q.2;have n:=ag;(try simp only[List.length_set]at m);(try simp only[List.length_set]at n);(try simp only[List.length_set]);omega)) aL.z ?_;refine cZ (dA 5 Z) λah=>bK Z (aZ.cons 4 Z .nil) .nil (iY 0 Z Z ah Z Z q) aL.z<|nU 0 Z<|JR.loud Z Z Z (cA (e:=b_) ([((f,d))]) [(0,Value.agg #[vI (f),vI (d)])] Z Z Z Z (yR (vI (f)) (vI (d))) Z Z Z) Z (λa2=>(vY [([5],[]),([5],[]),([3],[]),([2],[]),([5],[]),([5],[]),([3],[]),([3],[]),([3],[])] Z)) λa2=>JR.loud Z Z Z (cA (e:=b_) ([((g,d))]) [(0,Value.agg #[vI (g),vI (d)])] Z Z Z Z (yR (vI (g)) (vI (d))) Z Z Z) Z (λa3=>(vY [([2],[]),([6],[]),([6],[]),([4],[]),([6],[]),([6],[]),([4],[]),([4],[]),([4],[])] Z)) λa3=>JR.loud Z Z Z (qH 7 bU Z Z Z (bF (aF.res 0 Z) bU) Z Z Z Z p D Z) Z (λaE=>(vY [([2],[]),([6],[]),([6],[]),([4],[]),([4],[]),([4],[])] Z)) λaE=>JR.loud Z Z Z (yY (j:=f) 7 bU Z Z Z (bF (aF.res 1 Z) bU) Z Z Z Z q E Z F) Z (λaJ=>(vY [([4],[]),([4],[])] Z)) λaJ=>cZ (dA 7 Z) λai=>?_;refine bK Z (aZ.cons 6 Z .nil) .nil (gO 0 Z Z Z Z Z a.1 (by have m:=a.2;have n:=ai;(try simp only[List.length_set]at m);(try simp only[List.length_set]at n);(try simp only[List.length_set]);omega)) (hkI Z) ?_;refine cZ (Cg (k:=f) (j:=g) 7 Z (by omega) ⟨a.1,by first|exact a.2|simpa using a.2⟩) λaq=>?_;refine Dv Z Z Z (Bw 6 7 ⟨a.1,by first|exact a.2|simpa using a.2⟩ Z Z Z Z (by simp) aq Z) (λa7=>(vY [([4],[])] Z)) λa7=>?_;refine bQ 24 Z Z<|cF (dA 7 Z) λaj=>?_;refine aB (gO 6 Z Z Z Z Z b.1 (by have m:=b.2;have n:=aj;(try simp only[List.length_set]at m);(try simp only[List.length_set]at n);(try simp only[List.length_set]);omega)) Z ?_;refine cF (Bd 7 (k:=g) Z ⟨b.1,by first|exact b.2|simpa using b.2⟩) λar=>?_;refine pW 6 7 ⟨b.1,by first|exact b.2|simpa using b.2⟩ Z Z Z Z Z (by simp) ar Z ?_;refine eM ?_;cases h;exact Ga (List.set (List.set A (Int.toNat f) aE) (Int.toNat g) aJ) Z Z .normal (.inr Z) (aZ.ix [6,7] Z Z) aG.nil
def tD (b:cG) (a:fO):Option sZ:=
 some ((b.1,a))
def lQ (U:Nat) (b:Dt) (d:cG) (a:Int×fO) (c:(Int×fO)->Option sZ) (e:Bool):Option sZ:=
 if e=true then(ck (0<=a.1∧a.1<(List.length b.2.1:Int)) (Option.bind (gW U (at' b.2.1 a.1) (List.length d.2:Int)) λf=>(ck (0<=(wI .i64 (a.1+(1:Int)))∧(wI .i64 (a.1+(1:Int)))<(List.length b.2.1:Int)) (Option.bind (gW U (at' b.2.1 (wI .i64 (a.1+(1:Int)))) (List.length d.2:Int)) λg=>(Option.bind (rY U b.2.2.1 a.1) λh=>(Option.bind (gW U h (15:Int)) λi=>(Option.bind (mN U ((b.1,b.2.1,b.2.2.1,b.2.2.2.1,b.2.2.2.2.1,b.2.2.2.2.2)) ((d.1,a.2)) f g (wI .i64 ((1:Int)+i))) λj=>(c ((wI .i64 (a.1+(2:Int))),j)))))))))else(tD d (a.2))
def oS (U:Nat) (c:Dt) (d:cG) (a:Int×fO) (b:(Int×fO)->Option sZ):Option sZ:=
 if(wI .i64 (a.1+(1:Int)))<(List.length c.2.1:Int)then(lQ U c d a b (decide (a.1<(60:Int))))else(lQ U c d a b (false))
def mO (U:Nat) (b:Dt) (a:cG):Option sZ:=
 bL (oS U b a) U ((List.length a.2:Int),a.2)
theorem adf:aU Tryz.prog 21:=Tryz.call21
theorem FP (U:Nat) {a:Dt} {e:cG} (n:Value)  (m:Value)  (o:Value)  (f:Value)  (g:Value)  (O:fT) (r:(aO×fO)) (h:mO U a e=some r):
  Fv Tryz.prog 21 #[Value.agg #[vI (a.1),n,m,o,vB (a.2.2.2.2.1),vB (a.2.2.2.2.2)],Value.agg #[f,g]] [Ar bX f e.1,Ar cQ.raw g O,jZ b_ O e.2] [Sl bO n a.2.1,Sl bO m a.2.2.1,Sl bO o a.2.2.2.1] (λx:Value×Value×List Value=>Value.agg #[x.1,x.2.1]) (λx l=>Ar bX x.1 r.1::Ar cQ.raw x.2.1 x.2.2::jZ b_ x.2.2 r.2::l):=by
 refine Fv.of (vs:=[Value.agg #[vI (a.1),n,m,o,vB (a.2.2.2.2.1),vB (a.2.2.2.2.2)],Value.agg #[f,g]]) Tryz.func21 Z Tryz.ntmps21 Z λc=>?_;unfold mO at h;refine aW<|aH (aN.box (cs:=[vI (a.1),n,m,o,vB (a.2.2.2.2.1),vB (a.2.2.2.2.2)]) Z Z) Z λv=>aH (aN.box (cs:=[f,g]) Z Z) Z λq=>aH (aN.alloc (cs:=[lH,lH]) Z Z) Z λs=>aM<|aW<|bW Z<|dN 1 Z<|aB (gQ Z (bV (i:=4) (j:=5) Z Z bU) Z) Z<|aE Z<|aM<|aK<|Bv (B:=fT) (λt=>tD e t=some r) (λt u=>[(3,vP q),(4,vP s)]) (λt u=>[bY s [lH,lH] 28,bY q [f,g] 28,Ar bX f e.1,Ar cQ.raw g u,jZ b_ u t]) (λt u=>[Sl bO n a.2.1,Sl bO m a.2.2.1,Sl bO o a.2.2.2.1]) ?_ ?_
 ·refine aW<|aA Z<|aE Z<|aM<|aT<|Ew (B:=fT) (oS U a e) (λb d=>[(2,vP v),(3,vP q),(4,vP s),(5,vI (List.length e.2:Int)),(6,vI (b.1))]) (λb d=>[bY s [lH,lH] 28,bY q [f,g] 28,bY v [vI (a.1),n,m,o,vB (a.2.2.2.2.1),vB (a.2.2.2.2.2)] 24,Ar bX f e.1,Ar cQ.raw g d,jZ b_ d b.2]) (λb d=>[Sl bO n a.2.1,Sl bO m a.2.2.1,Sl bO o a.2.2.2.1]) ((List.length e.2:Int),e.2) (O) h SF (aZ.refl _) (aG.refl _ _) ?_;intro J b d h;refine aK<|aK<|Bv (B:=Unit) (λk=>lQ U a e b (bL (oS U a e) J) k=some r) (λk p=>[(2,vP v),(3,vP q),(4,vP s),(5,vI (List.length e.2:Int)),(6,vI (b.1)),(20,vB (k))]) (λk p=>[bY s [lH,lH] 28,bY q [f,g] 28,bY v [vI (a.1),n,m,o,vB (a.2.2.2.2.1),vB (a.2.2.2.2.2)] 24,Ar bX f e.1,Ar cQ.raw g d,jZ b_ d b.2]) (λk p=>[Sl bO n a.2.1,Sl bO m a.2.2.1,Sl bO o a.2.2.2.1]) ?_ ?_
  ·refine aS<|aA Z<|cL Z<|bW Z<|dN 2 Z<|kT (aF.fact 0 Z) Z<|cY Z<|aA Z ?_;refine FG h Z (λ_ h=>?_) λ_ h=>?_
   ·refine eR Z<|aX Z (Lv Z Z) Z<|fM Z<|aM ?_;exact jG (decide (b.1<(60:Int))) () h SF Z
   refine aP Z<|aP Z<|iI Z<|aM ?_;exact jG (false) () h SF Z
  intro k p h;refine BM h Z (λ_ h=>?_) λ_ h=>?_
  ·refine cU<|aK<|aT ?_;refine JR.start [0,0,0,4,0,28,60,0,252,0,512,0,2048,7680,15872,0,65532,0,131072,0,1048572,2097148,4194300,8388607] 23 mixedOrders (by decide +kernel) ?_;refine JR.open (by exact rfl) ?_;refine nU 2 Z<|nU 1 Z<|dD Z<|jO 2 Z<|bH Z<|dB h λE h=>bK Z .nil (lE 0 Z) (bB Z Z (aF.fact 0 Z) Z Z E) aL.z<|bK Z .nil (lE 0 Z) (bS Z (aF.fact 0 Z) Z Z Z cX E) aL.z<|bH Z<|fU h λK w h=>JR.loud Z Z Z (aN.callQ DJ (lF U  K w) Z .nil) Z (λP=>(vY [([1],[]),([2],[])] Z)) λP=>iX Z (eN Z Z Z Z Z)<|bK Z (aZ.cons 2 Z .nil) .nil (gE 0 Z Z Z Z Z) (aL.h (aZ.ix [2] Z Z) .nil aL.z)<|iX Z (fH Z)<|iX Z (y_ Z Z)<|dB h λF h=>bK Z .nil (lE 0 Z) (bB Z Z (aF.fact 0 Z) Z Z F) (aL.h .nil (lE 0 Z) aL.z)<|bK Z .nil (lE 0 Z) (bS Z (aF.fact 0 Z) Z Z Z cX F) (aL.h .nil (lE 0 Z) aL.z)<|iX Z (fH Z)<|fU h λL y h=>JR.loud Z Z Z (aN.callQ DJ (lF U  L y) Z .nil) Z (λQ=>(vY [([1],[]),([2],[])] Z)) λQ=>iX Z (eN Z Z Z Z Z)<|bK Z (aZ.cons 2 Z .nil) .nil (gE 0 Z Z Z Z Z) (aL.h (aZ.ix [2] Z Z) .nil (aL.h (aZ.ix [2] Z Z) .nil aL.z))<|iX Z (fH Z)<|fU h λM A h=>JR.loud Z Z Z (aN.callQ JD (AW U m M A) Z (oO [1] Z)) Z (λR=>(vY [([1],[]),([2],[])] Z)) λR=>fU h λN C h=>JR.loud Z Z Z (aN.callQ DJ (lF U  N C) Z .nil) Z (λS=>(vY [([1],[]),([2],[])] Z)) λS=>iX Z (y_ Z Z)<|bQ 23 Z Z<|fU h λG D h=>aH (Fu (Min:=[Ar cQ.raw g d,jZ b_ d b.2]) (Mr:=[bY s [lH,lH] 28,bY q [f,g] 28,bY v [vI (a.1),n,m,o,vB (a.2.2.2.2.1),vB (a.2.2.2.2.2)] 24,Ar bX f e.1]) WZ (AS U n m o f g d G D) Z (aZ.ix [4,5,0,1,2,3] Z Z) (aG.cons (aF.fact 0 Z) (aG.cons (aF.fact 1 Z) (aG.cons (aF.fact 2 Z) (aG.cons (bF (aF.res 3 Z) dC) .nil)))) (λ_ _=>rfl)) Z λT=>eM<|oD<|aS<|aA Z<|cL Z<|aE Z<|aM ?_;exact nR ((wI .i64 (b.1+(2:Int))),G) (T) h SF (aZ.ix [2,3,4,5,0,1] Z Z) (aG.refl _ _)
  refine fV ?_;exact cK (b.2) (d) h SF (aZ.ix [0,1,3,4,5] Z Z) (aG.refl _ _)
 intro t u h;unfold tD at h;refine aW<|eQ 1 Z<|cF (Know.one ((bF (aF.res 2 Z) dC))) λH=>cF (Know.one (aF.sl (bV (i:=3) (j:=4) Z Z bU))) λI=>bT 0 (vs:=[f,g]) Z Z (kW H (kW I Z)) Z Z Z<|aM<|aV ?_;cases h;exact hZ (f,g,u) Z Z (RV.cell 0 Z Z Z Z) (aZ.ix [2,3,4] Z Z) aG.nil
def nS (b:Int) (a:aO):Option sZ:=
 some ((a,(List.replicate (Int.toNat (wI .i64 ((1:Int)+b))) ([]:fN))))
def rM (a:kU) (c:qP->Option sZ) (b:Int):Option sZ:=
 ck ((List.length a.2:Int)+(List.length ([b]):Int)<=1099511627) (c ((wI .i64 (a.1+(1:Int))),(a.2++[b])))
def kY (b:iQ->Option sZ) (a:fF):Option sZ:=
 b (a.1,(wI .i64 (a.2+(1:Int))))
def kZ (b:kU) (d:qP->Option sZ) (a:fF) (c:iQ->Option sZ):Option sZ:=
 if a.2<b.1 then(ck (0<=a.2∧a.2<(List.length b.2:Int)) (if(at' b.2 a.2)=a.1 then(ck ((256:Int)≠0) (kY c ((Int.tmod (wI .i64 (a.1+(1:Int))) (256:Int)),(-1:Int))))else(kY c (a.1,a.2))))else(rM b d (a.1))
def jA (U:Nat) (f:Dt) (e:Int) (a:kU) (b:qP->Option sZ):Option sZ:=
 if a.1<(wI .i64 ((1:Int)+e))then(Option.bind (rY U f.2.2.2.1 a.1) λc=>(Option.bind (gW U c (256:Int)) λd=>(bL (kZ a b) U (d,(0:Int)))))else(nS e (a.2))
def oU (U:Nat) (b:Dt) (c:Int):Option sZ:=
 Option.bind (gW U (wI .i64 (b.1 - (1:Int))) c) λa=>(ck (0<=(wI .i64 ((1:Int)+a))∧(wI .i64 ((1:Int)+a))<=1099511627) (bL (jA U b a) U ((0:Int),([]:aO))))
theorem adm:aU Tryz.prog 43:=Tryz.call43
theorem EW (U:Nat) {d:Dt} {S:Int} (y:Value)  (z:Value)  (u:Value) (r:(aO×fO)) (h:oU U d S=some r):
  aY Tryz.prog 43 #[Value.agg #[vI (d.1),y,z,u,vB (d.2.2.2.2.1),vB (d.2.2.2.2.2)],vI (S)] [Sl bO y d.2.1,Sl bO z d.2.2.1,Sl bO u d.2.2.2.1] (λx:Value×Value×List Value=>Value.agg #[x.1,x.2.1]) (λx l=>Ar bX x.1 r.1::Ar cQ.raw x.2.1 x.2.2::jZ b_ x.2.2 r.2::l) (λ_ l=>l):=by
 refine aY.of Tryz.func43 Z Tryz.ntmps43 Z λc=>?_;refine aW<|aH (aN.box (cs:=[vI (d.1),y,z,u,vB (d.2.2.2.2.1),vB (d.2.2.2.2.2)]) Z Z) Z λt=>aH (aN.alloc (cs:=[lH,lH]) Z Z) Z λq=>aM<|aW<|bW Z<|dN 1 Z<|aB (qX Z Z) Z<|aA Z<|fU h λb W h=>aH (aN.callQ DJ (lF U  b W) Z .nil) Z λx5=>cL Z<|aE Z<|aM<|aW<|aA Z<|dB h λT h=>jL (yN b_ (Int.toNat (wI .i64 ((1:Int)+b))))<|aH (mC (e:=cQ.raw) (lH) Z Z Z Z T Z Z Z) Z λn=>cF (Know.one (aF.sl (bV (i:=0) (j:=1) Z Z bU))) λK=>?_;refine aB (WG (r:=Value.agg #[lH,n]) Z (by intro w;simp[Instr.build,Instr.fill,eX,dY,dH,eY,eZ,dZ,gK,eI K])) Z ?_;refine aH (aN.alloc (cs:=[lH,lH]) Z Z) Z λs=>cF (Know.one (aF.sl (bV (i:=1) (j:=2) Z Z bU))) λE=>bT 0 (vs:=[lH,n]) Z Z (kW Z (kW E Z)) Z Z Z<|aM<|aK<|ER (B:=Value) (λp=>nS b p=some r) (λp o=>[(4,vP q),(6,vP s)]) (λp o=>[bY s [o,n] 28,Ar cQ.raw n (List.replicate (Int.toNat (wI .i64 ((1:Int)+b))) (lH)),jZ b_ (List.replicate (Int.toNat (wI .i64 ((1:Int)+b))) (lH)) (List.replicate (Int.toNat (wI .i64 ((1:Int)+b))) ([]:fN)),bY q [lH,lH] 28,Ar bX o p]) ?_ ?_
 ·refine aW<|aE Z<|aM<|aT<|jL (iK bX)<|eV (B:=Value) (jA U d b) (λa f=>[(2,vP t),(4,vP q),(5,vI (wI .i64 ((1:Int)+b))),(6,vP s),(7,vI (a.1))]) (λa f=>[bY s [f,n] 28,Ar cQ.raw n (List.replicate (Int.toNat (wI .i64 ((1:Int)+b))) (lH)),jZ b_ (List.replicate (Int.toNat (wI .i64 ((1:Int)+b))) (lH)) (List.replicate (Int.toNat (wI .i64 ((1:Int)+b))) ([]:fN)),bY q [lH,lH] 28,bY t [vI (d.1),y,z,u,vB (d.2.2.2.2.1),vB (d.2.2.2.2.2)] 24,Ar bX f a.2]) ((0:Int),([]:aO)) (lH) h SF (aZ.ix [1,2,3,4,5,0] Z Z) ?_;intro v a f h;refine aK<|aW<|aA Z<|aA Z<|cY Z<|aM ?_;refine fJ h Z (λh=>?_) λh=>?_
  ·refine cU<|aK<|aT<|aW<|bW Z<|dN 4 Z<|aA Z<|fU h λO Q h=>aH (aN.callQ JD (AW U u O Q) Z (oO [2] Z)) Z λX=>fU h λJ R h=>aH (aN.callQ DJ (lF U  J R) Z .nil) Z λY=>aE Z<|aM<|aK<|eS (λg=>rM a (bL (jA U d b) v) g=some r) (λg A=>[(2,vP t),(4,vP q),(5,vI (wI .i64 ((1:Int)+b))),(6,vP s),(7,vI (a.1)),(8,vI (g))]) (λg A=>[bY s [f,n] 28,Ar cQ.raw n (List.replicate (Int.toNat (wI .i64 ((1:Int)+b))) (lH)),jZ b_ (List.replicate (Int.toNat (wI .i64 ((1:Int)+b))) (lH)) (List.replicate (Int.toNat (wI .i64 ((1:Int)+b))) ([]:fN)),bY q [lH,lH] 28,bY t [vI (d.1),y,z,u,vB (d.2.2.2.2.1),vB (d.2.2.2.2.2)] 24,Ar bX f a.2]) ?_ ?_
   ·refine aW<|aE Z<|aM<|aT<|eV (kZ a (bL (jA U d b) v)) (λk C=>[(2,vP t),(4,vP q),(5,vI (wI .i64 ((1:Int)+b))),(6,vP s),(7,vI (a.1)),(8,vI (k.1)),(9,vI (k.2))]) (λk C=>[bY s [f,n] 28,Ar cQ.raw n (List.replicate (Int.toNat (wI .i64 ((1:Int)+b))) (lH)),jZ b_ (List.replicate (Int.toNat (wI .i64 ((1:Int)+b))) (lH)) (List.replicate (Int.toNat (wI .i64 ((1:Int)+b))) ([]:fN)),bY q [lH,lH] 28,bY t [vI (d.1),y,z,u,vB (d.2.2.2.2.1),vB (d.2.2.2.2.2)] 24,Ar bX f a.2]) (J,(0:Int)) () h SF (aZ.refl _) ?_;intro N k C h;refine aK<|aW<|aA Z<|aA Z<|cY Z<|aM ?_;refine fJ h Z (λh=>?_) λh=>?_
    ·refine cU<|aK<|eS (λm=>kY (bL (kZ a (bL (jA U d b) v)) N) m=some r) (λm D=>[(2,vP t),(4,vP q),(5,vI (wI .i64 ((1:Int)+b))),(6,vP s),(7,vI (a.1)),(8,vI (m.1)),(9,vI (m.2))]) (λm D=>[bY s [f,n] 28,Ar cQ.raw n (List.replicate (Int.toNat (wI .i64 ((1:Int)+b))) (lH)),jZ b_ (List.replicate (Int.toNat (wI .i64 ((1:Int)+b))) (lH)) (List.replicate (Int.toNat (wI .i64 ((1:Int)+b))) ([]:fN)),bY q [lH,lH] 28,bY t [vI (d.1),y,z,u,vB (d.2.2.2.2.1),vB (d.2.2.2.2.2)] 24,Ar bX f a.2]) ?_ ?_
     ·refine aT<|aW<|bW Z<|dN 0 Z<|aA Z<|dB h λI h=>aB (bB Z Z (bF (aF.res 5 Z) dC) Z Z I) Z<|aB (bS Z (bF (aF.res 5 Z) dC) Z Z Z cX I) Z<|aA Z<|cT Z<|aM ?_;refine fJ h Z (λh=>?_) λh=>?_
      ·refine aS<|aA Z<|cL Z<|dB h λM h=>aB (OF Z Z M) Z<|aE Z<|aE Z<|eM<|oD ?_;exact jG ((Int.tmod (wI .i64 (k.1+(1:Int))) (256:Int)),(-1:Int)) () h SF Z
      refine dO<|oD ?_;exact jG (k.1,k.2) () h SF Z
     intro m D h;unfold kY at h;refine aS<|aA Z<|cL Z<|aE Z<|aM ?_;exact Al (m.1,(wI .i64 (m.2+(1:Int)))) () h SF Z
    refine fV ?_;exact jG (k.1) () h SF Z
   intro g A h;refine aS<|bW Z<|dN 0 Z<|aA Z<|aH (cA (e:=bX) ([g]) [(0,vI (g))] Z Z Z Z (nT (vI (g)) Z) Z Z Z) Z λV=>dB h λL h=>aH (eW 6 dC Z Z Z (bF (aF.res 0 Z) dC) Z Z Z Z L Z) Z λP=>bW Z<|cF (Know.one ((bF (aF.res 6 Z) dC))) λH=>iB 1 Z Z H Z Z Z<|eM<|oD<|aS<|aA Z<|cL Z<|aE Z<|aM ?_;exact nR ((wI .i64 (a.1+(1:Int))),(a.2++[g])) (P) h SF (aZ.ix [1,2,3,4,5,6] Z Z) (aG.refl _ _)
  refine fV ?_;exact cK (a.2) (f) h SF (aZ.ix [0,1,2,3,5] Z Z) (aG.refl _ _)
 intro p o h;unfold nS at h;refine aW<|eQ 0 Z<|cF (Know.one ((bF (aF.res 4 Z) dC))) λF=>cF (Know.one (aF.sl (bV (i:=1) (j:=2) Z Z bU))) λG=>bT 3 (vs:=[o,n]) Z Z (kW F (kW G Z)) Z Z Z<|aM<|aV ?_;cases h;exact hZ (o,n,(List.replicate (Int.toNat (wI .i64 ((1:Int)+b))) (lH))) Z Z (RV.cell 3 Z Z Z Z) (aZ.ix [4,1,2] Z Z) aG.nil
end Go.Proofs.YtlkhndebimcbbaaGreatDoor