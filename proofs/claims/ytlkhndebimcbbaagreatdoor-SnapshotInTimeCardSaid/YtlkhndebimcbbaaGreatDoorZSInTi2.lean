/- Models and proofs. Conditions: none. -/
import Derived.Test.YtlkhndebimcbbaaGreatDoorZSInTi1
import Derived.Maps.RangeRun
set_option linter.unusedVariables false
set_option linter.unusedSimpArgs false
set_option maxHeartbeats 4000000
set_option maxRecDepth 20000
section
set_option linter.unusedSectionVars false
namespace Go.Sx
open Go.RowKit
section defs
variable {κ ν:Type} [DecidableEq κ]
def D_ (a:κ->Value) (b:ν->Value):Nat->List (κ×ν)->List MapEntry
 |_,[]=>[]
 |i,x::xs=>⟨a x.1,b x.2,i⟩::D_ a b (i+1) xs
def mE (k:κ):List (κ×ν)->Option ν
 | []=>none
 |x::xs=>if k=x.1 then some x.2 else mE k xs
def CF (k:κ) (v:ν):List (κ×ν)->List (κ×ν)
 | []=>[(k,v)]
 |x::xs=>if k=x.1 then(k,v)::xs else x::CF k v xs
def Vd (a:ν->Value) (k:κ):Nat->List (κ×ν)->Option (Nat×Value)
 |_,[]=>none
 |i,x::xs=>if k=x.1 then some (i,a x.2)else Vd a k (i+1) xs
theorem Ng (a:ν->Value) (k:κ):∀(i:Nat) (l:List (κ×ν)),(Vd a k i l).map (·.2)=(mE k l).map a
 |_,[]=>rfl
 |i,x::xs=>by
  simp only[Vd,mE];split
  ·rfl
  ·exact Ng a k (i+1) xs
theorem Kj (a:κ->Value) (b:ν->Value):∀(i:Nat) (l:List (κ×ν)) (x:κ×ν),D_ a b i (l++[x])=D_ a b i l++[⟨a x.1,b x.2,i+l.length⟩]
 |i,[],x=>rfl
 |i,y::ys,x=>by
  simp only[List.cons_append,D_,Kj a b (i+1) ys x,List.length_cons];rw[show i+1+ys.length=i+(ys.length+1) by omega]
theorem HC (k:κ) (v:ν):∀l:List (κ×ν),mE k l=none->CF k v l=l++[(k,v)]
 | [],_=>rfl
 | x :: xs, h => by
  simp only[mE]at h;split at h
  ·cases h
  ·rename_i a;simp only[CF,if_neg a,HC k v xs h,List.cons_append]
theorem Tx (a:κ->Value) (b:ν->Value) (k:κ) (v:ν):∀(i0 i:Nat) (l:List (κ×ν)) (j:Nat) (u:Value),Vd b k i l=some (j,u)->
  i<=j∧((D_ a b i l)[j - i]?).map (·.key)=some (a k)∧D_ a b i (CF k v l)=(D_ a b i l).modify (j - i) (λe=>{e with key:=a k,val:=b v})∧(CF k v l).length=l.length
 |_,i,[],j,u,h=>by simp[Vd]at h
 | i0, i, x :: xs, j, u, h => by
  simp only[Vd]at h;split at h
  ·rename_i n;simp only[Option.some.injEq,Prod.mk.injEq]at h;obtain⟨rfl,_⟩:=h;simp[D_,CF,n]
  ·rename_i c;obtain⟨o,f,g,m⟩:=Tx a b k v i0 (i+1) xs j u h;have d:j - i=(j - (i+1))+1:=by omega
   refine⟨by omega,?_,?_,?_⟩
   ·rw[d];simpa [D_]using f
   ·simp only[CF,if_neg c,D_];rw[d,List.modify_succ_cons,g]
   ·simp[CF,c,m]
end defs
structure Jm (P:Program) (kt:TypeId) {κ:Type} [DecidableEq κ] (ek:κ->Value):Prop where
 chk:∀b k w,(Instr.checkKey b 10000 kt (ek k)).run P w = .ok () w
 find:∀{ν:Type} (ev:ν->Value) (k:κ) (l:List (κ×ν)) w,(Instr.findKey kt (ek k) (D_ ek ev 0 l)).run P w = .ok (Vd ev k 0 l) w
 same:∀k,Instr.sameBits 10000 (ek k) (ek k)=true
def Mp {b c:Type} (d:b->Value) (e:c->Value) (r:Nat) (l:List (b×c)):bA where
 p w F:=F r∧w.heap[r]? = some (.map (D_ d e 0 l).toArray l.length)
 mono:=fun⟨f,a⟩ h=>by
  obtain⟨g,i⟩:=h r f (Array.getElem?_eq_some_iff.1 a).1;exact⟨g,by rw[i];exact a⟩
section
variable {P:Program} {rd:Option Nat} {c:uJ} {n:Sz} {σ:Fr} {M L:List bA} {Q:Exit->Act->World->Prop} {ops:Array Oper} {rest:List Oper}
variable {d:Option Tmp} {ty:TypeId} {pos:String} {aft:Array Edge} {g:Option (Nat×Bool)}
theorem St.push {w:World} (t:St c M L w) (o:Obj) {m:bA} (z:m.p (w.alloc o) (λk=>k=w.heap.size)):St c (m::M) L (w.alloc o):=by
 have e:MC w (w.alloc o):=(Below.refl _ _).alloc (Nat.le_refl _) _;obtain⟨v,F,b,x⟩:=t;have u:∀k,k<w.heap.size->(w.alloc o).heap[k]? = w.heap[k]? := e.block;refine⟨v.trans e,λi k=>match i with|0=>k=w.heap.size|i+1=>F i k,⟨?_,?_,?_⟩,λf y=> ?_⟩
 ·intro i A a;cases i with
  |zero=>simp at a;subst a;exact z
  |succ i=>exact bA.same (b.res i A (by simpa using a)) (λ_ h=>h) (λk _ s=>u k s)
 ·intro i k q;cases i with
  |zero=>subst q;exact⟨.inl v.size,by simp⟩
  |succ i=>exact⟨(b.rng i k q).1,Nat.lt_of_lt_of_le (b.rng i k q).2 e.size⟩
 ·intro i j k l r;cases i with
  |zero=>
   cases j with
   |zero=>rfl
   |succ j=>have:=(b.rng j k r).2;simp only at l;omega
  |succ i=>
   cases j with
   |zero=>have:=(b.rng i k l).2;simp only at r;omega
   |succ j=>exact congrArg (· + 1) (b.dis i j k l r)
 ·exact f.mono (x f y) λk q s=>⟨⟨q.1,λi l=>by
   cases i with
   |zero=>simp only at l;omega
   |succ i=>exact q.2 i l⟩,u k s⟩
variable {κ ν:Type} [DecidableEq κ] {ek:κ->Value} {ev:ν->Value}
theorem aN.makeMap (ek:κ->Value) (ev:ν->Value) {T:TypeId}:aN P c n σ M L ⟨d,.makeMap T none,ty,pos,aft,g⟩ (λr:Nat=> .map (some r)) (λr=>Mp ek ev r []::M) (λ_=>L):=λa w s t=>by
 have b:(execOp a.eval ⟨d,.makeMap T none,ty,pos,aft,g⟩).run P w = .ok (.value (.map (some w.heap.size))) (w.alloc (.map #[] 0)):=by
  simp[execOp,Instr.makeMap]
 simp only[Oper.wp,b,Oper.upon];exact⟨w.heap.size,rfl,t.push _ ⟨rfl,heap_alloc_new w _⟩⟩
theorem Sm [cL P] {T j m:TypeId} {C D E G:Nat} {z f:Value} {o:TypeDesc} {w:World} {r:Nat} {l:List (κ×ν)} {F:Nat->Prop} (i:Jm P j ek) (q:(Mp ek ev r l).p w F)
  (s:cL.tab P T=some ⟨.map j m,C,D,z⟩) (t:cL.tab P m=some ⟨o,E,G,f⟩) (k:κ) (b:Bool):
  (Instr.lookup T (.map (some r)) (ek k) b).run P w = .ok (if b then .tuple #[((mE k l).map ev).getD f,.bool (mE k l).isSome]else((mE k l).map ev).getD f) w:=by
 have y:(getObj r).run P w = .ok (.map (D_ ek ev 0 l).toArray l.length) w:=by
  simp[getObj,Sem.run,q.2]
 have u:=i.find ev k l w;have a:=Ng ev k 0 l;simp only[Instr.lookup];simp[(cL.ok s).run_und w,y,i.chk,u];cases e:Vd ev k 0 l with
 |none=>
  rw[e]at a;have:mE k l=none:=by cases h:mE k l<;>simp[h]at a ⊢
  simp[this,(cL.ok t).run_zero w]
 | some x =>
  rw[e]at a;obtain⟨v,A,B⟩:∃v,mE k l=some v∧ev v=x.2:=by
   cases h:mE k l with
   |none=>simp[h]at a
   |some v=>simp[h]at a;exact⟨v,rfl,a.symm⟩
  simp[A,B]
theorem OE [cL P] (j:Nat) {T e f:TypeId} {D E G H:Nat} {z h:Value} {i:TypeDesc} {x y:Operand} {r:Nat} {l:List (κ×ν)} (k:κ) {b:Bool} (v:Jm P e ek) (B:Go.Sx.ev σ x=some (.map (some r))) (C:Go.Sx.ev σ y=some (ek k)) (q:M[j]? = some (Mp ek ev r l))
  (o:cL.tab P T=some ⟨.map e f,D,E,z⟩) (p:cL.tab P f=some ⟨i,G,H,h⟩) {u:Value} (A:((mE k l).map ev).getD h=u):
  Y P c n σ M L ⟨d,.lookup T x y b,ty,pos,aft,g⟩ (if b then .tuple #[u,.bool (mE k l).isSome]else u):=λa w s t=>by
 obtain⟨F,m⟩:=t.res q;subst A;simp[execOp,s.eval B,s.eval C,Sm v m o p]
theorem Ed {w:World} {r:Nat} {a:Array MapEntry} {k:Nat} (h:w.heap[r]? = some (.map a k)) (o:Obj):(setObj r o).run P w = .ok () {w with heap:=w.heap.setIfInBounds r o}:=by
 simp[setObj,Sem.run,h]
theorem St.setMap {w:World} (t:St c M L w) {j r:Nat} {l b:List (κ×ν)} (f:M[j]? = some (Mp ek ev r l)) (o:Obj) (m:o = .map (D_ ek ev 0 b).toArray b.length):
  St c (M.set j (Mp ek ev r b)) L {w with heap:=w.heap.setIfInBounds r o}:=
 t.upd f Z Z Z (by simp) λF a _=>⟨λk _ i=>by
   rw[Array.getElem?_setIfInBounds_ne (λe=>i (by subst e;exact a.1))],F,⟨a.1,by
    rw[Array.getElem?_setIfInBounds_self_of_lt (Array.getElem?_eq_some_iff.1 a.2).1,m]⟩,λ_ h=> .inl h⟩
theorem NZ [cL P] (j:Nat) {T R vt:TypeId} {s1 s2:Nat} {z:Value} {x y v:Operand} {r:Nat} {l:List (κ×ν)} (k:κ) (f:ν) (C:Jm P R ek) (Y:Go.Sx.ev σ x=some (.map (some r))) (hy:Go.Sx.ev σ y=some (ek k)) (X:Go.Sx.ev σ v=some (ev f)) (K:M[j]? = some (Mp ek ev r l))
  (I:cL.tab P T=some ⟨.map R vt,s1,s2,z⟩) (h:J c n σ (M.set j (Mp ek ev r (CF k f l))) L (wpList P ops Q rest)):
  J c n σ M L (wpList P ops Q (⟨none,.mapUpdate T x y v,ty,pos,aft,none⟩::rest)):=λa w s t=>by
 refine mC Z ?_;obtain⟨F,E⟩:=t.res K;have N:(getObj r).run P w = .ok (.map (D_ ek ev 0 l).toArray l.length) w:=by
  simp[getObj,Sem.run,E.2]
 have b:=C.find ev k l w;have A:=Ng ev k 0 l;have B:∃o:Obj,(execOp a.eval ⟨none,.mapUpdate T x y v,ty,pos,aft,none⟩).run P w = .ok .skip {w with heap:=w.heap.setIfInBounds r o}∧o = .map (D_ ek ev 0 (CF k f l)).toArray (CF k f l).length:=by
  simp only[execOp,s.eval Y,s.eval hy,s.eval X,Instr.mapUpdate];cases m:Vd ev k 0 l with
  |none=>
   rw[m]at A b;have U:mE k l=none:=by cases h:mE k l<;>simp[h]at A ⊢
   refine⟨.map (D_ ek ev 0 l++[(⟨ek k,ev f,l.length⟩:MapEntry)]).toArray (l.length+1),by simp[(cL.ok I).run_und w,N,C.chk,b,Ed E.2],?_⟩
   rw[HC k f l U,Kj];simp
  | some q =>
   obtain⟨i,u⟩:=q;rw[m]at b;obtain⟨_,D,H,S⟩:=Tx ek ev k f 0 0 l i u m;rw[Nat.sub_zero]at D H;have O:(((D_ ek ev 0 l).toArray[i]?).map (·.key)).getD (ek k)=ek k:=by
    rw[List.getElem?_toArray,D];rfl
   refine⟨.map ((D_ ek ev 0 l).toArray.modify i λe=>{e with key:=ek k,val:=ev f}) l.length,?_,?_⟩
   ·have G:(Instr.keyThatStays (ek k) (ek k)).run P w = .ok (ek k) w:=by simp[Instr.keyThatStays,C.same k]
    have p:(Option.map (λx=>x.key) (D_ ek ev 0 l)[i]?).getD (ek k)=ek k:=by rw[D];rfl
    simp[(cL.ok I).run_und w,N,C.chk,b,p,G,Ed E.2]
   ·rw[H,S];simp
 obtain⟨o,W,V⟩:=B;simp only[Oper.wp,W,Oper.upon];exact h _ _ s (t.setMap K o V)
end
end Go.Sx
end
section
set_option linter.unusedSectionVars false
namespace Go.Sx
open Go.RowKit Go.ChangeMaps
def It (b m a:Nat) (c:List Nat):bA where
 p w F:=F b∧w.heap[b]? = some (.mapIter (some m) a c.toArray a)
 mono:=fun⟨e,d⟩ h=>by
  obtain⟨f,g⟩:=h b e (Array.getElem?_eq_some_iff.1 d).1;exact⟨f,by rw[g];exact d⟩
section
variable {κ ν:Type} [DecidableEq κ] {ek:κ->Value} {ev:ν->Value} {R:Type}
theorem Nu (ek:κ->Value) (ev:ν->Value):∀(k:Nat) (l:List (κ×ν)) (e:MapEntry),e∈D_ ek ev k l->∃i a,l[i]? = some a∧e=⟨ek a.1,ev a.2,k+i⟩
 |_,[],e,h=>by simp[D_]at h
 | k, x :: xs, e, h => by
  rcases List.mem_cons.1 h with rfl|h
  ·exact⟨0,x,rfl,rfl⟩
  ·obtain⟨i,a,b,c⟩:=Nu ek ev (k+1) xs e h;exact⟨i+1,a,b,by rw[c,show k+1+i=k+(i+1) by omega]⟩
theorem Ns (ek:κ->Value) (ev:ν->Value):∀(k:Nat) (l:List (κ×ν)) (i:Nat) (a:κ×ν),l[i]? = some a->(⟨ek a.1,ev a.2,k+i⟩:MapEntry)∈D_ ek ev k l
 |_,[],i,a,h=>by simp at h
 |k,x::xs,0,a,h=>by simp at h;subst h;exact List.mem_cons_self
 |k,x::xs,i+1,a,h=>by
  have:=Ns ek ev (k+1) xs i a (by simpa using h);rw[show k+1+i=k+(i+1) by omega]at this;exact List.mem_cons_of_mem _ this
theorem Pv (ek:κ->Value) (ev:ν->Value):∀(k:Nat) (l:List (κ×ν)),(D_ ek ev k l).map (·.born)=List.range' k l.length
 |_,[]=>rfl
 |k,x::xs=>by simp[D_,Pv ek ev (k+1) xs,List.range'_succ]
def KZ (a:κ×ν->Option R->Option R) (K:Option R) (l:List (κ×ν)):Option R:=l.foldr a K
def rem (l:List (κ×ν)) (a:List Nat):List (κ×ν):=((List.range l.length).filter (λi=> !a.contains i)).filterMap (λi=>l[i]?)
theorem LY:∀l:List (κ×ν),(List.range l.length).filterMap (λi=>l[i]?)=l
 | []=>rfl
 |x::xs=>by
  rw[List.length_cons,List.range_succ_eq_map,List.filterMap_cons];simp only[List.getElem?_cons_zero,List.filterMap_map];congr 1;have:=LY xs;simpa [Function.comp_def]using this
theorem abH (l:List (κ×ν)):rem l []=l:=by
 unfold rem;rw[List.filter_eq_self.2 (by simp),LY]
theorem YH {l:List (κ×ν)} {a:List Nat} {i:Nat} {m:κ×ν} (k:l[i]? = some m) (t:i∉a):∃n o,rem l a=n++m::o∧rem l (a++[i])=n++o:=by
 have g:=bE k;have d:i∈(List.range l.length).filter (λi=> !a.contains i):=by simp[g,t]
 obtain⟨A,B,b⟩:=List.append_of_mem d;have c:((List.range l.length).filter (λi=> !a.contains i)).Nodup:=List.Pairwise.filter _ List.nodup_range;rw[b]at c;have r:i∉A:=λh=>by
  have:=(List.nodup_append.1 c).2.2 i h i List.mem_cons_self;exact this Z
 have s:i∉B:=λh=>by
  have:=(List.nodup_cons.1 (List.nodup_append.1 c).2.1).1;exact this h
 refine⟨A.filterMap (λi=>l[i]?),B.filterMap (λi=>l[i]?),?_,?_⟩
 ·unfold rem;rw[b,List.filterMap_append,List.filterMap_cons,k]
 ·unfold rem;have e:(List.range l.length).filter (λj=> !(a++[i]).contains j)=((List.range l.length).filter (λj=> !a.contains j)).filter (λj=>decide (j≠i)):=by
   rw[List.filter_filter];apply List.filter_congr;intro j _;rw[Bool.eq_iff_iff];simp[and_comm]
  rw[e,b,List.filter_append,List.filter_cons];have p:A.filter (λj=>decide (j≠i))=A:=List.filter_eq_self.2 (λj f=>by simp;rintro rfl;exact r f);have q:B.filter (λj=>decide (j≠i))=B:=List.filter_eq_self.2 (λj f=>by simp;rintro rfl;exact s f);rw[p,q,List.filterMap_append.symm];simp
theorem LX {c:κ×ν->Option R->Option R} (f:∀a b x,c a (c b x)=c b (c a x)) (K:Option R) (d:κ×ν) (e:List (κ×ν)):∀g:List (κ×ν),KZ c K (g++d::e)=c d (KZ c K (g++e))
 | []=>rfl
 |x::xs=>by
  have:=LX f K d e xs;unfold KZ at this ⊢;rw[List.cons_append,List.cons_append,List.foldr_cons,List.foldr_cons,this,f]
end
section
variable {P:Program} {rd:Option Nat} {c:uJ} {n:Sz} {σ σ':Fr} {M L M' L':List bA} {Q:Exit->Act->World->Prop} {ops:Array Oper} {rest:List Oper}
variable {d:Option Tmp} {ty:TypeId} {pos:String} {aft:Array Edge} {g:Option (Nat×Bool)}
variable {κ ν:Type} [DecidableEq κ] {ek:κ->Value} {ev:ν->Value} {R:Type}
theorem aN.range [cL P] (j:Nat) {T f h:TypeId} {q r:Nat} {z:Value} {x:Operand} {m:Nat} {l:List (κ×ν)} (p:Go.Sx.ev σ x=some (.map (some m))) (o:M[j]? = some (Mp ek ev m l)) (k:cL.tab P T=some ⟨.map f h,q,r,z⟩):
  aN P c n σ M L ⟨d,.range T x,ty,pos,aft,g⟩ (λb:Nat=> .pointer (some ⟨b,0,none⟩)) (λb=>It b m l.length []::M) (λ_=>L):=λa w s t=>by
 obtain⟨F,i⟩:=t.res o;have e:(execOp a.eval ⟨d,.range T x,ty,pos,aft,g⟩).run P w = .ok (.value (.pointer (some ⟨w.heap.size,0,none⟩))) (w.alloc (.mapIter (some m) l.length #[] l.length)):=by
  simp[execOp,s.eval p,run_range_map w T f h m _ _ (cL.ok k).und i.2]
 simp only[Oper.wp,e,Oper.upon];exact⟨w.heap.size,rfl,t.push _ ⟨rfl,heap_alloc_new w _⟩⟩
def Gy (ek:κ->Value) (ev:ν->Value) (l:List (κ×ν)):Option Nat->Value
 |none=> .tuple #[.bool false]
 |some i=>match l[i]? with
  |some a=> .tuple #[.bool true,ek a.1,ev a.2]
  |none=>undef
def aey (b:Nat) (a:List Nat):Option Nat->Prop
 |none=>∀i,i<b->i∈a
 |some i=>i<b∧i∉a
def TQ (M:List bA) (f b m e:Nat) (a:List Nat):Option Nat->List bA
 |none=>M
 |some i=>M.set f (It b m e (a++[i]))
theorem St.pureL {w:World} {p:Prop} (hp:p) (t:St c M L w):St c M (acK p::L) w:=by
 obtain⟨ho,F,hF,hL⟩:=t;refine⟨ho,F,hF,λf hf=> ?_⟩
 rcases List.mem_cons.1 hf with rfl|hf
 ·exact hp
 ·exact hL f hf
theorem aN.next (jm ji:Nat) {x:Operand} {b m:Nat} {l:List (κ×ν)} {seen:List Nat} (hx:Go.Sx.ev σ x=some (.pointer (some ⟨b,0,none⟩))) (hf:M[jm]? = some (Mp ek ev m l)) (hi:M[ji]? = some (It b m l.length seen)):
  aN P c n σ M L ⟨d,.next x false,ty,pos,aft,g⟩ (Gy ek ev l) (TQ M ji b m l.length seen) (λo=>acK (aey l.length seen o)::L):=λa w s t=>by
 obtain⟨F,hF⟩:=t.res hf;obtain⟨G,hG⟩:=t.res hi;have hold:∀e∈(D_ ek ev 0 l).toArray.toList,e.born<l.length:=λe he=>by
  obtain⟨i,kv,h1,h2⟩:=Nu ek ev 0 l e (by simpa using he);rw[h2];have:=bE h1;simp;omega
 rcases run_next_at (P:=P) w ty b m l.length l.length seen.toArray (D_ ek ev 0 l).toArray l.length hG.2 hF.2 hold (Nat.le_refl _)with⟨h0,hr⟩|⟨e,he,w1,hw1,hr⟩
 ·have hrun:(execOp a.eval ⟨d,.next x false,ty,pos,aft,g⟩).run P w = .ok (.value (.tuple #[.bool false])) w:=by
   simp[execOp,s.eval hx,hr]
  simp only[Oper.wp,hrun,Oper.upon];refine⟨none,rfl,t.pureL λi hi'=> ?_⟩
  obtain⟨kv,hkv⟩:∃kv,l[i]? = some kv:=⟨_,List.getElem?_eq_getElem hi'⟩
  have:=all_seen _ _ h0 _ (by simpa using Ns ek ev 0 l i kv hkv);simpa using this
 ·have hml:=_root_.Go.mem_left he;obtain⟨i,kv,h1,h2⟩:=Nu ek ev 0 l e (by simpa using hml.1);subst h2;rw[Nat.zero_add]at hr hml;have hrun:(execOp a.eval ⟨d,.next x false,ty,pos,aft,g⟩).run P w = .ok (.value (.tuple #[.bool true,ek kv.1,ev kv.2])) (setBlock w1 b (.mapIter (some m) l.length (seen.toArray.push i) l.length)):=by
   simp[execOp,s.eval hx,hr]
  simp only[Oper.wp,hrun,Oper.upon];have t1:St c M L w1:=by
   rcases hw1 with rfl|rfl
   ·exact t
   ·exact t.ext ((Below.refl _ _).drew)
  refine⟨some i,by simp[Gy,h1],St.pureL ⟨bE h1,by simpa using hml.2⟩ ?_⟩
  refine t1.upd hi Z Z Z (by simp[setBlock]) λF hF _=>⟨λk _ hk=> ?_,F,⟨hF.1,?_⟩,λ_ h=> .inl h⟩
  ·simp only[setBlock];rw[Array.getElem?_setIfInBounds_ne (λe=>hk (by subst e;exact hF.1))]
  ·simp only[setBlock];rw[Array.getElem?_setIfInBounds_self_of_lt (Array.getElem?_eq_some_iff.1 hF.2).1];simp
theorem aN.entry (A z:Nat) {x:Operand} {b m i:Nat} {l:List (κ×ν)} {f:List Nat} {e:κ×ν} (j:l[i]? = some e) (y:Go.Sx.ev σ x=some (.pointer (some ⟨b,0,none⟩))) (q:M[A]? = some (Mp ek ev m l)) (r:M[z]? = some (It b m l.length (f++[i]))):
  aN P c n σ M L ⟨d,.entry x,ty,pos,aft,g⟩ (λ_:Unit=> .tuple #[ek e.1,ev e.2]) (λ_=>M) (λ_=>L):=λa w s t=>by
 obtain⟨F,o⟩:=t.res q;obtain⟨G,p⟩:=t.res r;have k:=Ns ek ev 0 l i e j;rw[Nat.zero_add]at k;have u:((D_ ek ev 0 l).toArray.toList.map (·.born)).Nodup:=by
  simp only[Pv];exact List.nodup_range'
 have v:=run_entry_at (P:=P) w b m l.length f.toArray (D_ ek ev 0 l).toArray l.length ⟨ek e.1,ev e.2,i⟩ (by rw[p.2];simp) o.2 (by simpa using k) u;have h:(execOp a.eval ⟨d,.entry x,ty,pos,aft,g⟩).run P w = .ok (.value (.tuple #[ek e.1,ev e.2])) w:=by
  simp[execOp,s.eval y,v]
 simp only[Oper.wp,h,Oper.upon];exact⟨(),by first|rfl|trivial,t⟩
theorem ZI {G:Act->World->Prop} (σ':Fr) (M' L':List bA) (f:zB σ σ') (e:a_ M M') (b:aG [] L L') (h:J c n σ' M' L' G):J c n σ M L G:=λa w s t=>h a w (s.weak f) (t.weakE e b)
theorem QP {e:TypeId} {d:TypeDesc} (p:P.underlying e=some d) (m:∀b k w,(Instr.checkKey b 10000 e (ek k)).run P w = .ok () w) (o:∀a b,Instr.sameNow d (ek a) (ek b)=none)
  (r:∀a b w,(Op.equal e (ek a) (ek b)).run P w = .ok (decide (a=b)) w) (f:∀k,Instr.sameBits 10000 (ek k) (ek k)=true):Jm P e ek:=by
 refine⟨m,λ{ν'} ev' k l w=> ?_,f⟩
 have j:∀(l:List (κ×ν')) (i:Nat),(Instr.findAsking e (ek k) (D_ ek ev' i l) i).run P w = .ok (Vd ev' k i l) w:=by
  intro l
  induction l with
  |nil=>intro i;simp[D_,Vd,Instr.findAsking]
  |cons x q t=>
   intro i;simp only[D_,Vd,Instr.findAsking];simp[r];by_cases h:k=x.1
   ·simp[h]
   ·simp[h,t]
 unfold Instr.findKey;cases l with
 |nil=>simp[D_,Vd,Instr.findNow,run_underlying p w]
 |cons x q=>
  have s:Instr.findNow d (ek k) (D_ ek ev' 0 (x::q)) 0=none:=by simp[D_,Instr.findNow,o]
  simp[run_underlying p w,s,j]
def Wm {R:Type} (c:uJ) (n:Sz) (σ:Fr) (M L:List bA) (x:Option R) (r:R) (a:Act) (w:World):Prop:=x=some r∧Fu n σ a∧St c M L w
theorem QN {R:Type} {x:Option R} {r:R} (h:x=some r) (e:zB σ' σ) (b:a_ M' M) (a:aG [] L' L):J c n σ' M' L' (Wm c n σ M L x r):=λ_ _ s t=>⟨h,s.weak e,t.weakE b a⟩
theorem Uz (p:κ×ν->Option R->Option R) {K:Option R} {r:R} (O s:Nat) {b m:Nat} {l:List (κ×ν)} (hc:∀a b x,p a (p b x)=p b (p a x)) (h:KZ p K l=some r)
  (hf:M[O]? = some (Mp ek ev m l)) (U:M[s]? = some (It b m l.length [])) (af:Nat.beq s O=false) {t0 S T:Tmp} (hx:lk σ t0=some (.pointer (some ⟨b,0,none⟩))) (ab:Nat.blt S n.sz=true) (E:Nat.blt T n.sz=true)
  {id ex:Nat} {y1 y2:TypeId} {q1 q2:String} {f1 f2:Array Edge} {y:Code}
  (C:∀(t:κ×ν) (i:Nat) (k:List Nat) (x:Option R),l[i]? = some t->p t x=some r->
   J c n ((T,.bool true)::(S,.tuple #[.bool true,ek t.1,ev t.2])::σ) (M.set s (It b m l.length (k++[i]))) L (y.wpr rd P (Exit.then (Wm c n σ (M.set s (It b m l.length (k++[i]))) L x r) Q)))
  (V:∀k,K=some r->J c n ((T,.bool false)::(S,.tuple #[.bool false])::σ) (M.set s (It b m l.length k)) L (Q (.exit ex))):
  J c n σ M L ((Code.loop (Code.seq (Code.region id [⟨some S,.next (.tmp t0) false,y1,q1,f1,none⟩,⟨some T,.extract (.tmp S) 0,y2,q2,f2,none⟩].toArray false) (Code.seq (Code.cond (.tmp T) .skip (.exit ex)) y))).wpr rd P Q):=by
 have z:=bE U;have ae:O≠s:=λe=>by subst e;simp at af
 have H:M.set s (It b m l.length [])=M:=by
  apply List.ext_getElem?;intro q;by_cases eq:q=s
  ·subst eq;rw[List.getElem?_set_self z,U]
  ·rw[List.getElem?_set_ne (Ne.symm eq)]
 refine Wa (X:=List Nat) (λk=>k.Nodup∧(∀i∈k,i<l.length)∧KZ p K (rem l k)=some r) (λ_=>σ) (λk=>M.set s (It b m l.length k)) (λ_=>L) (λk=>l.length - k.length) [] ⟨List.nodup_nil,by simp,by rw[abH];exact h⟩ (zB.refl _) (by rw[H];exact a_.refl _) (λ_ h=>h) ?_;rintro k ⟨G,F,v⟩;have ac:(M.set s (It b m l.length k))[O]? = some (Mp ek ev m l):=by rw[List.getElem?_set_ne (Ne.symm ae)];exact hf
 have ad:(M.set s (It b m l.length k))[s]? = some (It b m l.length k):=List.getElem?_set_self z;refine aK (aR (aH (aN.next O s (x:= .tmp t0) hx ac ad) ab λo=> ?_));refine acH List.mem_cons_self λho=> ?_;refine acI (M':=TQ (M.set s (It b m l.length k)) s b m l.length k o) (L':=L) ?_ (zB.refl _) (a_.refl _) (λf hf=>List.mem_cons_of_mem _ hf);cases o with
 | none =>
  refine aB (pI (vs:=[.bool false]) (by simp[Gy,lk,Go.Sx.ev]) Z) E (eI (Ae (aK (IG (by simp[lk,Go.Sx.ev]) (pH (dV (dV ?_)))))));refine V k ?_;have:rem l k=[]:=by
   unfold rem;rw[List.filter_eq_nil_iff.2 (λi U=>by simpa using ho i (by simpa using U))];rfl
  rw[this]at v;exact v
 | some i =>
  obtain⟨W,Y⟩:=ho;obtain⟨t,A⟩:∃t,l[i]? = some t:=⟨_,List.getElem?_eq_getElem W⟩
  have N:Gy ek ev l (some i) = .tuple #[.bool true,ek t.1,ev t.2]:=by simp[Gy,A]
  obtain⟨l1,l2,e1,e2⟩:=YH A Y;have B:p t (KZ p K (rem l (k++[i])))=some r:=by
   rw[e2,<-LX hc K t l2 l1,<-e1];exact v
  have aa:TQ (M.set s (It b m l.length k)) s b m l.length k (some i)=M.set s (It b m l.length (k++[i])):=by simp[TQ]
  rw[N,aa];refine aB (pI (vs:=[.bool true,ek t.1,ev t.2]) (by simp[lk,Go.Sx.ev]) Z) E (eI (Ae (aK (SQ (by simp[lk,Go.Sx.ev]) (dK (Ae ?_))))));refine Wb (C t i k _ A B) λa w hw=>Ha (λe a' w' q=> ?_) hw;cases e with
  | normal =>
   obtain⟨ai,ag,ah⟩:=q;refine⟨k++[i],⟨?_,?_,ai⟩,?_,ag,ah⟩
   ·rw[List.nodup_append];exact⟨G,by simp,λa ha b D=>by simp at D;subst D;rintro rfl;exact Y ha⟩
   ·intro j u;rcases List.mem_append.1 u with u|u
    ·exact F j u
    ·simp at u;subst u;exact W
   ·have:k.length<l.length:=by
     have I:(k++[i]).length<=(List.range l.length).length:=by
      apply List.Nodup.length_le_of_subset
      ·rw[List.nodup_append];exact⟨G,by simp,λa ha b D=>by simp at D;subst D;rintro rfl;exact Y ha⟩
      ·intro j u;rcases List.mem_append.1 u with u|u
       ·simpa using F j u
       ·simp at u;subst u;simpa using W
     simp at I;omega
    simp;omega
  |exit id=>exact q
  |goto l=>exact q
  |ret=>exact q
  |panic ch=>exact q
  |outgrown=>exact q
end
end Go.Sx
end
namespace Go.Sx
open Go.RowKit
section
variable {P:Program} {rd:Option Nat} {c:uJ} {n:Sz} {σ σ':Fr} {M L M' L':List bA} {Q:Exit->Act->World->Prop} {ops:Array Oper} {rest:List Oper} {K:Act->World->Prop} {G:Act->World->Prop}
variable {d:Option Tmp} {D:Nat} {ty:TypeId} {pos:String} {aft:Array Edge} {g:Option (Nat×Bool)}
variable {α β:Type} {e:dA α} {r:eJ α}
def Fq (P:Program) (f:FuncId) (a:Array Value) (Min L:List bA) {A:Type} (b:A->Value) (h:A->List bA->List bA):Prop:=
 ∀c:uJ,St c Min L c.w0->Calls P f a c.w0 λe i=>∃x:A,e = .returned (b x)∧St c (h x []) [] i
theorem Fq.of {A:Type} {b:A->Value} {q:A->List bA->List bA} {f:FuncId} {i:Func} {a:Code} {vs:List Value} {m:Nat} {Min:List bA}
  (u:P.funcs[f]? = some i) (s:i.body=some a) (x:i.ntmps=m) (w:Nat.ble vs.length m=true)
  (h:∀c:uJ,J c ⟨m,[]⟩ (wO 0 vs) Min L (a.wpr none P (gM P i (MG c b q (λ_ l=>l))))):Fq P f vs.toArray Min L b q:=λc t=>by
 have o:vs.length<=m:=by simpa using w
 refine sS u s (h c _ _ ⟨rfl,by simp[x,o],?_⟩ t);intro t v y;obtain⟨_,j⟩:=DW vs 0 t v y;rw[Nat.sub_zero]at j;have p:t<vs.length:=by
  rcases Nat.lt_or_ge t vs.length with k|k
  ·exact k
  ·rw[List.getElem?_eq_none k]at j;cases j
 rw[Array.getElem?_append_left (by simpa using p)];simpa using j
theorem Ww {w S:World} {l H v:List bA} {F:Nat->Nat->Prop} {U:Nat->Prop} (y:BL c.O c.w0 w) (o:Own c w (l++H) F) (Y:∀f∈L,f.p w (Dl c F))
  (t:St ⟨w,U,λk=>∃i,i<l.length∧F i k⟩ v [] S):St c (v++H) L S:=by
 obtain⟨s,T,u,_⟩:=t;have C:=s.size;have x:∀k,k<w.heap.size->(∀i,i<l.length->¬F i k)->S.heap[k]? = w.heap[k]? := λk a hn=>s.block k a (fun⟨i,B,o⟩=>hn i B o);have b:∀i k,T i k->w.heap.size<=k∨∃j,j<l.length∧F j k:=λi k a=>(u.rng i k a).1;refine⟨⟨s.os.trans y.os,s.tape.trans y.tape,s.output.trans y.output,Nat.le_trans y.size C,λk a W=> ?_⟩,
  λi k=>(i<v.length∧T i k)∨(v.length<=i∧F (i - v.length+l.length) k),⟨?_,?_,?_⟩,λf hf=> ?_⟩
 ·refine(x k (Nat.lt_of_lt_of_le a y.size) (λi _ I=> ?_)).trans (y.block k a W);rcases(o.rng i k I).1 with h|h
  ·omega
  ·exact W h
 ·intro i m E;by_cases B:i<v.length
  ·rw[List.getElem?_append_left B]at E;exact bA.same (u.res i m E) (λk a=> .inl ⟨B,a⟩) (λ_ _ _=>rfl)
  ·rw[List.getElem?_append_right (by omega)]at E;have R:(l++H)[i - v.length+l.length]? = some m:=by
    rw[List.getElem?_append_right (by omega),Nat.add_sub_cancel];exact E
   exact bA.same (o.res _ m R) (λk a=> .inr ⟨by omega,a⟩) (λk a N=>x k N (λj X J=>by have:=o.dis _ _ k J a;omega))
 ·rintro i k (⟨_,a⟩|⟨_,a⟩)
  ·refine⟨?_,(u.rng i k a).2⟩
   rcases b i k a with h|⟨j,_,h⟩
   ·exact .inl (Nat.le_trans y.size h)
   ·exact(o.rng j k h).1
  ·exact⟨(o.rng _ k a).1,Nat.lt_of_lt_of_le (o.rng _ k a).2 C⟩
 ·rintro i j k (⟨B,z⟩|⟨B,z⟩) (⟨X,A⟩|⟨X,A⟩)
  ·exact u.dis i j k z A
  ·rcases b i k z with h|⟨q,hq,h⟩
   ·have:=(o.rng _ k A).2;omega
   ·have:=o.dis _ _ k h A;omega
  ·rcases b j k A with h|⟨q,hq,h⟩
   ·have:=(o.rng _ k z).2;omega
   ·have:=o.dis _ _ k h z;omega
  ·have:=o.dis _ _ k z A;omega
 ·refine f.mono (Y f hf) λk a N=>⟨⟨a.1,?_⟩,x k N (λi _=>a.2 i)⟩
  rintro i (⟨_,h⟩|⟨_,h⟩)
  ·rcases b i k h with V|⟨q,_,V⟩
   ·omega
   ·exact a.2 q V
  ·exact a.2 _ h
theorem UI {w:World} {a u t:List bA} {F:Nat->Nat->Prop} (o:Own c w (a++u) F) (y:∀f∈L,f.p w (Dl c F)) (B:aG u L t):
  St ⟨w,λk=>∀i,i<a.length->¬F i k,λk=>∃i,i<a.length∧F i k⟩ a t w:=by
 refine⟨BL.refl _,λi k=>i<a.length∧F i k,⟨λi m s=> ?_,λi k b=>⟨.inr ⟨i,b⟩,(o.rng i k b.2).2⟩,λi j k v x=>o.dis i j k v.2 x.2⟩,λf z=> ?_⟩
 ·have l:i<a.length:=by
   rcases Nat.lt_or_ge i a.length with q|q
   ·exact q
   ·rw[List.getElem?_eq_none q]at s;cases s
  exact bA.same (o.res i m (by rw[List.getElem?_append_left l];exact s)) (λk b=>⟨l,b⟩) (λ_ _ _=>rfl)
 ·refine B f z w (Dl c F) (λj k=>F (j+a.length) k) _ y (λj m A=> ?_) (λk b=> ?_) (λj k b=> ?_)
  ·exact o.res _ m (by rw[List.getElem?_append_right (by omega),Nat.add_sub_cancel];exact A)
  ·exact⟨.inl λi _=>b.2 i,λi l=>b.2 i l.2⟩
  ·exact⟨.inl λi l h=>by have:=o.dis _ _ k h b;omega,λi l=>by have:=o.dis _ _ k l.2 b;omega⟩
theorem Fp {A:Type} {k:A->Value} {m:A->List bA->List bA} {f:FuncId} {p:List Operand} {vs:List Value} {b:Array TypeId} {q Min Mr:List bA} (z:aX P f)
  (C:Fq P f vs.toArray Min q k m) (H:p.map (ev σ)=vs.map some) (y:a_ M (Min++Mr)) (v:aG Mr L q) (o:∀x l,m x l=m x []++l):
  aN P c n σ M L ⟨d,.call ⟨.value (.func f),p.toArray,b⟩,ty,pos,aft,g⟩ k (λx=>m x Mr) (λ_=>L):=λa w s t=>by
 have j:(execOp a.eval ⟨d,.call ⟨.value (.func f),p.toArray,b⟩,ty,pos,aft,g⟩).run P w = .ok (.enter f vs.toArray) w:=by
  have e:=evs s H;simp[execOp,resolve,Act.eval,Deferred.ofValue,invoke,z _ w,e]
 simp only[Oper.wp,j,Oper.upon];obtain⟨B,F,u,i⟩:=t.weak (L':=L) y (λ_ h=>h);refine(C _ (UI u i v)).mono ?_;rintro e I ⟨x,rfl,E⟩;refine⟨x,rfl,?_⟩
 rw[o];exact Ww B u i E
def Wo {A B:Type} (c:uJ) (C:A->Prop) (a:A->B->Value) (f b:A->B->List bA) (e:Ending) (w:World):Prop:=∃x y,C x∧e = .returned (a x y)∧St c (f x y) (b x y) w
theorem JU {j:Func} {a:List Value} {m:Nat} (l:j.ntmps=m) (k:Nat.ble a.length m=true):Fu ⟨m,[]⟩ (wO 0 a) {tmps:=a.toArray++Array.replicate (j.ntmps - a.toArray.size) undef,defers:=[]}:=by
 have h:a.length<=m:=by simpa using k
 refine⟨rfl,by simp[l,h],?_⟩
 intro t v o;obtain⟨_,b⟩:=DW a 0 t v o;rw[Nat.sub_zero]at b;have i:t<a.length:=by
  rcases Nat.lt_or_ge t a.length with f|f
  ·exact f
  ·rw[List.getElem?_eq_none f]at b;cases b
 rw[Array.getElem?_append_left (by simpa using i)];simpa using b
structure tG (P:Program) (c:uJ) (n:Sz) (σ:Fr) (M L:List bA) (o:Oper) (f:FuncId) (vs:List Value):Prop where
 run:∀a w,Fu n σ a->St c M L w->(execOp a.eval o).run P w = .ok (.enter f vs.toArray) w
theorem tG.fn {f:FuncId} {xs:List Operand} {vs:List Value} {b:Array TypeId} (h:aX P f) (i:xs.map (ev σ)=vs.map some):tG P c n σ M L ⟨d,.call ⟨.value (.func f),xs.toArray,b⟩,ty,pos,aft,g⟩ f vs:=⟨λa w s _=>by
 have e:=evs s i;simp[execOp,resolve,Act.eval,Deferred.ofValue,invoke,h _ w,e]⟩
theorem Hh {f:FuncId} {t:Tmp} {h:List Operand} {us cs vs:List Value} {b:Array TypeId} (j:aX P f) (k:lk σ t=some (.func (.func f) #[] cs.toArray)) (m:h.map (ev σ)=us.map some) (l:us++cs=vs):tG P c n σ M L ⟨d,.call ⟨.value (.tmp t),h.toArray,b⟩,ty,pos,aft,g⟩ f vs:=⟨λa w s _=>by
 have e:=evs s m;have i:a.eval (.tmp t) = .func (.func f) #[] cs.toArray:=s.eval (x:= .tmp t) k;subst l;simp[execOp,resolve,i,Deferred.ofValue,invoke,j _ w,e]⟩
def Hb (P:Program) (c:uJ) (n:Sz) (σ:Fr) (M L:List bA) (b:Func) (v:Value):Prop:=∀a w,Fu n σ a->St c M L w->(results b a.tmps).run P w = .ok v w
variable {fn:Func}
theorem Hb.r0 (b:fn.results = #[]):Hb P c n σ M L fn (.tuple #[]):=λa w _ _=>by simp[results,b]
theorem Hb.r1 {f:ResultVar} {h:Value} (b:fn.results = #[f]) (i:RV P c n σ M L f h):Hb P c n σ M L fn h:=λa w s t=>by
 have:=i a w s t;simp only[yG,b];simp[this]
theorem Hb.r2 {i j:ResultVar} {k l:Value} (b:fn.results = #[i,j]) (f:RV P c n σ M L i k) (h:RV P c n σ M L j l):Hb P c n σ M L fn (.tuple #[k,l]):=λa w s t=>by
 have f:=f a w s t;have h:=h a w s t;simp only[yG,b];simp[f,h]
theorem tJ {A B:Type} {m:Sz} {v:Value} {f:Exit} {C:A->Prop} {b:A->B->Value} {k j:A->B->List bA} (x:A) (y:B) (l:C x) (i:f = .ret∨f = .normal) (q:Hb P c m σ' M L fn v) (u:v=b x y) (p:a_ M (k x y)) (o:aG [] L (j x y)) (h:m.ds=[]:=by rfl):
  J c m σ' M L (gM P fn (Wo c C b k j) f):=λa w s t=>by
 exact body_end i (s.defers.trans h) (q a w s t) ⟨x,y,l,by rw[u],t.weakE p o⟩
end
section
variable {P:Program} {rd:Option Nat} {c:uJ} {n:Sz} {σ σ':Fr} {M L M' L':List bA} {Q:Exit->Act->World->Prop} {ops:Array Oper} {rest:List Oper} {K:Act->World->Prop} {G:Act->World->Prop}
variable {d:Option Tmp} {D:Nat} {ty:TypeId} {pos:String} {aft:Array Edge} {g:Option (Nat×Bool)}
variable {α β:Type} {e:dA α} {r:eJ α}
def amY (v:Value) (m:Nat):Prop:=match v with
 | .slice _ _ cap=>m<=cap
 |_=>False
theorem WB [cL P] {T E:TypeId} {R U u V:Nat} {z W:Value} {A:TypeDesc} {x p o q:Operand} {v:Value} {i k m:Int} {y:List α} (O:ev σ x=some v) (j:ev σ p=some (.int .i64 i)) (f:ev σ o=some (.int .i64 k)) (l:ev σ q=some (.int .i64 m)) (J:aF M L (Sl r v y))
  (I:cL.tab P T=some ⟨.slice E,R,U,z⟩) (H:cL.tab P E=some ⟨A,u,V,W⟩) (h:0<=i∧i<=k∧k<=m∧m<=y.length):Y P c n σ M L ⟨d,.slice T x (some p) (some o) (some q),ty,pos,aft,g⟩
   (match v with|.slice a _ _=> .slice (if m.toNat=i.toNat then a else a.map (·.add (i.toNat*u))) (k.toNat - i.toNat) (m.toNat - i.toNat)|v=>v):=λa w s t=>by
 obtain⟨S,X,b,N,hb,_⟩:=J.st t;subst N;have B:0<=m∧m<=(b:Int):=by omega
 have C:0<=k∧k<=((m.toNat:Nat):Int):=by omega
 have F:0<=i∧i<=((k.toNat:Nat):Int):=by omega
 simp[execOp,s.eval O,s.eval j,s.eval f,s.eval l,Instr.sliceAt,Instr.slice,(cL.ok I).run_und w,Instr.sliceBounds,Instr.sliceBound,asIntOf,(cL.ok H).run_size w,B,C,F];rw[if_pos (by omega),if_pos (by omega)]
theorem Oy (i:Nat) {k:Int} {vs:List Value} {xss:List (List α)} (E:M[i]? = some (lU e vs xss)) (h:0<=k∧k<xss.length):
  oI M L (Ar e (at' vs k) (at' xss k)::M.set i (lU e (vs.set k.toNat (.slice none 0 0)) (xss.set k.toNat []))) L:=λc w t=>by
 obtain⟨X,F,s,W⟩:=t;obtain⟨A,G,U,u,O⟩:=s.res i _ E;have R:k.toNat<vs.length:=by omega
 have S:i<M.length:=(List.getElem?_eq_some_iff.1 E).1;have B:=U k.toNat _ _ (jH h.1 (by omega)) (jH h.1 h.2);refine⟨X,λj q=>match j with|0=>G k.toNat q|j+1=>(j=i∧∃p,p≠k.toNat∧G p q)∨(j≠i∧F j q),⟨?_,?_,?_⟩,λf E=> ?_⟩
 ·intro j m y;cases j with
  |zero=>simp at y;subst y;exact B
  | succ j =>
   rw[List.getElem?_cons_succ]at y;by_cases N:j=i
   ·subst N;rw[List.getElem?_set_self S]at y;cases y;refine⟨by simp[A],λp q=>p≠k.toNat∧G p q,λp v V H I=> ?_,λp q a=> .inl ⟨rfl,p,a⟩,λT C q b l=>O _ _ q b.2 l.2⟩
    by_cases x:p=k.toNat
    ·subst x;rw[List.getElem?_set_self R]at H;rw[List.getElem?_set_self (by omega)]at I;cases H;cases I;exact⟨by simp,rfl,.inl ⟨rfl,rfl⟩⟩
    ·rw[List.getElem?_set_ne (Ne.symm x)]at H I;exact bA.same (f:=Ar e v V) (U p v V H I) (λq a=>⟨x,a⟩) (λ_ _ _=>rfl)
   ·rw[List.getElem?_set_ne (Ne.symm N)]at y;exact bA.same (s.res j m y) (λq a=> .inr ⟨N,a⟩) (λ_ _ _=>rfl)
 ·intro j q a;cases j with
  |zero=>exact s.rng i q (u _ q a)
  |succ j=>
   rcases a with⟨_,p,_,a⟩|⟨_,a⟩
   ·exact s.rng i q (u _ q a)
   ·exact s.rng j q a
 ·intro T C q b l;cases T with
  | zero =>
   cases C with
   |zero=>rfl
   |succ C=>
    rcases l with⟨_,p,o,l⟩|⟨o,l⟩
    ·exact absurd (O _ _ q l b) o
    ·exact absurd (s.dis _ _ q l (u _ q b)) o
  | succ T =>
   cases C with
   |zero=>
    rcases b with⟨_,p,o,b⟩|⟨o,b⟩
    ·exact absurd (O _ _ q b l) o
    ·exact absurd (s.dis _ _ q b (u _ q l)) o
   |succ C=>
    congr 1;rcases b with⟨J,p,_,b⟩|⟨J,b⟩<;>rcases l with⟨x,Y,_,l⟩|⟨x,l⟩
    ·rw[J,x]
    ·exact absurd (s.dis _ _ q l (u _ q b)) x
    ·exact absurd (s.dis _ _ q b (u _ q l)) J
    ·exact s.dis _ _ q b l
 ·refine bA.same (W f E) (λq a=>⟨a.1,λj z=> ?_⟩) (λ_ _ _=>rfl);cases j with
  |zero=>exact a.2 i (u _ q z)
  |succ j=>
   rcases z with⟨_,p,_,z⟩|⟨_,z⟩
   ·exact a.2 i (u _ q z)
   ·exact a.2 j z
theorem Ou (i j:Nat) {u:Value} {k:Int} {vs:List Value} {xss:List (List α)} {ys:List α} (a:Nat.beq i j=false) (b:M[i]? = some (lU e (vs.set k.toNat (.slice none 0 0)) (xss.set k.toNat []))) (f:M[j]? = some (Ar e u ys)) (h:0<=k∧k<(xss.set k.toNat []).length):
  oI M L ((M.set i (lU e (vs.set k.toNat u) (xss.set k.toNat ys))).eraseIdx j) L:=by
 have:=xX (L:=L) i j a b f h;rwa[List.set_set,List.set_set]at this
theorem Lv {α:Type} [Inhabited α] (l:List α) {j k:Int} (y:α) (h:j.toNat≠k.toNat):at' (l.set j.toNat y) k=at' l k:=by
 rw[at',at',List.getD_eq_getElem?_getD,List.getD_eq_getElem?_getD,List.getElem?_set_ne h]
theorem zM [cL P] (i:Nat) {r:eJ α} (f:e.Fits r) {x y:Operand} {u o:Value} {k j:Int} {vs:List Value} {a:List (List α)} {l b:List α} {T E:TypeId} {S U m s:Nat} {z t:Value} {v:TypeDesc} (N:ev σ x=some (at' vs k)) (O:ev σ y=some u) (H:M[i]? = some (lU e (vs.set j.toNat o) (a.set j.toNat b))) (I:aF M L (Sl r u l))
  (F:cL.tab P T=some ⟨.slice E,S,U,z⟩) (C:cL.tab P E=some ⟨v,m,s,t⟩) (A:e.sz=m) (B:Nat.ble s 1024=true) (w:0<=k∧k<a.length) (J:((at' a k).length:Int)+l.length<=1099511627) (R:t.cells.size=m) (h:j.toNat≠k.toNat):
  aN P c n σ M L ⟨d,.call ⟨.builtin .append,#[x,y],#[T,T]⟩,ty,pos,aft,g⟩ (λp:Value=>p) (λp=>M.set i (lU e ((vs.set j.toNat o).set k.toNat p) ((a.set j.toNat b).set k.toNat (at' a k++l)))) (λ_=>L):=by
 have q:at' (a.set j.toNat b) k=at' a k:=Lv _ _ h;have:=qT (P:=P) (c:=c) (n:=n) (σ:=σ) (M:=M) (L:=L) (d:=d) (ty:=ty) (pos:=pos) (aft:=aft) (g:=g) (x:=x) (y:=y) (u:=u) (k:=k) (vs:=vs.set j.toNat o) (xss:=a.set j.toNat b) (ys:=l) i f (by rw[Lv _ _ h];exact N) O H I F C A B (by simpa using w) (by rw[q];exact J) R;rwa[q]at this
theorem Cf (q:Nat) {vs:List Value} {a:List (List α)} {k j:Int} {u z:Value} (x:M[q]? = some (lU e ((vs.set k.toNat u).set j.toNat z) a)) (i:k.toNat≠j.toNat) (h:0<=k∧k<a.length):∀c w,St c M L w->Go.Sx.one u=true:=λc w t=>by
 obtain⟨S,v,A,p,_⟩:=t.res x;have f:k.toNat<vs.length:=by simp at v;omega
 obtain⟨_,_,s⟩:=p k.toNat u _ (by rw[List.getElem?_set_ne (Ne.symm i),List.getElem?_set_self f]) (List.getElem?_eq_getElem (by omega));rcases s with⟨l,_⟩|⟨b,y,m,T,o,l,_⟩<;>(rw[l];rfl)
theorem SR {A:Type} {b:A->Value} {M' L':A->List bA} {f:Op} (j:aN P c n σ M L ⟨none,f,ty,pos,aft,none⟩ b M' L') (h:∀x,J c n σ (M' x) (L' x) (wpList P ops Q rest)):
  J c n σ M L (wpList P ops Q (⟨none,f,ty,pos,aft,none⟩::rest)):=λa w s t=>
 mC Z (Km (m_ (λm l ⟨x,i,k⟩=>by subst i;exact h x _ l s k) (j a w s t)))
end
section
variable {P:Program} {rd:Option Nat} {c:uJ} {n:Sz} {σ σ':Fr} {M L M' L':List bA} {Q:Exit->Act->World->Prop} {ops:Array Oper} {rest:List Oper} {K:Act->World->Prop} {G:Act->World->Prop}
variable {d:Option Tmp} {D:Nat} {ty:TypeId} {pos:String} {aft:Array Edge} {g:Option (Nat×Bool)}
variable {α β:Type} {e:dA α} {r:eJ α}
theorem Oe [cL P] (j:Nat) {T:TypeId} {s2:Nat} {z:Value} {dT:TypeDesc} {x y:Operand} {v u:Value} {i:Int} {m:List α} (yv:α) (hx:ev σ x=some (DV v (i.toNat*1))) (hy:ev σ y=some u) (hu:e.enc yv=[u]) (B:one u=true)
  (X:M[j]? = some (Ar e v m)) (hT:cL.tab P T=some ⟨dT,1,s2,z⟩) (N:e.sz=1) (h0:0<=i) (W:i<m.length):
  aN P c n σ M L ⟨none,.store T x y,ty,pos,aft,none⟩ (λ_:Unit=>undef) (λ_=>M.set j (Ar e v (m.set i.toNat yv))) (λ_=>L):=λa w s t=>by
 obtain⟨F,J⟩:=t.res X;have Y:i.toNat<m.length:=by omega
 have E:m[i.toNat]? = some m[i.toNat]:=List.getElem?_eq_getElem Y;have H:m≠[]:=by intro e;subst e;simp at Y
 obtain⟨p,hp⟩:∃p,e.enc m[i.toNat]=[p]:=List.length_eq_one_iff.1 ((e.len _).trans N);have f:=Dk.cell J E (j:=0) (u:=p) (by rw[hp];rfl);rw[N,Nat.add_zero,Nat.mul_one]at f;rw[Nat.mul_one]at hx;have o:=NW J H i.toNat;have I:(execOp a.eval ⟨none,.store T x y,ty,pos,aft,none⟩).run P w = .ok .skip (w.setCell (JJ v i.toNat) u):=by
  simp only[execOp,s.eval hx,s.eval hy,DV];simp[CU (cL.ok hT) Z B f o]
 simp only[Oper.wp,I,Oper.upon];refine⟨(),trivial,t.upd X Z Z Z (by simp[World.setCell]) λF J _=> ?_⟩
 obtain⟨hl,W,S⟩:=J;rcases S with⟨_,S⟩|⟨b,l,A,T',O,hv,C,hb,hk,hc,ht⟩
 ·exact absurd S H
 ·subst hv;have ha:JJ (.slice (some ⟨b,l,none⟩) m.length A) i.toNat=⟨b,l+i.toNat,none⟩:=by simp[JJ,dX]
  rw[ha];refine⟨λk _ U=>Below.heap_setCell _ _ _ _ (λe=>U (by simp only at e;subst e;exact C)),F,⟨by simpa using hl,?_,.inr ⟨b,l,A,T',O.setIfInBounds (l+i.toNat) u,by simp,C,?_,by simpa using hk,by simpa using hc,?_⟩⟩,λ_ h=> .inl h⟩
  ·rw[wL N hu,List.all_eq_true];intro q V;rcases List.mem_or_eq_of_mem_set V with R|R
   ·exact List.all_eq_true.1 W q R
   ·rw[R];exact B
  ·simp[World.setCell,Array.getElem?_modify,hb]
  ·rw[wL N hu,<-ht,Array.toList_setIfInBounds,List.length_set,<-take_set];congr 1;rw[List.drop_set,if_neg (by omega),Nat.add_sub_cancel_left]
theorem Od [cL P] (i:Nat) {T j:TypeId} {C:Nat} {z:Value} {m:TypeDesc} {x y:Operand} {b o:Nat} {cs:List Value} {v:Value} (A:ev σ x=some (.pointer (some ⟨b,o,none⟩)))
  (B:ev σ y=some v) (u:one v=true) (l:M[i]? = some (bV b cs j)) (p:cL.tab P T=some ⟨m,1,C,z⟩) (q:Nat.blt o cs.length=true):
  aN P c n σ M L ⟨none,.store T x y,ty,pos,aft,none⟩ (λ_:Unit=>undef) (λ_=>M.set i (bV b (cs.set o v) j)) (λ_=>L):=λa w s t=>by
 obtain⟨F,k⟩:=t.res l;have h:o<cs.length:=by simpa [Nat.blt_eq]using q
 have f:(execOp a.eval ⟨none,.store T x y,ty,pos,aft,none⟩).run P w = .ok .skip (w.setCell ⟨b,o,none⟩ v):=by
  simp[execOp,s.eval A,s.eval B,CU (cL.ok p) Z u (bV.cell k (List.getElem?_eq_getElem h)) (NX k o)]
 simp only[Oper.wp,f,Oper.upon];exact⟨(),trivial,t.store l v⟩
theorem Bv [cL P] (j q:Nat) {T:TypeId} {E:Nat} {z:Value} {m:TypeDesc} {x y:Operand} {v u:Value} {i:Int} {vs b:List Value} {f:List (List α)} (h:0<=i∧i<f.length) (B:ev σ x=some (DV v (i.toNat*1))) (C:ev σ y=some u)
  (p:M[j]? = some (Ar dA.raw v vs)) (A:M[q]? = some (lU e b f)) (F:b.length=vs.length) (k:one u=true) (o:cL.tab P T=some ⟨m,1,E,z⟩):
  aN P c n σ M L ⟨none,.store T x y,ty,pos,aft,none⟩ (λ_:Unit=>undef) (λ_=>M.set j (Ar dA.raw v (vs.set i.toNat u))) (λ_=>L):=λa w s t=>by
 have l:b.length=f.length:=by obtain⟨_,h⟩:=t.res A;exact h.1
 exact Oe j u B C Z k p o Z h.1 (by omega) a w s t
section
variable {l:List Oper} {m:List Nat} {k0:Nat} {H Bs:List (Nat×List bA×List bA)} {rs:List Nat}
theorem Dx {A:Type} {j:A->Value} {M' L':A->List bA} {i:Nat} {b:Op}
  (o:l[i]? = some ⟨none,b,ty,pos,aft,none⟩) (v:Nat.blt i k0=true) (y:dZ b=true) (z:aN P c n σ M L ⟨none,b,ty,pos,aft,none⟩ j M' L')
  (q:∀x,Ad (before m i) (M' x) (L' x) Bs) (h:∀x,JR c n σ (M' x) (L' x) ((i,M,L)::H) Bs (RW P l.toArray Q (before m) (cT l) k0 rs)):
  JR c n σ M L H Bs (RW P l.toArray Q (before m) (cT l) k0 (i::rs)):=λa w X Y s t u k=>by
 have f:l.toArray[i]? = some ⟨none,b,ty,pos,aft,none⟩:=by simpa using o
 simp only[RW,f];rw[if_pos (by simp[Region.wanted])];refine .inr (.inr ⟨by simpa [Nat.blt_eq]using v,by simp[cT,o,y],m_ ?_ (z a w s t)⟩);rintro C B ⟨x,rfl,p⟩;exact⟨(q x).use p k,h x _ B _ Y s p ⟨rfl,t,u⟩ k⟩
end
theorem Hl {A B:Type} {f:FuncId} {j:Func} {b:Code} {k:List Value} {m:Nat} {q:Op} (C:A->Prop) (i:A->B->Value) (o l:A->B->List bA) (E:tG P c n σ M L ⟨d,q,ty,pos,aft,g⟩ f k) (F:P.funcs[f]? = some j) (z:j.body=some b) (I:j.ntmps=m) (H:Nat.ble k.length m=true)
  (u:J c ⟨m,[]⟩ (wO 0 k) M L (b.wpr none P (gM P j (Wo c C i o l)))):
  aN P c n σ M L ⟨d,q,ty,pos,aft,g⟩ (λx:{p:A×B // C p.1}=>i x.1.1 x.1.2) (λx=>o x.1.1 x.1.2) (λx=>l x.1.1 x.1.2):=λa w s t=>by
 have h:=E.run a w s t;simp only[Oper.wp,h,Oper.upon];refine(sS F z (u _ w (JU I H) t)).mono ?_;rintro e O ⟨x,y,v,rfl,N⟩;exact⟨⟨(x,y),v⟩,rfl,N⟩
theorem Bt {A B:Type} {f:FuncId} {j:Func} {h:Code} {vs:List Value} {m:Nat} {o:Op} (C:A->Prop) (i:A->B->Value) (l k:A->B->List bA) (v:tG P c n σ M L ⟨some D,o,ty,pos,aft,none⟩ f vs) (w:P.funcs[f]? = some j) (u:j.body=some h) (y:j.ntmps=m) (x:Nat.ble vs.length m=true) (t:Nat.blt D n.sz=true)
  (p:J c ⟨m,[]⟩ (wO 0 vs) M L (h.wpr none P (gM P j (Wo c C i l k)))) (q:∀a b,C a->J c n ((D,i a b)::σ) (l a b) (k a b) (wpList P ops Q rest)):J c n σ M L (wpList P ops Q (⟨some D,o,ty,pos,aft,none⟩::rest)):=
 aH (Hl C i l k v w u y x p) t fun⟨⟨a,b⟩,s⟩=>q a b s
section
variable {l:List Oper} {mm:List Nat} {k0:Nat} {H Bs:List (Nat×List bA×List bA)} {rs:List Nat}
theorem SU {A B:Type} {i:Nat} {f:FuncId} {p:Func} {h:Code} {vs:List Value} {m:Nat} {q:Op} (C:A->Prop) (j:A->B->Value) (o k:A->B->List bA) (E:l[i]? = some ⟨some D,q,ty,pos,aft,none⟩) (F:Nat.blt i k0=true) (I:dZ q=true) (y:tG P c n σ M L ⟨some D,q,ty,pos,aft,none⟩ f vs) (z:P.funcs[f]? = some p) (x:p.body=some h) (O:p.ntmps=m) (N:Nat.ble vs.length m=true) (w:Nat.blt D n.sz=true)
  (u:∀a b,Ad (before mm i) (o a b) (k a b) Bs) (s:J c ⟨m,[]⟩ (wO 0 vs) M L (h.wpr none P (gM P p (Wo c C j o k)))) (t:∀a b,C a->JR c n ((D,j a b)::σ) (o a b) (k a b) ((i,M,L)::H) Bs (RW P l.toArray Q (before mm) (cT l) k0 rs)):
  JR c n σ M L H Bs (RW P l.toArray Q (before mm) (cT l) k0 (i::rs)):=
 JR.loud E F I (Hl C j o k y z x O N s) w (λ_=>u _ _) fun⟨⟨a,b⟩,v⟩=>t a b v
theorem Ob {A B:Type} {i j:Nat} {s:Bool} {f:FuncId} {q:Func} {h:Code} {vs:List Value} {m:Nat} {t:Op} (C:A->Prop) (k:A->B->Value) (p o:A->B->List bA) (N:l[i]? = some ⟨some D,t,ty,pos,aft,some (j,s)⟩) (O:Nat.blt i k0=true) (R:dZ t=true) (I:gv l.toArray σ j=some s) (E:tG P c n σ M L ⟨some D,t,ty,pos,aft,some (j,s)⟩ f vs) (F:P.funcs[f]? = some q) (z:q.body=some h) (T:q.ntmps=m) (S:Nat.ble vs.length m=true) (y:Nat.blt D n.sz=true)
  (w:∀a b,Ad (before mm i) (p a b) (o a b) Bs) (u:J c ⟨m,[]⟩ (wO 0 vs) M L (h.wpr none P (gM P q (Wo c C k p o)))) (v:∀a b,C a->JR c n ((D,k a b)::σ) (p a b) (o a b) ((i,M,L)::H) Bs (RW P l.toArray Q (before mm) (cT l) k0 rs)):
  JR c n σ M L H Bs (RW P l.toArray Q (before mm) (cT l) k0 (i::rs)):=
 Wg N O R I (Hl C k p o E F z T S u) y (λ_=>w _ _) fun⟨⟨a,b⟩,x⟩=>v a b x
end
theorem Ey [cL P] {T E:TypeId} {k q u b A:Nat} {z B:Value} {f:TypeDesc} {x y:Operand} {v:Value} {o:Nat} {i:Int} (m:ev σ x=some (DV v o)) (p:ev σ y=some (.int .i64 i))
  (l:cL.tab P T=some ⟨.array k E,q,u,z⟩) (j:cL.tab P E=some ⟨f,b,A,B⟩) (_h3:(b==0)=false) (h:0<=i∧i<(k:Int)):
  Y P c n σ M L ⟨d,.indexAddr T x y,ty,pos,aft,g⟩ (DV v (o+i.toNat*b)):=λa w s t=>by
 simp[execOp,s.eval m,s.eval p,Instr.indexAt,asIntOf,(cL.ok l).run_und w,h,Instr.sureAddr,DV,(cL.ok j).run_size w,IP]
theorem b_ {x:Operand} {b o:Nat} (f:ev σ x=some (.pointer (some ⟨b,o,none⟩))):Y P c n σ M L ⟨d,.nilCheck x,ty,pos,aft,g⟩ (.pointer (some ⟨b,o,none⟩)):=λa w s t=>by
 simp[execOp,s.eval f]
theorem Of [cL P] [Inhabited α] (j:Nat) {T:TypeId} {s2 k o q:Nat} {z:Value} {dT:TypeDesc} {x y:Operand} {v u:Value} {C:List Value} {i:Int} {p:List α} (N:α) (h:0<=i∧i<p.length) (hx:ev σ x=some (DV v (i.toNat*q+o))) (hy:ev σ y=some u)
  (hf:M[j]? = some (Ar e v p)) (hq:e.sz=q) (V:u.cells=C.toArray) (hk:C.length=k) (ho:Nat.ble (o+k) q=true) (J:e.enc N=(e.enc (at' p i)).take o++C++(e.enc (at' p i)).drop (o+k)) (X:C.all one=true) (hT:cL.tab P T=some ⟨dT,k,s2,z⟩):
  aN P c n σ M L ⟨none,.store T x y,ty,pos,aft,none⟩ (λ_:Unit=>undef) (λ_=>M.set j (Ar e v (p.set i.toNat N))) (λ_=>L):=λa w s t=>by
 subst hq hk;have ar:o+C.length<=e.sz:=by simpa using ho
 have hi:i.toNat<p.length:=by omega
 have t0:=t;obtain⟨ak,FF,hO,ag⟩:=t0;obtain⟨h0,A,hh⟩:=hO.res j _ hf;rcases hh with⟨_,rfl⟩|⟨b,m,W,T',f,rfl,Y,aa,ab,hc,ht⟩
 ·simp at hi
 -- the parts of the row
 obtain⟨l,B,E,I,hl⟩:∃l B E,p=l++B::E∧l.length=i.toNat:=⟨p.take i.toNat,p[i.toNat],p.drop (i.toNat+1),by rw[List.getElem_cons_drop,List.take_append_drop],by simp;omega⟩
 have ai:at' p i=B:=by
  rw[at',List.getD_eq_getElem?_getD,<-hl,I,List.getElem?_append_right (Nat.le_refl _)];simp
 rw[ai]at J;have eE:=e.len B;have eA:(cellsOf e l).length=i.toNat*e.sz:=by rw[dY,hl]
 have F:cellsOf e p=cellsOf e l++(e.enc B++cellsOf e E):=by rw[I];simp[cellsOf]
 have U:cellsOf e (p.set i.toNat N)=cellsOf e l++(e.enc N++cellsOf e E):=by
  have:p.set i.toNat N=l++N::E:=by rw[I,<-hl,List.set_append_right _ _ (Nat.le_refl _)];simp
  rw[this];simp[cellsOf]
 have ap:p.length*e.sz<=W*e.sz:=Nat.mul_le_mul_right _ ab;obtain⟨O,R,S,hH⟩:∃O R,f.toList=O++(cellsOf e l++(e.enc B++(cellsOf e E++R)))∧O.length=m:=by
  refine⟨f.toList.take m,(f.toList.drop m).drop (p.length*e.sz),?_,by simp;omega⟩
  have e1:cellsOf e l++(e.enc B++(cellsOf e E++(f.toList.drop m).drop (p.length*e.sz)))=f.toList.drop m:=by
   have:cellsOf e l++(e.enc B++(cellsOf e E++(f.toList.drop m).drop (p.length*e.sz)))=cellsOf e p++(f.toList.drop m).drop (p.length*e.sz):=by rw[F];simp
   rw[this,<-ht,List.take_append_drop]
  rw[e1,List.take_append_drop]
 have an:f.size=f.toList.length:=by simp
 have al:f.toList.take (m+(i.toNat*e.sz+o))=O++(cellsOf e l++(e.enc B).take o):=by
  have:f.toList=(O++(cellsOf e l++(e.enc B).take o))++((e.enc B).drop o++(cellsOf e E++R)):=by
   rw[S,List.append_assoc,List.append_assoc,<-List.append_assoc ((e.enc B).take o),List.take_append_drop]
  rw[this];exact List.take_left' (by simp[hH,eA,eE];omega)
 have am:f.toList.drop (m+(i.toNat*e.sz+o)+C.length)=(e.enc B).drop (o+C.length)++(cellsOf e E++R):=by
  have:f.toList=(O++(cellsOf e l++(e.enc B).take (o+C.length)))++((e.enc B).drop (o+C.length)++(cellsOf e E++R)):=by
   rw[S,List.append_assoc,List.append_assoc,<-List.append_assoc ((e.enc B).take (o+C.length)),List.take_append_drop]
  rw[this];exact List.drop_left' (by simp[hH,eA,eE];omega)
 have af:(i.toNat+1)*e.sz<=p.length*e.sz:=Nat.mul_le_mul_right _ (by omega);have aq:(i.toNat+1)*e.sz=i.toNat*e.sz+e.sz:=by rw[Nat.add_mul,Nat.one_mul]
 have ac:m+(i.toNat*e.sz+o)+0+C.length<=f.size:=by omega
 have ae:=run_storeCells_at P b (m+(i.toNat*e.sz+o)) T' C 0 f w aa ac (λu V=>qC (List.all_eq_true.1 X u V));simp only[Nat.add_zero]at ae;have au:(cL.ok hT).run_size w=(cL.ok hT).run_size w:=rfl;have ad:(execOp a.eval ⟨none,.store T x y,ty,pos,aft,none⟩).run P w = .ok .skip (w.setRow b (f.toList.take (m+(i.toNat*e.sz+o))++C++f.toList.drop (m+(i.toNat*e.sz+o)+C.length)).toArray):=by
  simp[execOp,s.eval hx,s.eval hy,DV,JJ,Instr.storeAt,Instr.sureAddr,storeVar,V,(cL.ok hT).run_size w,dX,ae]
 simp only[Oper.wp,ad,Oper.upon];refine⟨(),trivial,?_⟩
 refine IL ak hO ag hf Z Z Z (by simp) (λk _ aj=>setRow_other w b k _ (λe=>aj (by subst e;exact Y))) (F':=FF j) ?_ (λk hk=> .inl hk);have H:(e.enc N).length=e.sz:=e.len N;refine⟨by simpa using h0,?_,.inr ⟨b,m,W,T',_,by simp,Y,setRow_heap w b _ _ T' _ aa,by simpa using ab,?_,?_⟩⟩
 ·rw[U];rw[F]at A;simp only[List.all_append,Bool.and_eq_true]at A ⊢;refine⟨A.1,?_,A.2.2⟩
  rw[J];simp only[List.all_append,Bool.and_eq_true];refine⟨⟨List.all_eq_true.2 λu V=>List.all_eq_true.1 A.2.1 u (List.mem_of_mem_take V),X⟩,List.all_eq_true.2 λu V=>List.all_eq_true.1 A.2.1 u (List.mem_of_mem_drop V)⟩
 ·simp only[List.size_toArray,List.length_append,List.length_take,List.length_drop];omega
 ·show((f.toList.take _++C++f.toList.drop _).drop m).take ((p.set i.toNat N).length*e.sz)=_;rw[al,am,U,J,List.length_set];have e3:(O++(cellsOf e l++(e.enc B).take o)++C++((e.enc B).drop (o+C.length)++(cellsOf e E++R)))=O++((cellsOf e l++(((e.enc B).take o++C++(e.enc B).drop (o+C.length))++cellsOf e E))++R):=by simp
  rw[e3,<-hH,List.drop_left];refine List.take_left' ?_;have ah:(cellsOf e E).length=E.length*e.sz:=dY e E;have ao:p.length=i.toNat+1+E.length:=by rw[I,<-hl];simp;omega
  rw[J]at H;rw[List.length_append,List.length_append,H,eA,ah,ao,Nat.add_mul,Nat.add_mul,Nat.one_mul];omega
end
def Dfr (D:Nat):bA where
 p w F:=F D∧w.heap[D]? = some (.deferred (some []))
 mono:=fun⟨b,a⟩ h=>by
  obtain⟨c,d⟩:=h D b (Array.getElem?_eq_some_iff.1 a).1;exact⟨c,by rw[d];exact a⟩
structure Wr where
 n:Nat
 σ:Fr
 ps:Array Tmp
 assign:Code
 body:Code
 D:Nat
def Lp (l:Nat) (R:Wr) (i:LoopState) (a:Option Code):bA where
 p w F:=F l∧∃(fn:FuncId) (tmps:Array Value),tmps.size=R.n∧(∀t v,lk R.σ t=some v->tmps[t]? = some v)∧
  w.heap[l]? = some (.loop {state:=i,pending:=a,fn:=fn,tmps:=tmps,params:=R.ps,assign:=R.assign,body:=R.body,defers:=R.D})
 mono:=fun⟨c,fn,tmps,d,e,b⟩ h=>by
  obtain⟨f,g⟩:=h l c (Array.getElem?_eq_some_iff.1 b).1;exact⟨f,fn,tmps,d,e,by rw[g];exact b⟩
def Yk (D:Nat):Deferred:={target:= .collected D,args:= #[]}
def xN (l:Nat):Value:= .func (.yield l) #[] #[]
section
variable {P:Program} {rd:Option Nat} {c:uJ} {n m:Sz} {σ σ':Fr} {M L:List bA} {Q:Exit->Act->World->Prop} {K G:Act->World->Prop}
theorem St.putLp {w:World} {l i:Nat} {R:Wr} {y d:LoopState} {b a:Option Code} (t:St c M L w) (v:M[i]? = some (Lp l R y b)) {r:Loop} (o:w.heap[l]? = some (.loop r)):
  St c (M.set i (Lp l R d a)) L (w.putObj l (.loop {r with state:=d,pending:=a})):=by
 refine t.upd v Z Z Z (by simp) λF j _=>⟨λk _ x=> ?_,F,?_,λ_ h=> .inl h⟩
 ·exact World.putObj_heap_other (λe=>x (by subst e;exact j.1))
 ·obtain⟨q,p,f,s,u,g⟩:=j;rw[g]at o;cases o;exact⟨q,p,f,s,u,World.putObj_heap_same (Array.getElem?_eq_some_iff.1 g).1⟩
def Ws (P:Program) (n:Sz) (σ:Fr) (l D:Nat) (Q:Exit->Act->World->Prop) (e:Ending) (w:World):Prop:=
 ∀a,Fu ⟨n.sz,Yk D::n.ds⟩ σ a->rangePost (FR none) 0 P l Q a e w
theorem N_ {g:Operand} {ps:Array Tmp} {assign body:Code} {f:FuncId} {fn:Func} {code:Code} {cs:List Value} {k:Nat} (hb:aX P f) (hx:ev σ g=some (.func (.func f) #[] cs.toArray)) (hf:P.funcs[f]? = some fn) (hbd:fn.body=some code) (hn:fn.ntmps=k) (hm:Nat.ble (cs.length+1) k=true)
  (h:∀l D,J c ⟨k,[]⟩ (wO 0 (xN l::cs)) (Lp l ⟨n.sz,σ,ps,assign,body,D⟩ .ready none::Dfr D::M) L (code.wpr none P (gM P fn (Ws P n σ l D Q)))):
  J c n σ M L ((Code.rangeFunc g ps assign body).wpr none P Q):=λa w s t=>by
 refine wpIn_rangeFunc λfn' _=> ?_;have hev:a.eval g = .func (.func f) #[] cs.toArray:=s.eval hx;let W:World:=(w.alloc (.deferred (some []))).alloc (.loop {state:= .ready,pending:=none,fn:=fn',tmps:=a.tmps,params:=ps,assign:=assign,body:=body,defers:=w.heap.size});refine⟨_,_,_,{target:= .fn (.func f) cs.toArray,args:= #[xN (w.heap.size+1)]},W,f,(xN (w.heap.size+1)::cs).toArray,W,run_enterLoop_outer fn' a.tmps ps assign body,?_,λ_ _=>trivial,?_,(λhc=>by cases hc),?_⟩
 ·have hc:∀v,a.eval (.const v)=v:=λ_=>rfl;simp[resolve,hev,hc,Deferred.ofValue,xN,W]
 ·simp[invoke,hb _ _,xN]
 ·have t1:St c (Dfr w.heap.size::M) L (w.alloc (.deferred (some []))):=t.push _ ⟨rfl,heap_alloc_new w _⟩;have t2:St c (Lp (w.heap.size+1) ⟨n.sz,σ,ps,assign,body,w.heap.size⟩ .ready none::Dfr w.heap.size::M) L ((w.alloc (.deferred (some []))).alloc (.loop {state:= .ready,pending:=none,fn:=fn',tmps:=a.tmps,params:=ps,assign:=assign,body:=body,defers:=w.heap.size})):=by
   have:=t1.push (.loop {state:= .ready,pending:=none,fn:=fn',tmps:=a.tmps,params:=ps,assign:=assign,body:=body,defers:=w.heap.size}) (m:=Lp (w.heap.size+1) ⟨n.sz,σ,ps,assign,body,w.heap.size⟩ .ready none)
    ⟨by simp,fn',a.tmps,s.size,s.slot,by rw[<-World.size_alloc w (.deferred (some []))];exact heap_alloc_new _ _⟩
   exact this
  refine Tm ((sS hf hbd (h (w.heap.size+1) w.heap.size _ _ (JU hn (by simpa using hm)) t2)).mono ?_);intro e w' he;exact he _ ⟨by simp[Yk,s.defers],s.size,s.slot⟩
theorem Wd {f:Func} {b:Exit} {v:Value} {l D i:Nat} {R:Wr} (e:b = .ret∨b = .normal) (j:M[i]? = some (Lp l R .ready none)) (q:Hb P c m σ' M L f v) (h:J c ⟨n.sz,Yk D::n.ds⟩ σ (M.set i (Lp l R .exhausted none)) L (Q .normal)) (d:m.ds=[]:=by rfl):
  J c m σ' M L (gM P f (Ws P n σ l D Q) b):=λa w s t=>by
 refine body_end e (s.defers.trans d) (q a w s t) λo r=> ?_;obtain⟨F,u,p,k,x,y,g⟩:=t.res j;exact⟨none,_,run_endLoop g (by simp),h o _ r (t.putLp j g)⟩
theorem ZH {f:Func} {b:Exit} {v:Value} {l D i:Nat} {R:Wr} (e:b = .ret∨b = .normal) (j:M[i]? = some (Lp l R .done (some .ret))) (q:Hb P c m σ' M L f v) (h:J c ⟨n.sz,Yk D::n.ds⟩ σ (M.set i (Lp l R .exhausted (some .ret))) L (Q .ret)) (d:m.ds=[]:=by rfl):
  J c m σ' M L (gM P f (Ws P n σ l D Q) b):=λa w s t=>by
 refine body_end e (s.defers.trans d) (q a w s t) λo r=> ?_;obtain⟨F,u,p,k,x,y,g⟩:=t.res j;exact⟨some .ret,_,run_endLoop g (by simp),wpIn_ret (h o _ r (t.putLp j g))⟩
def VS (P:Program) (l:Nat) (G:Act->World->Prop) (a:Act) (w:World):Prop:=∃b,(Instr.beginRound l).run P w = .ok () b∧G a b
theorem SP {l i:Nat} {R:Wr} {b:Option Code} (e:M[i]? = some (Lp l R .ready b)) (h:J c n σ (M.set i (Lp l R .busy b)) L G):J c n σ M L (VS P l G):=λa w s t=>by
 obtain⟨F,j,g,f,k,o,d⟩:=t.res e;exact⟨_,run_beginRound d Z,h a _ s (t.putLp e d)⟩
def Wt (n:Sz) (σ:Fr) (d:Nat) (K:Act->World->Prop) (e:Ending) (w:World):Prop:=∃v,e = .returned v∧∀a,Fu n ((d,v)::σ) a->K a w
theorem Jj {l i d:Nat} {R:Wr} {b:Option Code} (f:M[i]? = some (Lp l R .busy b)) (h:J c m ((d,.bool true)::σ') (M.set i (Lp l R .ready none)) L K):J c n σ M L (roundPost P l (Wt m σ' d K) .normal):=λa w s t=>by
 obtain⟨F,p,k,g,q,r,e⟩:=t.res f;exact⟨_,_,run_endRound none e,_,rfl,λj o=>h j _ o (t.putLp f e)⟩
theorem We {l i d:Nat} {R:Wr} {b:Option Code} (f:M[i]? = some (Lp l R .busy b)) (h:J c m ((d,.bool false)::σ') (M.set i (Lp l R .done (some .ret))) L K):J c n σ M L (roundPost P l (Wt m σ' d K) .ret):=λa w s t=>by
 obtain⟨F,p,k,g,q,r,e⟩:=t.res f;exact⟨_,_,run_endRound (some .ret) e,_,rfl,λj o=>h j _ o (t.putLp f e)⟩
def FJ:List Tmp->List Value->Fr->Fr
 |t::ts,v::vs,σ=>FJ ts vs ((t,v)::σ)
 |_,_,σ=>σ
theorem JS:∀(d:List Tmp) (f:List Value) (a:Array Value) (σ:Fr) (k:Nat),a.size=k->d.all (λt=>Nat.blt t k)=true->(∀t v,lk σ t=some v->a[t]? = some v)->
  ((d.zip f).foldl (λa (x:Tmp×Value)=>a.setIfInBounds x.1 x.2) a).size=k∧∀t v,lk (FJ d f σ) t=some v->((d.zip f).foldl (λa (x:Tmp×Value)=>a.setIfInBounds x.1 x.2) a)[t]? = some v
 | [],_,a,σ,k,h1,_,h3=>by simpa [FJ]using ⟨h1,h3⟩
 |_::_,[],a,σ,k,h1,_,h3=>by simpa [FJ]using ⟨h1,h3⟩
 | p :: d, x :: f, a, σ, k, h1, h2, h3 => by
  simp only[List.all_cons,Bool.and_eq_true]at h2;have g:p<k:=by simpa [Nat.blt_eq]using h2.1
  simp only[List.zip_cons_cons,List.foldl_cons,FJ];refine JS d f _ _ k (by simp[h1]) h2.2 λt v b=> ?_;simp only[lk]at b;by_cases e:t=p
  ·subst e;simp at b;subst b;simp[h1,g]
  ·rw[mL e]at b;simp only[cond_false]at b;rw[Array.getElem?_setIfInBounds_ne (Ne.symm e)];exact h3 t v b
theorem ZJ {f:Array Oper} {b:List Oper} {t:Tmp} {z:List Operand} {g:List Value} {o:Array TypeId} {d:Nat} {B:TypeId} {y:String} {k:Array Edge} {l i:Nat} {R:Wr} {j:List Tmp} (U:lk σ t=some (xN l)) (W:z.map (ev σ)=g.map some) (T:M[i]? = some (Lp l R .ready none)) (r:R.ps=j.toArray) (q:g.length=j.length) (p:j.all (λt=>Nat.blt t R.n)=true) (S:Nat.blt d n.sz=true)
  (h:J c ⟨R.n,[]⟩ (FJ j g R.σ) M L (R.assign.wpr (some l) P (Exit.then (VS P l (R.body.wpr (some l) P (roundPost P l (Wt n σ d (wpList P f Q b))))) (λ_ _ _=>False)))):
  J c n σ M L (wpList P f Q (⟨some d,.call ⟨.value (.tmp t),z.toArray,o⟩,B,y,k,none⟩::b)):=λa w s A=>by
 obtain⟨F,h1,H,tmps,I,N,O⟩:=A.res T;have e:=evs s W;have C:a.eval (.tmp t)=xN l:=s.eval (x:= .tmp t) U;have X:=run_yield (P:=P) (args:=g.toArray) O (by simp[r,q]);have u:(execOp a.eval ⟨some d,.call ⟨.value (.tmp t),z.toArray,o⟩,B,y,k,none⟩).run P w=(Instr.yield l g.toArray).run P w:=by
  simp[execOp,resolve,C,xN,Deferred.ofValue,invoke,e]
 unfold wpList;rw[if_pos (show Region.wanted _ _=true from rfl)];refine .inr ⟨_,_,_,_,_,_,u.trans X,?_⟩;refine RoundIn.mono (R:=Wt n σ d (wpList P f Q b)) (roundIn_of_wpIn (F:=FR none) trivial ?_) ?_
 ·obtain⟨D,E⟩:=JS j g tmps R.σ R.n I p N;have:=h {tmps:=(j.zip g).foldl (λtmps (x:Tmp×Value)=>tmps.setIfInBounds x.1 x.2) tmps,defers:=[]} w ⟨rfl,D,E⟩ A;simp only[r,List.zip_toArray,List.foldl_toArray];exact this
 ·rintro e Y ⟨v,rfl,V⟩;exact⟨v,rfl,V _ (s.put d v S)⟩
theorem ME {g:Operand} {ps:Array Tmp} {assign body:Code} {f:FuncId} {fn:Func} {code:Code} {cs:List Value} {k:Nat} (hb:aX P f) (hx:ev σ g=some (.func (.func f) #[] cs.toArray)) (hf:P.funcs[f]? = some fn) (hbd:fn.body=some code) (hn:fn.ntmps=k) (hm:Nat.ble (cs.length+1) k=true)
  (h:∀(l D:Nat) (R:Wr),R.n=n.sz∧R.σ=σ∧R.ps=ps∧R.assign=assign∧R.body=body->J c ⟨k,[]⟩ (wO 0 (xN l::cs)) (Lp l R .ready none::Dfr D::M) L (code.wpr none P (gM P fn (Ws P n σ l D Q)))):
  J c n σ M L ((Code.rangeFunc g ps assign body).wpr none P Q):=N_ hb hx hf hbd hn hm λl D=>h l D _ ⟨rfl,rfl,rfl,rfl,rfl⟩
theorem Oa {j:Array Oper} {e:List Oper} {t:Tmp} {u:List Operand} {us:List Value} {r:Array TypeId} {d:Nat} {B:TypeId} {s:String} {q:Array Edge} {l i k:Nat} {R:Wr} {p:List Tmp} {o:Fr} {a b:Code} (w:R.n=k∧R.σ=o∧R.ps=p.toArray∧R.assign=a∧R.body=b) (z:lk σ t=some (xN l)) (A:u.map (ev σ)=us.map some) (y:M[i]? = some (Lp l R .ready none)) (g:us.length=p.length) (f:p.all (λt=>Nat.blt t k)=true) (x:Nat.blt d n.sz=true)
  (h:J c ⟨k,[]⟩ (FJ p us o) M L (a.wpr (some l) P (Exit.then (VS P l (b.wpr (some l) P (roundPost P l (Wt n σ d (wpList P j Q e))))) (λ_ _ _=>False)))):
  J c n σ M L (wpList P j Q (⟨some d,.call ⟨.value (.tmp t),u.toArray,r⟩,B,s,q,none⟩::e)):=by
 obtain⟨rfl,rfl,v,rfl,rfl⟩:=w;exact ZJ z A y v g f x h
end
def Kd (Ds:List Nat):List Deferred:=Ds.map Yk
def MA (Ds:List Nat):bA where
 p w F:=Ds.Nodup∧∀D∈Ds,F D∧w.heap[D]? = some (.deferred (some []))
 mono:=fun⟨c,a⟩ h=>⟨c,λD b=>by
  obtain⟨d,e⟩:=h D (a D b).1 (Array.getElem?_eq_some_iff.1 (a D b).2).1;exact⟨d,by rw[e];exact(a D b).2⟩⟩
section
variable {P:Program} {rd:Option Nat} {c:uJ} {n m:Sz} {σ σ':Fr} {M L:List bA} {Q:Exit->Act->World->Prop} {K G:Act->World->Prop}
theorem Ow:oI M L (MA []::M) L:=oI.add λ_=>⟨List.nodup_nil,by simp⟩
theorem Ox (i j:Nat) {D:Nat} {e:List Nat} (d:i≠j) (l:M[i]? = some (MA e)) (o:M[j]? = some (Dfr D)):oI M L ((M.set i (MA (D::e))).eraseIdx j) L:=λc w t=>
 t.merge i j d l o (by
  rintro w q r ⟨g,b⟩ ⟨f,h⟩ k;refine⟨List.nodup_cons.2 ⟨λp=>k D (b D p).1 f,g⟩,λE a=> ?_⟩
  rcases List.mem_cons.1 a with rfl|a
  ·exact⟨.inr f,h⟩
  ·exact⟨.inl (b E a).1,(b E a).2⟩)
theorem FX {g:Operand} {ps:Array Tmp} {assign body:Code} {f:FuncId} {fn:Func} {code:Code} {cs:List Value} {k i s:Nat} (Ds:List Nat) (hi:M[i]? = some (MA Ds)) (hb:aX P f) (hx:ev σ g=some (.func (.func f) #[] cs.toArray)) (hf:P.funcs[f]? = some fn) (hbd:fn.body=some code) (hn:fn.ntmps=k) (hm:Nat.ble (cs.length+1) k=true)
  (h:∀(l D:Nat) (R:Wr),R.n=s∧R.σ=σ∧R.ps=ps∧R.assign=assign∧R.body=body->J c ⟨k,[]⟩ (wO 0 (xN l::cs)) (Lp l R .ready none::M.set i (MA (D::Ds))) L (code.wpr none P (gM P fn (Ws P ⟨s,Kd Ds⟩ σ l D Q)))):
  J c ⟨s,Kd Ds⟩ σ M L ((Code.rangeFunc g ps assign body).wpr none P Q):=ME hb hx hf hbd hn hm λl D R hR=>
 jD (Ox (i+2) 1 (by omega) hi Z) (h l D R hR)
theorem rW {o:Func} {R:Ending->World->Prop} {f:Exit} {i k:Nat} (b:f = .ret∨f = .normal):∀{Ds:List Nat} {M:List bA},M[i]? = some (MA Ds)->J c ⟨k,[]⟩ σ (M.set i (MA [])) L (gM P o R f)->J c ⟨k,Kd Ds⟩ σ M L (gM P o R f)
 | [], M, hi, h => by
  have:M.set i (MA [])=M:=by
   apply List.ext_getElem?;intro j;by_cases e:i=j
   ·subst e;rw[hi];simp[(List.getElem?_eq_some_iff.1 hi).1]
   ·simp[List.getElem?_set_ne e]
  rw[this]at h;exact h
 | D :: Ds, M, hi, h => λa w s t => by
  obtain⟨F,v,q⟩:=t.res hi;have u:St c (M.set i (MA Ds)) L (w.putObj D (.deferred none)):=by
   refine t.upd hi Z Z Z (by simp) λF d _=>⟨λk _ r=> ?_,F,?_,λ_ h=> .inl h⟩
   ·exact World.putObj_heap_other (λe=>r (e▸(d.2 D (by simp)).1))
   ·obtain⟨p,d⟩:=d;refine⟨(List.nodup_cons.1 p).2,λE g=>⟨(d E (by simp[g])).1,?_⟩⟩
    rw[World.putObj_heap_other (λe=>(List.nodup_cons.1 p).1 (by subst e;exact g))];exact(d E (by simp[g])).2
  refine UP b s.defers (q D (by simp)).2 ?_;have l:(M.set i (MA Ds))[i]? = some (MA Ds):=by simp[(List.getElem?_eq_some_iff.1 hi).1]
  have:=rW b l (by rw[List.set_set];exact h) {tmps:=a.tmps,defers:=Kd Ds} _ ⟨rfl,s.size,s.slot⟩ u;rcases b with rfl|rfl<;>exact this
def afX {A B:Type} (c:uJ) (f:A->B->Sz) (C:A->Prop) (b:A->B->Fr) (e d:A->B->List bA) (a:Act) (w:World):Prop:=∃x y,C x∧Fu (f x y) (b x y) a∧St c (e x y) (d x y) w
theorem QO {A B:Type} {x:Code} (h:A->B->Sz) (C:A->Prop) (d:A->B->Fr) (g f:A->B->List bA) (j:J c n σ M L (x.wpr rd P (Exit.then (afX c h C d g f) Q))) (k:∀a b,C a->J c (h a b) (d a b) (g a b) (f a b) K):
  J c n σ M L (x.wpr rd P (Exit.then K Q)):=λa w s t=>Ha (λe i u q=>by
 cases e with
 |normal=>obtain⟨z,y,o,p,r⟩:=q;exact k z y o i u p r
 |exit id=>exact q
 |goto l=>exact q
 |ret=>exact q
 |panic v=>exact q
 |outgrown=>exact q) (j a w s t)
theorem II {A B:Type} {e:A->B->Sz} {C:A->Prop} {a:A->B->Fr} {d b:A->B->List bA} (x:A) (y:B) (i:n=e x y) (f:C x) (j:zB σ (a x y)) (h:a_ M (d x y)) (g:aG [] L (b x y)):J c n σ M L (afX c e C a d b):=
 λ_ _ s t=>⟨x,y,f,i▸s.weak j,t.weakE h g⟩
end
def Gb (b:Nat) (cs:List Value):bA where
 p w S:=S b∧∃T,w.heap[b]? = some (.cells cs.toArray T (0,0))
 mono:=fun⟨c,T,a⟩ h=>by
  obtain⟨d,e⟩:=h b c (Array.getElem?_eq_some_iff.1 a).1;exact⟨d,T,by rw[e];exact a⟩
section
variable {P:Program} {c:uJ} {n:Sz} {σ:Fr} {M L:List bA} {d:Option Tmp} {ty:TypeId} {pos:String} {aft:Array Edge} {g:Option (Nat×Bool)} {α:Type} {e:dA α}
theorem OC [cL P] {T E:TypeId} {u:IntKind} {k v A f B:Nat} {z C:Value} {l:TypeDesc} {x y:Operand} {b:Nat} {i:Int} (q:ev σ x=some (.pointer (some ⟨b,0,none⟩))) (r:ev σ y=some (.int u i))
  (p:cL.tab P T=some ⟨.array k E,v,A,z⟩) (o:cL.tab P E=some ⟨l,f,B,C⟩) (m:(f==0)=false) (h:0<=i∧i<(k:Int)):
  Y P c n σ M L ⟨d,.indexAddr T x y,ty,pos,aft,g⟩ (.pointer (some ⟨b,i.toNat*f,none⟩)):=λa w s t=>by
 have j:f≠0:=by simpa using m
 simp[execOp,s.eval q,s.eval r,Instr.indexAt,asIntOf,(cL.ok p).run_und w,h,Instr.sureAddr,(cL.ok o).run_size w,j,dX]
theorem UK [cL P] [Inhabited α] {T:TypeId} {E:Nat} {z:Value} {o:TypeDesc} {x:Operand} {b k:Nat} {i:Int} {f:List α} {u:Value} (q:ev σ x=some (.pointer (some ⟨b,i.toNat*1,none⟩)))
  (y:aF M L (Gb b (cellsOf e f))) (A:cL.tab P T=some ⟨o,1,E,z⟩) (B:yA o=false) (C:e.sz=1) (D:(e.enc (at' f i))=[u]) (h:(0<=i∧i<(k:Int))∧f.length=k):
  Y P c n σ M L ⟨d,.load T x,ty,pos,aft,g⟩ u:=λa w s t=>by
 obtain⟨F,j,r,l⟩:=y.st t;have v:(bV b (cellsOf e f) r).p w F:=⟨j,l⟩
 have m:=vQ e f i.toNat (at' f i) (jH h.1.1 (by omega)) 0 u (by rw[D];rfl);rw[C,Nat.add_zero]at m;rw[Nat.mul_one]at q m;simp[execOp,s.eval q,yI (cL.ok A) B (bV.cell v m)]
end
def sl3 (v:Value) (l h m b:Nat):Value:=match v with
 | .slice a _ _=> .slice (if m=l then a else a.map (·.add (l*b))) (h - l) (m - l)
 |v=>v
section
variable {P:Program} {rd:Option Nat} {c:uJ} {n:Sz} {σ:Fr} {M L:List bA} {Q:Exit->Act->World->Prop} {ops:Array Oper} {rest:List Oper} {d:Option Tmp} {ty:TypeId} {pos:String} {aft:Array Edge} {g:Option (Nat×Bool)} {α:Type} {e:dA α} {r:eJ α} {G:Act->World->Prop}
theorem Lu [cL P] {T E:TypeId} {J K u N:Nat} {z O:Value} {B:TypeDesc} {x p o q:Operand} {v:Value} {i k m:Int} {y:List α} (I:ev σ x=some v) (f:ev σ p=some (.int .i64 i)) (b:ev σ o=some (.int .i64 k)) (j:ev σ q=some (.int .i64 m)) (l:aF M L (Sl r v y))
  (F:cL.tab P T=some ⟨.slice E,J,K,z⟩) (D:cL.tab P E=some ⟨B,u,N,O⟩) (h:0<=i∧i<=k∧k<=m∧m<=y.length):Y P c n σ M L ⟨d,.slice T x (some p) (some o) (some q),ty,pos,aft,g⟩ (sl3 v i.toNat k.toNat m.toNat u):=λa w s t=>by
 have C:=WB (P:=P) (c:=c) (n:=n) (d:=d) (ty:=ty) (pos:=pos) (aft:=aft) (g:=g) I f b j l F D h a w s t;obtain⟨S,R,A,H,_⟩:=l.st t;subst H;exact C
theorem UH {w:World} {S:Nat->Prop} {v:Value} {i:List α} (p:Hc r w S v i) {l h m:Nat} (x:l<=h) (u:h<=m) (z:m<=i.length):Hc r w S (sl3 v l h m r.sz) ((i.take h).drop l):=by
 have A:=Hc.part p x (Nat.le_trans u z);obtain⟨a,s,rfl,C,_⟩:=p;obtain⟨B,k,j,t,b⟩:=A;have f:((i.take h).drop l).length=h - l:=by simp;omega
 refine⟨if m=l then a else a.map (·.add (l*r.sz)),m - l,by simp[sl3,f],by omega,?_⟩
 rcases b with b|b
 ·exact .inl b
 ·by_cases o:(i.take h).drop l=[]
  ·exact .inl o
  ·right;have y:l<h:=by
    rcases Nat.lt_or_ge l h with q|q
    ·exact q
    ·exact absurd (List.eq_nil_of_length_eq_zero (by omega)) o
   simp only[slq,Value.slice.injEq]at j;rw[if_neg (by omega)]at j;rw[if_neg (by omega),j.1];exact b
theorem Cg {v:Value} {a:List α} (b:aF M L (Sl r v a)) {l h m:Int} {q:Nat} (f:r.sz=q) (j:0<=l∧l<=h∧h<=m∧m<=a.length):aF M L (Sl r (sl3 v l.toNat h.toNat m.toNat q) ((a.take h.toNat).drop l.toNat)):=by
 subst f;exact b.mono λi=>UH i (by omega) (by omega) (by omega)
def Wu (r:eJ α) (vs:List Value) (b:List (List α)):bA where
 p w S:=vs.length=b.length∧∀(i:Nat) v a,vs[i]? = some v->b[i]? = some a->Hc r w S v a
 mono:=fun⟨f,j⟩ h=>⟨f,λi v a k l=>(Sl r v a).mono (j i v a k l) h⟩
theorem SO (r:eJ α) (m:Nat) (h:J c n σ M (Wu r (List.replicate m (.slice none 0 0)) (List.replicate m ([]:List α))::L) G):J c n σ M L G:=λa w s t=>h a w s (by
 obtain⟨k,F,b,j⟩:=t;refine⟨k,F,b,λf hf=> ?_⟩
 rcases List.mem_cons.1 hf with rfl|hf
 ·refine⟨by simp,λi v p l o=> ?_⟩
  obtain⟨_,rfl⟩:=List.mem_replicate.1 (List.mem_of_getElem? l);obtain⟨_,rfl⟩:=List.mem_replicate.1 (List.mem_of_getElem? o);exact⟨none,0,rfl,by simp,.inl Z⟩
 ·exact j f hf)
theorem SS (j:Nat) {vs:List Value} {o:List (List α)} {t:Value} {u:List α} {k:Nat} (C:L[j]? = some (Wu r vs o)) (D:aF [] L (Sl r t u)) (h:J c n σ M (L.set j (Wu r (vs.set k t) (o.set k u))) G):J c n σ M L G:=λa w s I=>h a w s (by
 obtain⟨H,F,B,p⟩:=I;refine⟨H,F,B,λf q=> ?_⟩
 rcases List.mem_or_eq_of_mem_set q with q|rfl
 ·exact p f q
 ·obtain⟨x,y⟩:=p _ (List.mem_of_getElem? C);refine⟨by simp[x],λi v K b l=> ?_⟩
  by_cases e:k=i
  ·subst e;have z:=bE b;have A:=bE l;rw[List.getElem?_set_self (by simpa using z)]at b;rw[List.getElem?_set_self (by simpa using A)]at l;cases b;cases l;exact D w (Dl c F) (λ_ _=>False) (Dl c F) p (λi m E=>by simp at E) (λ_ h=>h) (λ_ _ h=>h.elim)
  ·rw[List.getElem?_set_ne e]at b l;exact y i v K b l)
theorem Lk [cL P] (j q:Nat) {T:TypeId} {E:Nat} {z:Value} {l:TypeDesc} {x y:Operand} {v u:Value} {i:Int} {vs:List Value} {b:List (List α)} (h:0<=i∧i<b.length) (C:ev σ x=some (DV v (i.toNat*1))) (D:ev σ y=some u)
  (p:M[j]? = some (Ar dA.raw v vs)) (B:L[q]? = some (Wu r vs b)) (f:one u=true) (o:cL.tab P T=some ⟨l,1,E,z⟩)
  (A:J c n σ (M.set j (Ar dA.raw v (vs.set i.toNat u))) L (wpList P ops Q rest)):
  J c n σ M L (wpList P ops Q (⟨none,.store T x y,ty,pos,aft,none⟩::rest)):=λa w s t=>by
 have k:vs.length=b.length:=by obtain⟨_,F,_,m⟩:=t;exact(m _ (List.mem_of_getElem? B)).1
 exact Jk j u C D Z f p o Z h.1 (by omega) A a w s t
theorem Ch {i j:Nat} {v:Value} {vs:List Value} {a:List (List α)} (K:M[i]? = some (Ar dA.raw v vs)) (N:L[j]? = some (Wu r vs a)):aF M L (S2 r v (vs.zip a) a):=λw S T U D E H I=>by
 have C:=E i _ K;obtain⟨h,F⟩:=D _ (List.mem_of_getElem? N);refine⟨?_,by rw[List.map_snd_zip];omega⟩
 have A:(vs.zip a).length=vs.length:=by simp[h]
 have f:Dk dA.raw w (T i) v vs:=C;have o:=f;obtain⟨Y,_,J⟩:=f;rcases J with⟨rfl,rfl⟩|⟨b,t,m,V,B,rfl,p,W,y,X,ht⟩
 ·exact⟨none,0,rfl,by simp,.inl Z⟩
 ·refine⟨_,m,by rw[A],by rw[A];omega,.inr ⟨b,t,rfl,I i _ p,λq x l=> ?_⟩⟩
  have z:vs[q]? = some x.1:=by rw[List.getElem?_zip_eq_some]at l;exact l.1
  have s:a[q]? = some x.2:=by rw[List.getElem?_zip_eq_some]at l;exact l.2
  refine⟨[x.1],λR u O=> ?_,rfl,?_⟩
  ·have:=Dk.cell o z (j:=R) (u:=u) O;simp only[JJ,dX]at this;exact this
  ·exact(Sl r x.1 x.2).mono (F q _ _ z s) (λk y _=>⟨H k y,rfl⟩)
end
end Go.Sx
namespace Go.Sx
section
variable {P:Program} {M L:List bA} {α β γ:Type} {r:eJ α} {s:eJ γ} {q:eJ β}
def eJ.Deep (r:eJ α) (q:eJ β) (f:α->Value×List β):Prop:=∀{w S es x},r.R w S es x->Hc q w S (f x).1 (f x).2
theorem DC (q:eJ β):(eJ.sl q).Deep q (λx=>x):=λh=>h.2
theorem UF {f:α->Value×List β} (h:r.Deep q f):(r.pair s).Deep q (λx=>f x.1):=by
 rintro w S d x ⟨b,c,rfl,a,_⟩;exact h a
theorem Ew {f:α->Value×List β} (h:r.Deep q f):(s.pair r).Deep q (λx=>f x.2):=by
 rintro w S d x ⟨b,c,rfl,_,a⟩;exact h a
theorem vN [Inhabited α] {v:Value} {a:List α} {i:Int} {f:α->Value×List β} (h:aF M L (Sl r v a)) (d:r.Deep q f) (b:0<=i) (c:i<a.length):aF M L (Sl q (f (at' a i)).1 (f (at' a i)).2):=h.mono λ{w U} hs=>by
 obtain⟨g,e,_⟩:=sl_cell hs (jH b c);exact d e
def JA (s:ByteArray):List Int:=s.data.toList.map λb=>(b.toNat:Int)
theorem Cm [cL P] {c:uJ} {n:Sz} {l:Fr} {d:Option Tmp} {H:TypeId} {e:String} {b:Array Edge} {g:Option (Nat×Bool)} {T:TypeId} {F G:Nat} {z:Value} {x y:Operand} {s:ByteArray} {f:List Int} {k:IntKind} {i:Int} (D:ev l x=some (.string s)) (E:ev l y=some (.int k i)) (u:cL.tab P T=some ⟨.string,F,G,z⟩) (A:JA s=f) (h:0<=i∧i<f.length):
  Y P c n l M L ⟨d,.index T x y,H,e,b,g⟩ (.int .u8 (at' f i)):=λa w p t=>by
 subst A;obtain⟨I,m⟩:=h;obtain⟨j,rfl⟩:∃j:Nat,i=(j:Int):=⟨i.toNat,by omega⟩
 have o:j<s.data.toList.length:=by unfold JA at m;simp at m ⊢;omega
 have C:j<s.size:=by have:=Lib.size_eq s;simp at o;omega
 have B:s[j]? = some (s.data.toList[j]):=by
  rw[getElem?_pos s j C];rfl
 have v:at' (JA s) (j:Int)=((s.data.toList[j]).toNat:Int):=by
  unfold at' JA;simp[List.getD_eq_getElem?_getD,List.getElem?_eq_getElem o]
 rw[v];simp[execOp,p.eval D,p.eval E,Instr.index,asIntOf,(cL.ok u).run_und w,B]
theorem Q_ [cL P] {c:uJ} {n:Sz} {j:Fr} {d:Option Tmp} {F:TypeId} {i:String} {e:Array Edge} {g:Option (Nat×Bool)} {T E:TypeId} {A B C D m b:Nat} {z G:Value} {o:TypeDesc} {x l:Operand} {k:Int} (y:ev j x=some (.pointer (some ⟨b,0,none⟩))) (f:ev j l=some (.int .i64 k))
  (v:cL.tab P T=some ⟨.array m E,A,B,z⟩) (u:cL.tab P E=some ⟨o,C,D,G⟩) {q:Int} (h:0<=k∧k<=((m:Nat):Int)∧k<=q):Y P c n j M L ⟨d,.slice T x none (some l) none,F,i,e,g⟩ (.slice (some ⟨b,0,none⟩) k.toNat m):=λa w s t=>by
 have p:0<=k∧k<=(m:Int):=⟨h.1,h.2.1⟩
 simp[execOp,s.eval y,s.eval f,Instr.sliceAt,Instr.slice,(cL.ok v).run_und w,Instr.sliceBounds,Instr.sliceBound,asIntOf,(cL.ok u).run_size w,p,asAddr,Addr.add,Instr.sureAddr]
theorem Wi {e:dA α} {i b T m:Nat} {k:Int} {a:List α} (t:M[i]? = some (bV b (cellsOf e a) T)) (c:e.Fits r) (h:0<=k∧k<=((m:Nat):Int)∧k<=(a.length:Int)) (p:m<=9223372036854775807):aF M L (Sl r (.slice (some ⟨b,0,none⟩) k.toNat m) (a.take k.toNat)):=λw S T U B f C v=>by
 have n:=f i _ t;have o:(a.take k.toNat).length=k.toNat:=by simp;omega
 refine⟨some ⟨b,0,none⟩,m,by rw[o],by rw[o];omega,.inr ⟨b,0,rfl,v _ _ n.1,λj x d=> ?_⟩⟩
 have l:a[j]? = some x:=by
  rw[List.getElem?_take]at d;split at d
  ·exact d
  ·cases d
 obtain⟨g,D,z,_⟩:=c;refine⟨e.enc x,λq u A=> ?_,z⟩
 have y:=vQ e a _ _ l _ _ A;rw[g,Nat.zero_add];exact bV.cell n y
def eJ.All (r:eJ α) (n:Nat) (g:α->List Value):Prop:=r.sz=n∧∀{w S es x},r.R w S es x->es=g x
theorem QV {e:dA α} (h:e.Fits r):r.All e.sz e.enc:=⟨h.1,h.2.1⟩
theorem QW (q:eJ β):(eJ.sl q).All 1 (λx=>[x.1]):=⟨rfl,λh=>h.1⟩
theorem MH {n m:Nat} {f:α->List Value} {g:γ->List Value} (h:r.All n f) (k:s.All m g):(r.pair s).All (n+m) (λx=>f x.1++g x.2):=⟨by show r.sz+s.sz=_;rw[h.1,k.1],by
 rintro w S e x ⟨c,d,rfl,a,b⟩;rw[h.2 a,k.2 b]⟩
theorem QZ [cL P] [Inhabited α] {c:uJ} {n:Sz} {B:Fr} {d:Option Tmp} {O:TypeId} {o:String} {k:Array Edge} {g:Option (Nat×Bool)} {T:TypeId} {N q m:Nat} {z:Value} {p:TypeDesc} {x:Operand} {v:Value} {i:Int} {e:List α} {cs:List Value} {f:α->List Value} (K:ev B x=some (DV v (i.toNat*q))) (G:aF M L (Sl r v e)) (y:r.All m f) (l:f (at' e i)=cs)
  (E:cL.tab P T=some ⟨p,cs.length,N,z⟩) (F:yA p=true) (H:m=q) (h:0<=i∧i<e.length):Y P c n B M L ⟨d,.load T x,O,o,k,g⟩ (.agg cs.toArray):=λa w s t=>by
 obtain⟨C,D⟩:=h;obtain⟨S,h⟩:=G.st t;obtain⟨Q,I,b⟩:=sl_cell h (jH C D);have:=y.2 I;subst this l;rw[y.1,H]at b;have:=Bp (w:=w) (A:=JJ v (i.toNat*q)) (cs:=f (at' e i)) (cL.ok E) F Z (λj u J=>by rw[IP];exact b j u J);simp[execOp,s.eval K,DV,this]
end
end Go.Sx
namespace Go.Sx
open Go.RowKit
section
variable {P:Program} {c:uJ} {n:Sz} {σ:Fr} {M L:List bA} {d:Option Tmp} {ty:TypeId} {pos:String} {aft:Array Edge} {g:Option (Nat×Bool)}
def agc (v:Value) (m:Nat):Prop:=∃a e,v = .slice a m e∧(m=0∨∃b f,a=some ⟨b,f,none⟩)
theorem Know.len {f:Type} {r:eJ f} {v:Value} {xs:List f} (j:aF M L (Sl r v xs)):∀c w,St c M L w->agc v xs.length:=λc w t=>by
 obtain⟨S,i,cap,k,_,h⟩:=j.st t;exact⟨i,cap,k,h.imp (λh=>by simp[h]) fun⟨b,a,e,_⟩=>⟨b,a,e⟩⟩
theorem OD [cL P] {T E:TypeId} {B C k D m:Nat} {z F:Value} {o:TypeDesc} {x y:Operand} {v:Value} {i:Int} (u:ev σ x=some v) (A:ev σ y=some (.int .i64 i)) (f:agc v m)
  (s:cL.tab P T=some ⟨.slice E,B,C,z⟩) (r:cL.tab P E=some ⟨o,k,D,F⟩) (h:0<=i∧i<(m:Int)):Y P c n σ M L ⟨d,.indexAddr T x y,ty,pos,aft,g⟩ (DV v (i.toNat*k)):=λa w l t=>by
 obtain⟨G,e,rfl,f⟩:=f;obtain⟨p,q⟩:=h;rcases f with rfl|⟨b,j,rfl⟩
 ·omega
 ·simp[execOp,l.eval u,l.eval A,HM w (cL.ok s) Z (cL.ok r) b j _ e i p q]
theorem Jo [cL P] (i:Nat) {T j:TypeId} {H m o b:Nat} {z:Value} {q:TypeDesc} {x y:Operand} {cs e us:List Value} {u:Value} (E:ev σ x=some (.pointer (some ⟨b,o,none⟩))) (G:ev σ y=some u) (l:u.cells=us.toArray) (B:us.length=m)
  (r:us.all one=true) (p:M[i]? = some (bV b cs j)) (A:cL.tab P T=some ⟨q,m,H,z⟩) (C:Nat.ble (o+m) cs.length=true) (k:cs.take o++us++cs.drop (o+m)=e):
  aN P c n σ M L ⟨none,.store T x y,ty,pos,aft,none⟩ (λ_:Unit=>undef) (λ_=>M.set i (bV b e j)) (λ_=>L):=λa w s t=>by
 subst B k;obtain⟨F,v⟩:=t.res p;have D:o+us.length<=cs.length:=by simpa using C
 have h:=run_storeCells_at P b o j us 0 cs.toArray w v.2 (by simp;omega) (λu l=>qC (List.all_eq_true.1 r u l));simp only[Nat.add_zero]at h;have f:(execOp a.eval ⟨none,.store T x y,ty,pos,aft,none⟩).run P w = .ok .skip (w.setRow b (cs.take o++us++cs.drop (o+us.length)).toArray):=by
  simp[execOp,s.eval E,s.eval G,Instr.storeAt,Instr.sureAddr,storeVar,l,(cL.ok A).run_size w,h]
 simp only[Oper.wp,f,Oper.upon];exact⟨(),trivial,t.fill p⟩
theorem Kw {a:Type} [Inhabited a] (l:List a) (k:Int) (h:k.toNat<l.length) (b:0<=k):l.set k.toNat (at' l k)=l:=by
 have:=jH (xs:=l) b (by omega);refine List.ext_getElem? λi=> ?_;by_cases e:k.toNat=i
 ·subst e;rw[List.getElem?_set_self h,this]
 ·rw[List.getElem?_set_ne e]
theorem Dz [cL P] {l:Type} [Inhabited l] {e:dA l} (j:Nat) {T:TypeId} {Q m o q:Nat} {z:Value} {C:TypeDesc} {x y:Operand} {u:Value} {us:List Value} {i k:Int} {vs:List Value} {b:List (List l)} (f:l) (A:0<=k∧k<b.length) (h:0<=i∧i<(at' b k).length) (N:ev σ x=some (DV (at' vs k) (i.toNat*q+o))) (O:ev σ y=some u)
  (v:M[j]? = some (lU e vs b)) (I:e.sz=q) (K:u.cells=us.toArray) (G:us.length=m) (H:Nat.ble (o+m) q=true) (B:e.enc f=(e.enc (at' (at' b k) i)).take o++us++(e.enc (at' (at' b k) i)).drop (o+m)) (p:us.all one=true) (D:cL.tab P T=some ⟨C,m,Q,z⟩):
  aN P c n σ M L ⟨none,.store T x y,ty,pos,aft,none⟩ (λ_:Unit=>undef) (λ_=>M.set j (lU e vs (b.set k.toNat ((at' b k).set i.toNat f)))) (λ_=>L):=λa w s t=>by
 have U:=dL j v c w t;have F:j<M.length:=(List.getElem?_eq_some_iff.1 v).1;refine m_ (λS R ⟨x,E,J⟩=>⟨x,E,?_⟩) (Of 0 f h N O Z I K G H B p D a w s (Oy j v A c w t));have r:=Ou (j+1) 0 (u:=at' vs k) (k:=k) (vs:=vs) (xss:=b) (ys:=(at' b k).set i.toNat f) (e:=e) Z (by simp[F]) Z (by simpa using A) c R J;simp only[List.set_cons_zero,List.set_cons_succ,List.eraseIdx_cons_zero,List.set_set]at r;rw[Kw vs k (by omega) A.1]at r;exact r
end
theorem a_.ix {M a:List bA} (l:List Nat) (c:decide l.Nodup=true) (h:l.map (λi=>M[i]?)=a.map some):a_ M a:=by
 have c:l.Nodup:=of_decide_eq_true c;have k:l.length=a.length:=by simpa using congrArg List.length h
 refine⟨λi=>l.getD i 0,λi j b n e=> ?_,λi m d=> ?_⟩
 ·have f:i<l.length:=by omega
  have g:j<l.length:=by omega
  simp only[List.getD_eq_getElem?_getD,List.getElem?_eq_getElem f,List.getElem?_eq_getElem g,Option.getD_some]at e;exact(List.getElem_inj c).1 e
 ·have b:i<l.length:=by rw[k];exact(List.getElem?_eq_some_iff.1 d).1
  have:=congrArg (λq=>q[i]?) h;simp only[List.getElem?_map,List.getElem?_eq_getElem b,d,Option.map_some,Option.some.injEq]at this;simpa [List.getD_eq_getElem?_getD,List.getElem?_eq_getElem b]using this
def dA.fn:dA Nat:=⟨1,Nat.one_pos,λf=>[.func (.func f) #[] #[]],λ_=>rfl⟩
def eJ.fn:eJ Nat:=⟨1,Nat.one_pos,λ_ _ cs x=>cs=[.func (.func x) #[] #[]],λh=>by simp[h],λh _=>h⟩
theorem NY:dA.fn.Fits eJ.fn:=⟨rfl,λh=>h,rfl,λ_=>rfl⟩
section
variable {P:Program} {rd:Option Nat} {c:uJ} {n:Sz} {σ:Fr} {M L:List bA} {Q:Exit->Act->World->Prop} {ops:Array Oper} {rest:List Oper} {d:Nat} {ty:TypeId} {pos:String} {aft:Array Edge} {x y:Operand} {v:Value} {K:Act->World->Prop}
abbrev vS (x:ByteArray):Value:= .string x
abbrev vB (x:Bool):Value:= .bool x
theorem cX {a:Type} {p G:Prop} {_:Decidable p} {u:Option a} {r:a} (h:ck p u=some r) (k:p->u=some r->G):G:=k (To h).1 (To h).2
theorem fH {a b:Type} {G:Prop} {u:Option a} {f:a->Option b} {r:b} (h:u.bind f=some r) (k:∀y,u=some y->f y=some r->G):G:=by
  obtain⟨y,e,g⟩:=bnd h;exact k y e g
theorem oS (l:List Nat) {a:List bA} (h:l.map (L[·]?)=a.map some):aG M L a:=λf b=>by
  have g:some f∈l.map (L[·]?):=h▸List.mem_map_of_mem b;obtain⟨j,_,e⟩:=List.mem_map.1 g;exact aF.fact j e
theorem Aj.ix (l:List Nat) {a:List bA} (h:l.map (L[·]?)=a.map some):Aj L a:=λf b=>by
  have g:some f∈l.map (L[·]?):=h▸List.mem_map_of_mem b;obtain⟨j,_,e⟩:=List.mem_map.1 g;exact List.mem_of_getElem? e
theorem kA {f:bA} (i:Nat) (h:L[i]? = some f):Aj L [f]:=Aj.cons (List.mem_of_getElem? h) Aj.nil
/-- which of the early loads must still hold,with the numbers of what they have read -/
def bsW (A:Nat->Bool):List (List Nat×List Nat)->List (Nat×List bA×List bA)->List (List Nat×List Nat×List bA×List bA)
  |_,[]=>[]
  |q,(j,Mx,Lx)::B=>bif A j||(Mx.isEmpty&&Lx.isEmpty)then bsW A q B else((q.headD ([],[])).1,(q.headD ([],[])).2,Mx,Lx)::bsW A q.tail B
theorem wF {A:Nat->Bool} (q:List (List Nat×List Nat)) {B:List (Nat×List bA×List bA)} (h:(bsW A q B).map (λz=>(decide z.1.Nodup,z.1.map (M[·]?),z.2.1.map (L[·]?)))=(bsW A q B).map (λz=>(true,z.2.2.1.map some,z.2.2.2.map some))):Ad A M L B:=by
  induction B generalizing q with
  |nil=>exact Ad.z
  | cons b B ih =>
    obtain⟨j,k,i⟩:=b;cases a:A j with
    |true=>exact Ad.b a (ih q (by simpa [bsW,a]using h))
    | false =>
      cases g:(k.isEmpty&&i.isEmpty)with
      | true =>
        obtain⟨e,f⟩:=Bool.and_eq_true_iff.1 g;rw[List.isEmpty_iff]at e f;subst e;subst f;exact Ad.h a_.nil Aj.nil (ih q (by simpa [bsW,a]using h))
      | false =>
        simp only[bsW,a,g,Bool.or_self,cond_false,List.map_cons,List.cons.injEq,Prod.mk.injEq]at h;exact Ad.h (a_.ix _ h.1.1 h.1.2.1) (Aj.ix _ h.1.2.2) (ih q.tail h.2)
def hkB (A:Nat->Bool):List (Nat×List bA×List bA)->Bool
  | []=>true
  |(j,_,_)::H=>bif A j then hkB A H else false
theorem VP {A:Nat->Bool} {f e:List bA} {H:List (Nat×List bA×List bA)} (h:hkB A H=true):aO A f e H:=by
  induction H with
  |nil=>exact aO.z
  | cons b B ih =>
    obtain⟨j,_,_⟩:=b;cases a:A j with
    |false=>simp[hkB,a]at h
    |true=>exact aO.b a (ih (by simpa [hkB,a]using h))
theorem hkN {A:Nat->Bool} {H:List (Nat×List bA×List bA)}:aO A [] [] H:=by
  induction H with
  |nil=>exact aO.z
  |cons b B a=>exact aO.h a_.nil Aj.nil a
theorem dW {T:Operand} (h:(ev σ T,ev σ x,Nat.blt d n.sz)=(some (.bool true),some v,true)) (k:J c n ((d,v)::σ) M L (wpList P ops Q rest)):J c n σ M L (wpList P ops Q (⟨some d,.pick T x y,ty,pos,aft,none⟩::rest)):=by
  simp only[Prod.mk.injEq]at h;exact aB (ZS h.1 h.2.1) h.2.2 k
theorem fO {T:Operand} (h:(ev σ T,ev σ y,Nat.blt d n.sz)=(some (.bool false),some v,true)) (k:J c n ((d,v)::σ) M L (wpList P ops Q rest)):J c n σ M L (wpList P ops Q (⟨some d,.pick T x y,ty,pos,aft,none⟩::rest)):=by
  simp only[Prod.mk.injEq]at h;exact aB (ZR h.1 h.2.1) h.2.2 k
theorem iY {vs:List Value} {i:Nat} (h:(ev σ x,vs[i]?,Nat.blt d n.sz)=(some (.tuple vs.toArray),some v,true)) (k:J c n ((d,v)::σ) M L (wpList P ops Q rest)):J c n σ M L (wpList P ops Q (⟨some d,.extract x i,ty,pos,aft,none⟩::rest)):=by
  simp only[Prod.mk.injEq]at h;exact aB (pI h.1 h.2.1) h.2.2 k
theorem q_ {t a:TypeId} {i:IntKind} {p q:Int} (h:(ev σ x,ev σ y,Nat.blt d n.sz)=(some (.int i p),some (.int i q),true)) (k:J c n ((d,.bool (decide (p≠q)))::σ) M L (wpList P ops Q rest)):J c n σ M L (wpList P ops Q (⟨some d,.binOp .neq t x y a,ty,pos,aft,none⟩::rest)):=by
  simp only[Prod.mk.injEq]at h;exact aB (Df h.1 h.2.1) h.2.2 k
theorem Ab {t a:TypeId} {i:IntKind} {p q:Int} (h:(ev σ x,ev σ y,Nat.blt d n.sz)=(some (.int i p),some (.int i q),true)) (k:J c n ((d,.int i (dR i p q))::σ) M L (wpList P ops Q rest)):J c n σ M L (wpList P ops Q (⟨some d,.binOp .and t x y a,ty,pos,aft,none⟩::rest)):=by
  simp only[Prod.mk.injEq]at h;exact aB (SY h.1 h.2.1) h.2.2 k
theorem kF [cL P] {b:Type} {r:eJ b} {T E:TypeId} {f g:Nat} {z:Value} {a:List b} (e:aF M L (Sl r v a)) (h:(ev σ x,cL.tab P T,Nat.blt d n.sz)=(some v,some ⟨.slice E,f,g,z⟩,true)) (k:J c n ((d,.int .i64 a.length)::σ) M L (wpList P ops Q rest)):J c n σ M L (wpList P ops Q (⟨some d,.call ⟨.builtin .len,#[x],#[T]⟩,ty,pos,aft,none⟩::rest)):=by
  simp only[Prod.mk.injEq]at h;exact aB (fX h.1 e h.2.1) h.2.2 k
variable {l:List Oper} {m:List Nat} {k0:Nat} {H Bs:List (Nat×List bA×List bA)} {rs:List Nat}
theorem jS {i a:Nat} {b:Op} (f:l[i]? = some ⟨some a,b,ty,pos,aft,none⟩) (k:Y P c n σ [] [] ⟨some a,b,ty,pos,aft,none⟩ v)
    (h:JR c n ((a,v)::σ) M L H ((i,[],[])::Bs) (RW P l.toArray Q (before m) (cT l) k0 rs))
    (g:Nat.blt i k0=true:=by exact rfl) (j:dZ b=false:=by exact rfl) (e:Nat.blt a n.sz=true:=by exact rfl):JR c n σ M L H Bs (RW P l.toArray Q (before m) (cT l) k0 (i::rs)):=bK f a_.nil Aj.nil k hkN h g j e
end
end Go.Sx
namespace Go.Sx
abbrev aQ:=List Int
abbrev fM:=List (Int×Int)
abbrev bF:=List aQ
abbrev fW:=List fM
abbrev HQ:=(ByteArray×(List (ByteArray×Int×Int×Int×Int×Int))×(List (ByteArray×(Value×fM)×(Value×List (Int×(Value×fM))))))×((ByteArray×(List (ByteArray×Int×Int×Int×Int×Int))×(List (ByteArray×(Value×fM)×(Value×List (Int×(Value×fM))))))×(aQ×fW)×Int×bF)×fW
abbrev BF:=ByteArray×(List (ByteArray×Int×Int×Int×Int×Int))×(List (ByteArray×(Value×fM)×(Value×List (Int×(Value×fM)))))
abbrev NR:=((ByteArray×(List (ByteArray×Int×Int×Int×Int×Int))×(List (ByteArray×(Value×fM)×(Value×List (Int×(Value×fM))))))×(aQ×fW)×Int×bF)×bF×Int×fM
abbrev Bb:=(List bF×(List (Int×Int×Int×Int×Int))×Int)
abbrev cE:=aQ×fW
abbrev k_:=List (Value×fM)
abbrev VF:=(ByteArray×(List (ByteArray×Int×Int×Int×Int×Int))×(List (ByteArray×(Value×fM)×(Value×List (Int×(Value×fM))))))×(aQ×fW)×Int×bF
abbrev rB:=List (Value×aQ)
abbrev Dt:=Int×aQ×aQ×aQ×Bool×Bool
abbrev abU:=(((ByteArray×(List (ByteArray×Int×Int×Int×Int×Int))×(List (ByteArray×(Value×fM)×(Value×List (Int×(Value×fM))))))×(aQ×fW)×Int×bF)×bF×Int×fM)
abbrev fV:=List Value
abbrev Ep:=ByteArray×Int×Int×Int×Int×Int
abbrev iZ:=(Int×Int)
abbrev Il:=List (ByteArray×Int×Int×Int×Int×Int)
abbrev fP:=Int×Int
abbrev tI:=((aQ×fW))
abbrev lB:=Int×aQ
abbrev rA:=(Int×aQ)
abbrev Za:=(Int×aQ×Int×Int×Int×Int×Int×Int×bF×aQ×(List (Int×Int×Int×Int×Int))×List bF)
abbrev Zb:=Int×aQ×Int×Int×Int×Int×Int×Int×bF×aQ×(List (Int×Int×Int×Int×Int))×List bF
abbrev Im:=Int×(List ((Int×Int)×Int))
abbrev Zc:=(ByteArray×List (ByteArray×Int×Int×Int×Int×Int)×List (fM×List (Int×fM)))
abbrev KO:=List (fM×List (Int×fM))
abbrev Mk:=(Int×(List ((Int×Int)×Int)))
abbrev oH:=List Nat
abbrev Io:=Int×Int×Int×Int×Int
abbrev Ml:=List (Int×Int×Int×Int×Int)
abbrev Qk:=(ByteArray×Int×Int×Int×Int×Int)
abbrev Mm:=Int×aQ×fW×Int×bF
abbrev Ip:=Value×List Value
abbrev Ac:=List bF
abbrev acu:=Int×Int×Int×Int×Int×Int×aQ×aQ×bF×(List (Int×Int×Int×Int×Int))×List bF
abbrev acv:=(List (Int×Int×Int×Int×Int))×List bF×aQ×aQ×bF×Int×Int×Int×Int×Int×Int
abbrev Zd:=((List (ByteArray×Int×Int×Int×Int×Int)))
abbrev Ze:=(List (ByteArray×Int×Int×Int×Int×Int))
abbrev lC:Value:=Value.slice none 0 0
abbrev Qo:List Value:=[lC,lC,lC,vI (0:Int),vI (0:Int),vI (0:Int),vI (0:Int),vU (0:Int)]
abbrev vD1:List Value:=[Value.pointer none,lC,vI (0:Int),vU (0:Int),Value.nilFunc]
abbrev vD2:List Value:=[vI (0:Int),vI (0:Int),vI (0:Int),vI (0:Int),vU (0:Int)]
abbrev vD3:List Value:=[vS (ByteArray.mk #[]),vI (0:Int),vI (0:Int),vI (0:Int),vI (0:Int),vI (0:Int)]
abbrev VH:List Value:=[vI (0:Int),vI (0:Int)]
end Go.Sx
namespace Go.Sx
open Go.RowKit
section
variable {P:Program} {c:uJ} {n:Sz} {σ:Fr} {M L:List bA} {d:Option Tmp} {ty:TypeId} {pos:String} {aft:Array Edge} {g:Option (Nat×Bool)} {α:Type} {e:dA α} {r:eJ α}
def Cfg {α:Type} (e:dA α) (v:Value) (l:List Value) (i:List (List α)):bA where
 p w F:=∃A B:Nat->Prop,Dk dA.raw w A v l∧(lU e l i).p w B∧(∀k,A k->F k)∧(∀k,B k->F k)∧∀k,A k->¬B k
 mono:=by
  rintro w x S u ⟨A,B,s,t,m,o,q⟩ j;exact⟨λk=>A k∧k<w.heap.size,λk=>B k∧k<w.heap.size,(Ar dA.raw v l).mono s λk f h=>⟨⟨f,h⟩,(j k (m k f) h).2⟩,(lU e l i).mono t λk f h=>⟨⟨f,h⟩,(j k (o k f) h).2⟩,λk f=>(j k (m k f.1) f.2).1,λk f=>(j k (o k f.1) f.2).1,λk a b=>q k a.1 b.1⟩
def Lq {α:Type} (e:dA α) (vs:List Value) (m:List (List Value)) (b:List (List (List α))):bA where
 p w F:=(vs.length=b.length∧m.length=b.length)∧∃G:Nat->Nat->Prop,(∀i v l a,vs[i]? = some v->m[i]? = some l->b[i]? = some a->(Cfg e v l a).p w (G i))∧(∀i k,G i k->F k)∧∀i j k,G i k->G j k->i=j
 mono:=by
  rintro w D S C ⟨y,G,s,o,t⟩ q;exact⟨y,λi k=>G i k∧k<w.heap.size,λi v l a z A B=>(Cfg e v l a).mono (s i v l a z A B) λk f h=>⟨⟨f,h⟩,(q k (o i k f) h).2⟩,λi k f=>(q k (o i k f.1) f.2).1,λi j k u x=>t i j k u.1 x.1⟩
theorem AC (e:dA α):oI M L (Lq e [] [] []::M) L:=oI.add λw=>⟨⟨rfl,rfl⟩,λ_ _=>False,λi v f b a=>by simp at a,λ_ _ h=>h,λ_ _ _ h=>h.elim⟩
theorem SX (i j:Nat) {v:Value} {f:List Value} {a:List (List α)} (b:Nat.beq i j=false) (m:M[i]? = some (Ar dA.raw v f)) (o:M[j]? = some (lU e f a)):oI M L ((M.set i (Cfg e v f a)).eraseIdx j) L:=λc w t=>
 t.merge i j (λe=>by subst e;simp at b) m o λh k l=>⟨_,_,h,k,λ_=> .inl,λ_=> .inr,l⟩
theorem Jr (i j:Nat) {u:Value} {us:List Value} {p:List (List α)} {vs:List Value} {l:List (List Value)} {b:List (List (List α))} (x:Nat.beq i j=false) (O:M[i]? = some (Lq e vs l b)) (Q:M[j]? = some (Cfg e u us p)):oI M L ((M.set i (Lq e (vs++[u]) (l++[us]) (b++[p]))).eraseIdx j) L:=λc w t=>
 t.merge i j (λe=>by subst e;simp at x) O Q (by
  rintro w S F ⟨⟨y,z⟩,G,H,s,I⟩ N C;refine⟨⟨by simp[y],by simp[z]⟩,λq k=>(q<vs.length∧G q k)∨(q=vs.length∧F k),?_,?_,?_⟩
  ·intro q v R B h m o;by_cases D:q<vs.length
   ·rw[List.getElem?_append_left D]at h;rw[List.getElem?_append_left (by omega)]at m o;exact bA.same (H q v R B h m o) (λk a=> .inl ⟨D,a⟩) (λ_ _ _=>rfl)
   ·rw[List.getElem?_append_right (by omega)]at h m o;have A:q - vs.length=0:=by have:=bE h;simp at this;omega
    rw[A]at h;rw[show q - l.length=0 by omega]at m;rw[show q - b.length=0 by omega]at o;simp at h m o;subst h;subst m;subst o;exact bA.same N (λk a=> .inr ⟨by omega,a⟩) (λ_ _ _=>rfl)
  ·rintro q k (⟨_,a⟩|⟨_,a⟩)
   ·exact .inl (s q k a)
   ·exact .inr a
  ·rintro q E k (⟨J,a⟩|⟨J,a⟩) (⟨K,f⟩|⟨K,f⟩)
   ·exact I q E k a f
   ·exact absurd f (C k (s q k a))
   ·exact absurd a (C k (s E k f))
   ·omega)
theorem Js (i j:Nat) {us vs:List Value} {s m:List (List Value)} {h f:List (List (List α))} (B:Nat.beq i j=false) (T:M[i]? = some (Lq e vs m f)) (U:M[j]? = some (Lq e us s h)):oI M L ((M.set i (Lq e (vs++us) (m++s) (f++h))).eraseIdx j) L:=λc w t=>
 t.merge i j (λe=>by subst e;simp at B) T U (by
  rintro w V W ⟨⟨C,D⟩,G,O,z,Q⟩ ⟨⟨E,F⟩,N,y,l,A⟩ H;refine⟨⟨by simp[C,E],by simp[D,F]⟩,λq k=>(q<vs.length∧G q k)∨(vs.length<=q∧N (q - vs.length) k),?_,?_,?_⟩
  ·intro q v K u x o p;by_cases I:q<vs.length
   ·rw[List.getElem?_append_left I]at x;rw[List.getElem?_append_left (by omega)]at o p;exact bA.same (O q v K u x o p) (λk a=> .inl ⟨I,a⟩) (λ_ _ _=>rfl)
   ·rw[List.getElem?_append_right (by omega)]at x o p;rw[show q - m.length=q - vs.length by omega]at o;rw[show q - f.length=q - vs.length by omega]at p;exact bA.same (y _ v K u x o p) (λk a=> .inr ⟨by omega,a⟩) (λ_ _ _=>rfl)
  ·rintro q k (⟨_,a⟩|⟨_,a⟩)
   ·exact .inl (z q k a)
   ·exact .inr (l _ k a)
  ·rintro q J k (⟨R,a⟩|⟨R,a⟩) (⟨S,b⟩|⟨S,b⟩)
   ·exact Q q J k a b
   ·exact absurd (l _ k b) (H k (z q k a))
   ·exact absurd (l _ k a) (H k (z J k b))
   ·have:=A _ _ k a b;omega)
theorem AA (q:Nat) {vs:List Value} {b:List (List Value)} {a:List (List (List α))} (f:M[q]? = some (Lq e vs b a)):∀c w,St c M L w->vs.length=a.length:=λc w t=>by
 obtain⟨_,h⟩:=t.res f;exact h.1.1
theorem Wj {j:Nat} {vs:List Value} {f:List (List Value)} {a:List (List (List α))} {k:Int} (x:M[j]? = some (Lq e vs f a)) (b:e.Fits r) (h:0<=k) (s:k<a.length):aF M L (S2 r (at' vs k) ((at' f k).zip (at' a k)) (at' a k)):=λw S T U D u E v=>by
 obtain⟨⟨y,z⟩,G,o,p,_⟩:=u j _ x;obtain⟨A,B,t,i,l,m,_⟩:=o k.toNat _ _ _ (jH h (by omega)) (jH h (by omega)) (jH h s);refine⟨(Ua b t i).mono λq C _=>⟨v j q (p _ q (C.elim (l q) (m q))),rfl⟩,?_⟩
 rw[List.map_snd_zip];obtain⟨F,_⟩:=i;omega
theorem Jv [cL P] (i j:Nat) {T E:TypeId} {o p:Nat} {z:Value} {x:Operand} {v:Value} {vs:List Value} {f:List (List Value)} {b:List (List (List α))} (m:ev σ x=some v) (k:M[i]? = some (Ar dA.raw v vs)) (l:M[j]? = some (Lq e vs f b))
  (h:cL.tab P T=some ⟨.slice E,o,p,z⟩):Y P c n σ M L ⟨d,.call ⟨.builtin .len,#[x],#[T]⟩,ty,pos,aft,g⟩ (.int .i64 b.length):=λa w s t=>by
 rw[<-AA j l c w t];exact acQ i m k h a w s t
theorem Jn (i:Nat) {v:Value} {l:List α} (j:M[i]? = some (Ar e v l)):∀c w,St c M L w->Sx.one v=true:=λc w t=>by
 obtain⟨_,_,_,h⟩:=t.res j;rcases h with⟨q,_⟩|⟨b,k,a,T,f,q,_⟩<;>rw[q]<;>rfl
end
end Go.Sx
namespace Go.Proofs.YtlkhndebimcbbaaGreatDoor
open Go.Sx
def IM:aQ:=[0,1,1,2,1,2,2,3,1,2,2,3,2,3,3,4,1,2,2,3,2,3,3,4,2,3,3,4,3,4,4,5,1,2,2,3,2,3,3,4,2,3,3,4,3,4,4,5,2,3,3,4,3,4,4,5,3,4,4,5,4,5,5,6,1,2,2,3,2,3,3,4,2,3,3,4,3,4,4,5,2,3,3,4,3,4,4,5,3,4,4,5,4,5,5,6,2,3,3,4,3,4,4,5,3,4,4,5,4,5,5,6,3,4,4,5,4,5,5,6,4,5,5,6,5,6,6,7,1,2,2,3,2,3,3,4,2,3,3,4,3,4,4,5,2,3,3,4,3,4,4,5,3,4,4,5,4,5,5,6,2,3,3,4,3,4,4,5,3,4,4,5,4,5,5,6,3,4,4,5,4,5,5,6,4,5,5,6,5,6,6,7,2,3,3,4,3,4,4,5,3,4,4,5,4,5,5,6,3,4,4,5,4,5,5,6,4,5,5,6,5,6,6,7,3,4,4,5,4,5,5,6,4,5,5,6,5,6,6,7,4,5,5,6,5,6,6,7,5,6,6,7,6,7,7,8]
theorem MX:JA (ByteArray.mk #[0,1,1,2,1,2,2,3,1,2,2,3,2,3,3,4,1,2,2,3,2,3,3,4,2,3,3,4,3,4,4,5,1,2,2,3,2,3,3,4,2,3,3,4,3,4,4,5,2,3,3,4,3,4,4,5,3,4,4,5,4,5,5,6,1,2,2,3,2,3,3,4,2,3,3,4,3,4,4,5,2,3,3,4,3,4,4,5,3,4,4,5,4,5,5,6,2,3,3,4,3,4,4,5,3,4,4,5,4,5,5,6,3,4,4,5,4,5,5,6,4,5,5,6,5,6,6,7,1,2,2,3,2,3,3,4,2,3,3,4,3,4,4,5,2,3,3,4,3,4,4,5,3,4,4,5,4,5,5,6,2,3,3,4,3,4,4,5,3,4,4,5,4,5,5,6,3,4,4,5,4,5,5,6,4,5,5,6,5,6,6,7,2,3,3,4,3,4,4,5,3,4,4,5,4,5,5,6,3,4,4,5,4,5,5,6,4,5,5,6,5,6,6,7,3,4,4,5,4,5,5,6,4,5,5,6,5,6,6,7,4,5,5,6,5,6,6,7,5,6,6,7,6,7,7,8])=IM:=by kernel_rfl
def xM:aQ:=[0,1,28,2,29,14,24,3,30,22,20,15,25,17,4,8,31,27,13,23,21,19,16,7,26,12,18,6,11,5,10,9]
theorem _root_.Go.Sx.Y.bld5 {P:Program} {c:uJ} {n:Sz} {a:Fr} {M L:List bA} {d:Option Tmp} {E:TypeId} {k:String} {j:Array Edge} {g:Option (Nat×Bool)} {T:TypeId} {b e f h i:Nat} {s t u v x:Operand} {l m o p q:Value} {r:Value} (y:ev a s=some l) (z:ev a t=some m) (A:ev a u=some o) (B:ev a v=some p) (C:ev a x=some q) (D:∀w,(Instr.build T ([(b,l),(e,m),(f,o),(h,p),(i,q)]:List (Nat×Value)).toArray).run P w = .ok r w):Y P c n a M L ⟨d,.build T #[(b,s),(e,t),(f,u),(h,v),(i,x)],E,k,j,g⟩ r:=
 Ay (ps:=[(b,s),(e,t),(f,u),(h,v),(i,x)]) (vs:=[(b,l),(e,m),(f,o),(h,p),(i,q)]) (by simp[y,z,A,B,C]) D
abbrev ESt:dA ByteArray:=⟨1,Nat.one_pos,λx=>[.string x],λ_=>rfl⟩
abbrev RSt:eJ ByteArray:=⟨1,Nat.one_pos,λ_ _ a x=>a=[.string x],λh=>by simp[h],λh _=>h⟩
theorem FSt:ESt.Fits RSt:=⟨rfl,λh=>h,rfl,λ_=>rfl⟩
abbrev bZ:dA Int:=dA.int .i64
abbrev bO:eJ Int:=eJ.int .i64
theorem dJ:bZ.Fits bO:=FW .i64
theorem cQ:bO.Cell 0 (λx=> .int .i64 x):=F_ .i64
abbrev iK:dA Qk:=dA.pair ESt (dA.pair bZ (dA.pair bZ (dA.pair bZ (dA.pair bZ (bZ)))))
abbrev aU:eJ Qk:=eJ.pair RSt (eJ.pair bO (eJ.pair bO (eJ.pair bO (eJ.pair bO (bO)))))
theorem iL:iK.Fits aU:=iV FSt (iV dJ (iV dJ (iV dJ (iV dJ (dJ)))))
theorem xS:aU.Cell 1 (λx=> .int .i64 x.2.1):=cJ (mK (cQ))
theorem Dm:aU.Cell 2 (λx=> .int .i64 x.2.2.1):=cJ (cJ (mK (cQ)))
theorem Dn:aU.Cell 3 (λx=> .int .i64 x.2.2.2.1):=cJ (cJ (cJ (mK (cQ))))
theorem Do:aU.Cell 4 (λx=> .int .i64 x.2.2.2.2.1):=cJ (cJ (cJ (cJ (mK (cQ)))))
theorem Dp:aU.Cell 5 (λx=> .int .i64 x.2.2.2.2.2):=cJ (cJ (cJ (cJ (cJ (cQ)))))
abbrev cF:dA iZ:=dA.pair bZ (bZ)
abbrev bB:eJ iZ:=eJ.pair bO (bO)
theorem bU:cF.Fits bB:=iV dJ (dJ)
theorem mJ:bB.Cell 0 (λx=> .int .i64 x.1):=mK (cQ)
theorem Ft:bB.Cell 1 (λx=> .int .i64 x.2):=cJ (cQ)
abbrev rF:eJ (Int×(Value×fM)):=eJ.pair bO ((eJ.sl bB))
theorem KV:rF.All 2 (λx=>[Value.int .i64 (x.1),x.2.1]):=(MH (QV dJ) (QW bB))
theorem Db:rF.Deep bB (λx=>x.2):=Ew (DC bB)
abbrev aL:eJ (ByteArray×(Value×fM)×(Value×List (Int×(Value×fM)))):=eJ.pair RSt (eJ.pair (eJ.sl bB) ((eJ.sl rF)))
theorem Af:aL.Cell 1 (λx=>x.2.1.1):=cJ (mK (eJ.sl_cell bB))
theorem Ah:aL.Deep bB (λx=>x.2.1):=Ew (UF (DC bB))
theorem Ag:aL.Cell 2 (λx=>x.2.2.1):=cJ (cJ (eJ.sl_cell rF))
theorem gJ:aL.Deep rF (λx=>x.2.2):=Ew (Ew (DC rF))
abbrev EFn:dA Nat:=dA.fn
abbrev RFn:eJ Nat:=eJ.fn
theorem FFn:EFn.Fits RFn:=NY
abbrev IF:dA (Int×Nat):=dA.pair bZ (EFn)
abbrev ZL:eJ (Int×Nat):=eJ.pair bO (RFn)
theorem Bc:IF.Fits ZL:=iV dJ (FFn)
abbrev EBo:dA Bool:=dA.bool
abbrev pF:dA Int:=dA.int .u32
abbrev Ai:eJ Int:=eJ.int .u32
theorem vG:pF.Fits Ai:=FW .u32
theorem Hm:Ai.Cell 0 (λx=> .int .u32 x):=F_ .u32
abbrev HU:dA Int:=dA.int .u8
abbrev cN:dA (Int×Int×Int×Int×Int):=dA.pair bZ (dA.pair bZ (dA.pair bZ (dA.pair bZ (pF))))
abbrev Be:eJ (Int×Int×Int×Int×Int):=eJ.pair bO (eJ.pair bO (eJ.pair bO (eJ.pair bO (Ai))))
theorem gG:cN.Fits Be:=iV dJ (iV dJ (iV dJ (iV dJ (vG))))
theorem EO:Be.Cell 2 (λx=> .int .i64 x.2.2.1):=cJ (cJ (mK (cQ)))
def Qp (x:Int):Value:=Value.int .i64 (x)
def nD (x:fP):Value:=Value.agg #[Value.int .i64 (x.1),Value.int .i64 (x.2)]
theorem Ya (x y:fP) (m:Nat) (w:World):(Op.equalIn (m+2) 138 (.agg #[.int .i64 x.1,.int .i64 x.2]) (.agg #[.int .i64 y.1,.int .i64 y.2])).run Tryz.prog w = .ok (decide (x=y)) w:=by
 have c:∀a b:Int,(Op.equalIn (m+1) 3 (.int .i64 a) (.int .i64 b)).run Tryz.prog w = .ok (a==b) w:=by
  intro a b;simp[Op.equalIn]
 unfold Op.equalIn;simp[show List.range' 0 2=[0,1]from rfl,part,isAgg,c];obtain⟨d,e⟩:=x;obtain⟨f,g⟩:=y;by_cases h:d=f<;>by_cases i:e=g<;>simp[h,i,c]
theorem Xc (b:Bool) (k:fP) (w:World):(Instr.checkKey b 10000 138 (nD k)).run Tryz.prog w = .ok () w:=by
 have a:∀m:Nat,(Instr.checkKey b (m+2) 138 (nD k)).run Tryz.prog w = .ok () w:=by
  intro m;simp[Instr.checkKey,nD,part,isAgg,show List.range' 0 2=[0,1]from rfl]
 exact a 9998
theorem No:Jm Tryz.prog 138 nD:=QP Tryz.underlying138 Xc (λ_ _=>rfl) (λa b w=>Ya a b 9998 w) (λk=>by
 have c:∀m:Nat,Instr.sameBits (m+2) (nD k) (nD k)=true:=λm=>by simp[Instr.sameBits,nD]
 exact c 9998)
theorem mO (b:Value) (c:one b=true) (a:Array Value) (h:a.size=1*1):Instr.fill (λi=>some (i*1,1)) a [(0,b)]=some [b].toArray:=by
 obtain⟨l⟩:=a
 match l,h with
 | [z0],_=>simp[Instr.fill,eN c]
theorem zE (b c:Value) (a:Array Value) (h:a.size=1*2):Instr.fill (λi=>some (i*2,2)) a [(0,.agg #[b,c])]=some [b,c].toArray:=by
 obtain⟨l⟩:=a
 match l,h with
 | [z0,z1],_=>simp[Instr.fill,Value.cells]
theorem O_ (b c d e f:Value) (a:Array Value) (h:a.size=1*5):Instr.fill (λi=>some (i*5,5)) a [(0,.agg #[b,c,d,e,f])]=some [b,c,d,e,f].toArray:=by
 obtain⟨l⟩:=a
 match l,h with
 | [z0,z1,z2,z3,z4],_=>simp[Instr.fill,Value.cells]
theorem JP (b c:Value) (d:one b=true) (e:one c=true) (a:Array Value) (h:a.size=2*1):Instr.fill (λi=>some (i*1,1)) a [(0,b),(1,c)]=some [b,c].toArray:=by
 obtain⟨l⟩:=a
 match l,h with
 | [z0,z1],_=>simp[Instr.fill,eN d,eN e]
theorem JQ (d e f g j k m n o p b c:Value) (a:Array Value) (h:a.size=2*6):Instr.fill (λi=>some (i*6,6)) a [(0,.agg #[d,e,f,g,j,k]),(1,.agg #[m,n,o,p,b,c])]=some [d,e,f,g,j,k,m,n,o,p,b,c].toArray:=by
 obtain⟨l⟩:=a
 match l,h with
 | [z0,z1,z2,z3,z4,z5,z6,z7,z8,z9,z10,z11],_=>simp[Instr.fill,Value.cells]
theorem XC (b c d e f g:Value) (a:Array Value) (h:a.size=3*2):Instr.fill (λi=>some (i*2,2)) a [(0,.agg #[b,c]),(1,.agg #[d,e]),(2,.agg #[f,g])]=some [b,c,d,e,f,g].toArray:=by
 obtain⟨l⟩:=a
 match l,h with
 | [z0,z1,z2,z3,z4,z5],_=>simp[Instr.fill,Value.cells]
theorem XD (b c d e:Value) (f:one b=true) (g:one c=true) (j:one d=true) (k:one e=true) (a:Array Value) (h:a.size=4*1):Instr.fill (λi=>some (i*1,1)) a [(0,b),(1,c),(2,d),(3,e)]=some [b,c,d,e].toArray:=by
 obtain⟨l⟩:=a
 match l,h with
 | [z0,z1,z2,z3],_=>simp[Instr.fill,eN f,eN g,eN j,eN k]
theorem XE (b c d e f g:Value) (j:one b=true) (k:one c=true) (m:one d=true) (n:one e=true) (o:one f=true) (p:one g=true) (a:Array Value) (h:a.size=6*1):Instr.fill (λi=>some (i*1,1)) a [(0,b),(1,c),(2,d),(3,e),(4,f),(5,g)]=some [b,c,d,e,f,g].toArray:=by
 obtain⟨l⟩:=a
 match l,h with
 | [z0,z1,z2,z3,z4,z5],_=>simp[Instr.fill,eN j,eN k,eN m,eN n,eN o,eN p]
def uR  (a:aQ):Option aQ:=
 some (a)
def qW (c:Int×aQ×aQ) (b:(Int×aQ×aQ)->Option aQ) (a:aQ×aQ):Option aQ:=
 b ((wI .i64 (c.1+(1:Int))),a.1,a.2)
def qX (c:cE) (b:aQ×aQ) (e:(aQ×aQ)->Option aQ) (a:Int×aQ×aQ) (d:(Int×aQ×aQ)->Option aQ):Option aQ:=
 if a.1<(List.length (at' c.2 (at' b.1 (0:Int))):Int)then(ck (0<=a.1∧a.1<(List.length (at' c.2 (at' b.1 (0:Int))):Int)) (ck (0<=((at' (at' c.2 (at' b.1 (0:Int))) a.1).1)∧((at' (at' c.2 (at' b.1 (0:Int))) a.1).1)<(List.length a.2.2:Int)) (if(at' a.2.2 ((at' (at' c.2 (at' b.1 (0:Int))) a.1).1))<(0:Int)then(ck (0<=(at' b.1 (0:Int))∧(at' b.1 (0:Int))<(List.length a.2.2:Int)) (ck (0<=((at' (at' c.2 (at' b.1 (0:Int))) a.1).1)∧((at' (at' c.2 (at' b.1 (0:Int))) a.1).1)<(List.length a.2.2:Int)) (ck ((List.length a.2.1:Int)+(List.length ([((at' (at' c.2 (at' b.1 (0:Int))) a.1).1)]):Int)<=1099511627) (qW a d ((a.2.1++([((at' (at' c.2 (at' b.1 (0:Int))) a.1).1)])),(List.set a.2.2 (Int.toNat ((at' (at' c.2 (at' b.1 (0:Int))) a.1).1)) (wI .i64 ((at' a.2.2 (at' b.1 (0:Int)))+(1:Int)))))))))else(qW a d (a.2.1,a.2.2)))))else(e (a.2.1,a.2.2))
def nS (U:Nat) (c:cE) (a:aQ×aQ) (b:(aQ×aQ)->Option aQ):Option aQ:=
 if(0:Int)<(List.length a.1:Int)then(ck (0<=(0:Int)∧(0:Int)<(List.length a.1:Int)) (ck (0<=(1:Int)∧(1:Int)<=(List.length a.1:Int)) (ck (0<=(at' a.1 (0:Int))∧(at' a.1 (0:Int))<(List.length c.2:Int)) (bJ (qX c a b) U ((0:Int),(List.drop (Int.toNat (1:Int)) a.1),a.2)))))else(uR  (a.2))
def zP (U:Nat) (c:cE) (a:Int) (b:aQ):Option aQ:=
 ck (0<=a∧a<(List.length b:Int)) (bJ (nS U c) U (([a]),(List.set b (Int.toNat a) (0:Int))))
def zQ (U:Nat) (c:cE) (d:Int) (a:lB) (b:rA->Option aQ):Option aQ:=
 if a.1<(List.length (List.replicate (Int.toNat (List.length c.2:Int)) (0:Int)):Int)then(ck (0<=a.1∧a.1<(List.length a.2:Int)) (b ((wI .i64 (a.1+(1:Int))),(List.set a.2 (Int.toNat a.1) (-1:Int)))))else(zP U c d (a.2))
def jW (U:Nat) (a:cE) (b:Int):Option aQ:=
 ck (0<=(List.length a.2:Int)∧(List.length a.2:Int)<=1099511627) (bJ (zQ U a b) U ((0:Int),(List.replicate (Int.toNat (List.length a.2:Int)) (0:Int))))
theorem WU:aX Tryz.prog 61:=Tryz.call61
theorem El (U:Nat) {d:cE} {o:Int} (s:Value)  (t:Value)  (M:k_) (r:aQ) (h:jW U d o=some r):
  aY Tryz.prog 61 #[Value.agg #[s,t],vI (o)] [Sl bO s d.1,S2 bB t M d.2] (λx:Value=>x) (λx l=>Ar bZ x r::l) (λ_ l=>l):=by
 refine aY.of Tryz.func61 Z Tryz.ntmps61 Z λc=>?_;refine aV<|aH (aN.box (cs:=[s,t]) Z Z) Z λp=>aE Z<|aM<|aV<|bT Z<|dD 0 Z<|aB (iF Z (aF.fact 1 Z) Z) Z<|cX h λQ h=>aH (mH (e:=bZ) (0:Int) Z Z Z Z Q Z Z Z) Z λk=>aE Z<|aM<|aK<|dO (λu=>zP U d o u=some r) (λu N=>[(1,vI (o)),(2,vP p),(5,k)]) (λu N=>[Ar bZ k u,bV p [s,t] 28]) ?_ ?_
 ·refine aV<|aA Z<|aB (fX Z (bD (aF.res 0 Z) dJ) Z) Z<|aA Z<|aM<|aS<|dU (zQ U d o) (λg w=>[(1,vI (o)),(2,vP p),(5,k),(16,vI (List.length (List.replicate (Int.toNat (List.length d.2:Int)) (0:Int)):Int)),(17,vI (g.1))]) (λg w=>[Ar bZ k g.2,bV p [s,t] 28]) ((0:Int),(List.replicate (Int.toNat (List.length d.2:Int)) (0:Int))) () h SF (a_.refl _) ?_;intro R g w h;refine aV<|cM Z<|aM<|aK ?_;refine eV h Z (λh=>?_) λh=>?_
  ·refine cK<|aK<|aS<|aV<|aA Z<|aE Z<|aM<|aR<|aA Z<|aA Z<|cX h λF h=>aB (aZ Z Z (bD (aF.res 0 Z) dJ) Z Z F) Z<|tW 0 (-1:Int) F Z Z Z Z Z Z Z<|eI<|mA<|aR<|cH Z<|aA Z<|aM ?_;exact xT ((wI .i64 (g.1+(1:Int))),(List.set g.2 (Int.toNat g.1) (-1:Int))) () h SF Z
  refine e_ ?_;exact iB (g.2) () h SF Z
 intro u N h;refine aV<|aA Z<|aA Z<|cX h λO h=>aB (aZ Z Z (bD (aF.res 0 Z) dJ) Z Z O) Z<|tW 0 (0:Int) O Z Z Z Z Z Z Z<|aM<|aV<|aA Z<|aH (bY (e:=bZ) ([o]) [(0,vI (o))] Z Z Z Z (mO (vI (o)) Z) Z Z Z) Z λT=>aE Z<|aM<|aK<|dO (λm=>uR  m=some r) (λm v=>[(5,k)]) (λm v=>[Ar bZ k m]) ?_ ?_
 ·refine aS<|dU (B:=Value) (nS U d) (λa q=>[(2,vP p),(5,k),(7,q)]) (λa q=>[Ar bZ q a.1,Ar bZ k a.2,bV p [s,t] 28]) (([o]),(List.set u (Int.toNat o) (0:Int))) (T) h SF (a_.refl _) ?_;intro G a q h;refine aK<|aV<|aA Z<|aB (fX Z (bD (aF.res 0 Z) dJ) Z) Z<|aB (zC Z Z) Z<|aM ?_;refine eV h Z (λh=>?_) λh=>?_
  ·refine cK<|aS<|aV<|aA Z<|cX h λy h=>aB (aZ Z Z (bD (aF.res 0 Z) dJ) Z Z y) Z<|aB (bQ Z (bD (aF.res 0 Z) dJ) Z Z Z cQ y) Z<|aE Z<|aM<|aV<|aA Z<|cX h λH h=>aH (Oc 0 H Z Z Z Z Z Z) Z λK=>aE Z<|aM<|aV<|bT Z<|dD 2 Z<|aA Z<|cX h λi h=>aB (bX Z Z (aF.fact 1 Z) Z Z i) Z<|aB (bW Z (aF.fact 1 Z) Z Z i) Z<|aB (fX Z (aF.el (aF.fact 1 Z) i.1 i.2) Z) Z<|aA Z<|aM<|aS<|dU (B:=Value) (qX d a (bJ (nS U d) G)) (λb j=>[(2,vP p),(5,k),(7,j),(8,vI (at' a.1 (0:Int))),(41,(at' M (at' a.1 (0:Int))).1),(42,vI (List.length (at' d.2 (at' a.1 (0:Int))):Int)),(43,vI (b.1))]) (λb j=>[Ar bZ j b.2.1,Ar bZ k b.2.2,bV p [s,t] 28]) ((0:Int),(List.drop (Int.toNat (1:Int)) a.1),a.2) (K) h SF (a_.refl _) ?_;intro J b j h;refine aV<|cM Z<|aM<|aK ?_;refine eV h Z (λh=>?_) λh=>?_
   ·refine cK<|aK<|DZ (B:=Value) (λf=>qW b (bJ (qX d a (bJ (nS U d) G)) J) f=some r) (λf n=>[(2,vP p),(5,k),(7,n),(8,vI (at' a.1 (0:Int))),(41,(at' M (at' a.1 (0:Int))).1),(42,vI (List.length (at' d.2 (at' a.1 (0:Int))):Int)),(43,vI (b.1))]) (λf n=>[Ar bZ n f.1,Ar bZ k f.2,bV p [s,t] 28]) ?_ ?_
    ·refine aS<|aV<|cX h λA h=>aB (aZ Z Z (aF.el (aF.fact 1 Z) i.1 i.2) Z Z A) Z<|aB (jA (cs:=[vI ((at' (at' d.2 (at' a.1 (0:Int))) b.1).1),vI ((at' (at' d.2 (at' a.1 (0:Int))) b.1).2)]) Z (aF.el (aF.fact 1 Z) i.1 i.2) bU Z Z Z Z A) Z<|aH (aN.alloc (cs:=VH) Z Z) Z λP=>bS 0 (vs:=[vI ((at' (at' d.2 (at' a.1 (0:Int))) b.1).1),vI ((at' (at' d.2 (at' a.1 (0:Int))) b.1).2)]) Z Z Z Z Z Z<|aM<|aV<|aA Z<|bT Z<|dD 0 Z<|cX h λC h=>aB (aZ Z Z (bD (aF.res 2 Z) dJ) Z Z C) Z<|aB (bQ Z (bD (aF.res 2 Z) dJ) Z Z Z cQ C) Z<|cM Z<|aM ?_;refine eV h Z (λh=>?_) λh=>?_
     ·refine aK ?_;refine JR.start [0,0,2,0,0,24,56,120,255,511] 8 mixedOrders (by decide +kernel) ?_;refine JR.open (by exact rfl) ?_;refine bG Z<|dB Z<|jR 0 Z<|bG Z<|bG Z<|cX h λD h=>bK Z (a_.cons 2 Z .nil) .nil (aZ Z Z (bD (aF.res 0 Z) dJ) Z Z D) aO.z<|bK Z (a_.cons 2 Z .nil) .nil (bQ Z (bD (aF.res 0 Z) dJ) Z Z Z cQ D) aO.z<|jS Z (xZ Z Z)<|bP 8 Z Z<|cX h λE h=>aB (aZ Z Z (bD (aF.res 2 Z) dJ) Z Z E) Z<|tW 2 (wI .i64 ((at' b.2.2 (at' a.1 (0:Int)))+(1:Int))) E Z Z Z Z Z Z Z<|aM<|aR<|aA Z<|bT Z<|dD 0 Z<|aH (bY (e:=bZ) ([((at' (at' d.2 (at' a.1 (0:Int))) b.1).1)]) [(0,vI ((at' (at' d.2 (at' a.1 (0:Int))) b.1).1))] Z Z Z Z (mO (vI ((at' (at' d.2 (at' a.1 (0:Int))) b.1).1)) Z) Z Z Z) Z λS=>cX h λI h=>aH (eQ 2 dJ Z Z Z (bD (aF.res 0 Z) dJ) Z Z Z Z I Z) Z λL=>aE Z<|eI<|mA ?_;exact cC ((b.2.1++([((at' (at' d.2 (at' a.1 (0:Int))) b.1).1)])),(List.set b.2.2 (Int.toNat ((at' (at' d.2 (at' a.1 (0:Int))) b.1).1)) (wI .i64 ((at' b.2.2 (at' a.1 (0:Int)))+(1:Int))))) (L) h SF (a_.ix [2,3,4] Z Z) (aG.refl _ _)
     refine dK<|mA ?_;exact cC (b.2.1,b.2.2) (j) h SF (a_.ix [1,2,3] Z Z) (aG.refl _ _)
    intro f n h;unfold qW at h;refine aR<|cH Z<|aA Z<|aM ?_;exact xT ((wI .i64 (b.1+(1:Int))),f.1,f.2) (n) h SF Z
   refine pH<|dV<|dV<|vM<|mA ?_;exact xT (b.2.1,b.2.2) (j) h SF Z
  refine e_ ?_;exact cC (a.2) () h SF (a_.ix [1] Z Z) (aG.refl _ _)
 intro m v h;unfold uR at h;refine aV<|aA Z<|aE Z<|aM<|aW ?_;cases h;exact gH (k) Z Z (RV.tmp Z) (a_.refl _) aG.nil
def nM  (a:Unit):Option (Bool):=
 some (true)
def iU (d:aQ) (a:Int×List (Bool)) (c:(Int×List (Bool))->Option (Bool)) (b:Bool):Option (Bool):=
 if b=true then(some (false))else(ck ((0<=(at' d a.1)∧(at' d a.1)<((256:Nat):Int))∧List.length a.2=256) (c ((wI .i64 (a.1+(1:Int))),(List.set a.2 (Int.toNat (at' d a.1)) true))))
def gE (b:aQ) (a:Int×List (Bool)) (c:(Int×List (Bool))->Option (Bool)):Option (Bool):=
 if a.1<(List.length b:Int)then(ck (0<=a.1∧a.1<(List.length b:Int)) (if(at' b a.1)<(0:Int)then(iU b a c (true))else(if(255:Int)<(at' b a.1)then(iU b a c (true))else(ck ((0<=(at' b a.1)∧(at' b a.1)<((256:Nat):Int))∧List.length a.2=256) (iU b a c ((at' a.2 (at' b a.1))))))))else(nM  (()))
def jN (U:Nat) (a:aQ):Option (Bool):=
 bJ (gE a) U ((0:Int),(List.replicate 256 false))
theorem aal:aX Tryz.prog 118:=Tryz.call118
theorem Ek (U:Nat) {d:aQ} (n:Value) (r:Bool) (h:jN U d=some r):
  aY Tryz.prog 118 #[n] [Sl bO n d] (λx:Unit=>vB (r)) (λx l=>l) (λ_ l=>l):=by
 refine aY.of Tryz.func118 Z Tryz.ntmps118 Z λc=>?_;unfold jN at h;refine aV<|aE Z<|aM<|aV ?_;refine aH (aN.alloc (cs:=cellsOf EBo (List.replicate 256 false)) Z (by kernel_rfl)) Z λm=>?_;refine aM<|aK<|dO (λk=>nM  k=some r) (λk o=>[]) (λk o=>[]) ?_ ?_
 ·refine aV<|aA Z<|kF (aF.fact 0 Z) Z<|aA Z<|aM<|aS<|dU (gE d) (λa p=>[(3,vP m),(6,n),(7,vI (List.length d:Int)),(8,vI (a.1))]) (λa p=>[bV m (cellsOf EBo a.2) 203]) ((0:Int),(List.replicate 256 false)) () h SF (a_.refl _) ?_;intro q a p h;refine aV<|cM Z<|aM<|aK ?_;refine eV h Z (λh=>?_) λh=>?_
  ·refine cK<|aK<|aS<|aV<|cX h λg h=>aB (aZ Z Z (aF.fact 0 Z) Z Z g) Z<|aB (bQ Z (aF.fact 0 Z) Z Z Z cQ g) Z<|aE Z<|aM<|aK<|aK<|dO (λb=>iU d a (bJ (gE d) q) b=some r) (λb f=>[(3,vP m),(5,vI (at' d a.1)),(6,n),(7,vI (List.length d:Int)),(8,vI (a.1)),(22,vB (b))]) (λb f=>[bV m (cellsOf EBo a.2) 203]) ?_ ?_
   ·refine aR<|aA Z<|cM Z<|aA Z ?_;refine Dv h Z (λ_ h=>?_) λ_ h=>?_
    ·refine aI Z<|aI Z<|dW Z<|aA Z<|aI Z<|aI Z<|aI Z<|dW Z<|aM ?_;exact iB (true) () h SF Z
    refine cS Z<|aP Z (zC Z Z) Z<|fO Z<|aA Z ?_;refine Dv h Z (λ_ h=>?_) λ_ h=>?_
    ·refine aI Z<|aI Z<|aI Z<|dW Z<|aM ?_;exact iB (true) () h SF Z
    refine cS Z<|cX h λj h=>aP Z (oJ Z Z Z Z Z j.1) Z<|aP Z (UJ (e:=EBo) Z (aF.res 0 Z) Z Z Z Z j) Z<|fO Z<|aM ?_;exact iB ((at' a.2 (at' d a.1))) () h SF Z
   intro b f h;refine AZ h Z (λ_ h=>?_) λ_ h=>?_
   ·refine aV<|aE Z<|aM<|aW<|aJ<|bM<|aJ<|aJ<|bM<|aJ ?_;cases h;exact tU Z
   refine cK<|aR<|aA Z<|cX h λi h=>aB (oJ Z Z Z Z Z i.1) Z<|Jl 0 (e:=EBo) true i Z Z Z Z Z Z Z<|eI<|mA<|aR<|cH Z<|aA Z<|aM ?_;exact xT ((wI .i64 (a.1+(1:Int))),(List.set a.2 (Int.toNat (at' d a.1)) true)) () h SF Z
  refine e_ ?_;exact cC () (()) h SF .nil (aG.refl _ _)
 intro k o h;unfold nM at h;refine aV<|aE Z<|aM<|aW ?_;cases h;exact lA Z
def vH (c:(List ((Int×Int)×Int))) (a:(Int×Int)×Int) (b:Option (Bool)):Option (Bool):=
 if(Option.getD (mE (a.1.2,a.1.1) c) (0:Int))≠a.2 then(some (false))else(b)
def jB  (a:(List ((Int×Int)×Int))):Option (Bool):=
 KZ (vH a) (some (true)) a
def mQ (b:Im) (a:Mk->Option (Bool)) (c:(List ((Int×Int)×Int))):Option (Bool):=
 a ((wI .i64 (b.1+(1:Int))),c)
def jC (e:fW) (b:Im) (a:Im) (c:Mk->Option (Bool)) (d:Bool):Option (Bool):=
 if d=true then(some (false))else(if(Option.isSome (mE (b.1,((at' (at' e b.1) a.1).1)) a.2))=true then(some (false))else(c ((wI .i64 (a.1+(1:Int))),(CF (b.1,((at' (at' e b.1) a.1).1)) ((at' (at' e b.1) a.1).2) a.2))))
def gW (d:fW) (a:Im) (b:Im) (c:Mk->Option (Bool)) (e:Bool):Option (Bool):=
 if e=true then(some (false))else(if((at' (at' d a.1) b.1).2)<(1:Int)then(jC d a b c (true))else(jC d a b c (decide ((15:Int)<((at' (at' d a.1) b.1).2)))))
def cI (d:fW) (a:Im) (e:Mk->Option (Bool)) (b:Im) (c:Mk->Option (Bool)):Option (Bool):=
 if b.1<(List.length (at' d a.1):Int)then(ck (0<=b.1∧b.1<(List.length (at' d a.1):Int)) (if((at' (at' d a.1) b.1).1)<(0:Int)then(gW d a b c (true))else(if(List.length d:Int)<=((at' (at' d a.1) b.1).1)then(gW d a b c (true))else(gW d a b c (decide (((at' (at' d a.1) b.1).1)=a.1))))))else(mQ a e (b.2))
def cW (U:Nat) (c:fW) (a:Im) (b:Mk->Option (Bool)):Option (Bool):=
 if a.1<(List.length c:Int)then(ck (0<=a.1∧a.1<(List.length c:Int)) (bJ (cI c a b) U ((0:Int),a.2)))else(jB  (a.2))
def gN (U:Nat) (a:fW):Option (Bool):=
 bJ (cW U a) U ((0:Int),([]:List ((Int×Int)×Int)))
theorem aam:aX Tryz.prog 119:=Tryz.call119
theorem GY (U:Nat) {f:fW} (n:Value)  (F:k_) (r:Bool) (h:gN U f=some r):
  aY Tryz.prog 119 #[n] [S2 bB n F f] (λx:Unit=>vB (r)) (λx l=>l) (λ_ l=>l):=by
 refine aY.of Tryz.func119 Z Tryz.ntmps119 Z λc=>?_;unfold gN at h;refine aV<|aE Z<|aM<|aV<|aH (aN.makeMap nD Qp) Z λk=>aE Z<|aM<|aK<|dO (λq=>jB  q=some r) (λq H=>[(3,Value.map (some k))]) (λq H=>[Mp nD Qp k q]) ?_ ?_
 ·refine aV<|aA Z<|aB (iF Z (aF.fact 0 Z) Z) Z<|aA Z<|aM<|aS<|dU (cW U f) (λd y=>[(0,n),(3,Value.map (some k)),(14,n),(15,vI (List.length f:Int)),(16,vI (d.1))]) (λd y=>[Mp nD Qp k d.2]) ((0:Int),([]:List ((Int×Int)×Int))) () h SF (a_.refl _) ?_;intro t d y h;refine aV<|cM Z<|aM<|aK ?_;refine eV h Z (λh=>?_) λh=>?_
  ·refine cK<|aK<|dO (λm=>mQ d (bJ (cW U f) t) m=some r) (λm z=>[(0,n),(3,Value.map (some k)),(14,n),(15,vI (List.length f:Int)),(16,vI (d.1))]) (λm z=>[Mp nD Qp k m]) ?_ ?_
   ·refine aS<|aV<|aA Z<|cX h λj h=>aB (bX Z Z (aF.fact 0 Z) Z Z j) Z<|aB (bW Z (aF.fact 0 Z) Z Z j) Z<|aE Z<|aE Z<|aM<|aV<|aA Z<|aB (fX Z (aF.el (aF.fact 0 Z) j.1 j.2) Z) Z<|aA Z<|aM<|aS<|dU (cI f d (bJ (cW U f) t)) (λe A=>[(0,n),(3,Value.map (some k)),(4,vI (d.1)),(14,n),(15,vI (List.length f:Int)),(16,vI (d.1)),(21,(at' F d.1).1),(22,vI (List.length (at' f d.1):Int)),(23,vI (e.1))]) (λe A=>[Mp nD Qp k e.2]) ((0:Int),d.2) () h SF (a_.refl _) ?_;intro E e A h;refine aV<|cM Z<|aM<|aK ?_;refine eV h Z (λh=>?_) λh=>?_
    ·refine cK<|aK<|aS<|aV<|cX h λD h=>aB (aZ Z Z (aF.el (aF.fact 0 Z) j.1 j.2) Z Z D) Z<|aB (jA (cs:=[vI ((at' (at' f d.1) e.1).1),vI ((at' (at' f d.1) e.1).2)]) Z (aF.el (aF.fact 0 Z) j.1 j.2) bU Z Z Z Z D) Z<|aH (aN.alloc (cs:=VH) Z Z) Z λs=>bS 0 (vs:=[vI ((at' (at' f d.1) e.1).1),vI ((at' (at' f d.1) e.1).2)]) Z Z Z Z Z Z<|aM<|aK<|aK<|dO (λo=>gW f d e (bJ (cI f d (bJ (cW U f) t)) E) o=some r) (λo B=>[(0,n),(3,Value.map (some k)),(4,vI (d.1)),(7,vP s),(14,n),(15,vI (List.length f:Int)),(16,vI (d.1)),(21,(at' F d.1).1),(22,vI (List.length (at' f d.1):Int)),(23,vI (e.1)),(42,vB (o))]) (λo B=>[bV s [vI ((at' (at' f d.1) e.1).1),vI ((at' (at' f d.1) e.1).2)] 97,Mp nD Qp k e.2]) ?_ ?_
     ·refine aR<|bT Z<|dD 0 Z<|cM Z<|aA Z ?_;refine Dv h Z (λ_ h=>?_) λ_ h=>?_
      ·refine aI Z<|aI Z<|aI Z<|aI Z<|aI Z<|dW Z<|aA Z<|aI Z<|aI Z<|aI Z<|aI Z<|dW Z<|aM ?_;exact iB (true) () h SF Z
      refine aP Z (dC Z Z Z Z Z) Z<|aP Z (eH 0 Z Z Z Z Z) Z<|cS Z<|aP Z (iF Z (aF.fact 0 Z) Z) Z<|aP Z (De Z Z) Z<|fO Z<|aA Z ?_;refine Dv h Z (λ_ h=>?_) λ_ h=>?_
      ·refine aI Z<|aI Z<|aI Z<|aI Z<|dW Z<|aM ?_;exact iB (true) () h SF Z
      refine aP Z (dC Z Z Z Z Z) Z<|aP Z (eH 0 Z Z Z Z Z) Z<|cS Z<|aP Z (OB Z Z) Z<|fO Z<|aM ?_;exact iB (decide (((at' (at' f d.1) e.1).1)=d.1)) () h SF Z
     intro o B h;refine AZ h Z (λ_ h=>?_) λ_ h=>?_
     ·refine aV<|aE Z<|aM<|aW<|aJ<|bM<|aJ<|aJ<|bM<|bM<|aJ<|aJ<|bM<|aJ ?_;cases h;exact tU Z
     refine cK<|aK<|aK<|dO (λp=>jC f d e (bJ (cI f d (bJ (cW U f) t)) E) p=some r) (λp C=>[(0,n),(3,Value.map (some k)),(4,vI (d.1)),(7,vP s),(14,n),(15,vI (List.length f:Int)),(16,vI (d.1)),(21,(at' F d.1).1),(22,vI (List.length (at' f d.1):Int)),(23,vI (e.1)),(50,vB (p))]) (λp C=>[bV s [vI ((at' (at' f d.1) e.1).1),vI ((at' (at' f d.1) e.1).2)] 97,Mp nD Qp k e.2]) ?_ ?_
     ·refine aR<|bT Z<|dD 0 Z<|cM Z<|aA Z ?_;refine Dv h Z (λ_ h=>?_) λ_ h=>?_
      ·refine aI Z<|aI Z<|aI Z<|dW Z<|aM ?_;exact iB (true) () h SF Z
      refine aP Z (dC Z Z Z Z Z) Z<|aP Z (eH 0 Z Z Z Z Z) Z<|aP Z (zC Z Z) Z<|fO Z<|aM ?_;exact iB (decide ((15:Int)<((at' (at' f d.1) e.1).2))) () h SF Z
     intro p C h;refine AZ h Z (λ_ h=>?_) λ_ h=>?_
     ·refine aV<|aE Z<|aM<|aW<|aJ<|bM<|aJ<|aJ<|bM<|bM<|aJ<|aJ<|bM<|aJ ?_;cases h;exact tU Z
     refine cK<|aV<|aA Z<|bT Z<|dD 0 Z ?_;refine aB (Ck (r:=Value.agg #[vI (d.1),vI ((at' (at' f d.1) e.1).1)]) Z Z (by intro w;simp[Instr.build,Instr.fill,fC,eB,dH,fD,fE,eD,gR])) Z ?_;refine aH (aN.alloc (cs:=VH) Z Z) Z λK=>bS 0 (vs:=[vI (d.1),vI ((at' (at' f d.1) e.1).1)]) Z Z Z Z Z Z<|aM<|aK<|aV<|aA Z<|eK 0 Z ?_;refine aB (OE 2 ((d.1,((at' (at' f d.1) e.1).1))) (u:=vI (Option.getD (mE (d.1,((at' (at' f d.1) e.1).1)) e.2) (0:Int))) No Z Z Z Z Z (by cases mE ((d.1,((at' (at' f d.1) e.1).1))) e.2<;>rfl)) Z ?_;refine aA Z<|iY Z<|iY Z<|aE Z<|aE Z<|aM<|aV<|aA Z<|aM ?_;refine AZ h Z (λ_ h=>?_) λ_ h=>?_
     ·refine aV<|aE Z<|aM<|aW<|aJ<|bM<|aJ<|aJ<|bM<|bM<|aJ<|aJ<|bM<|aJ ?_;cases h;exact tU Z
     refine cK<|aR<|aA Z<|eK 0 Z<|bT Z<|dD 1 Z<|NZ 2 ((d.1,((at' (at' f d.1) e.1).1))) ((at' (at' f d.1) e.1).2) No Z Z Z Z Z<|eI<|mA<|aR<|cH Z<|aA Z<|aM ?_;exact mG ((wI .i64 (e.1+(1:Int))),(CF (d.1,((at' (at' f d.1) e.1).1)) ((at' (at' f d.1) e.1).2) e.2)) () h SF (a_.ix [2] Z Z) (aG.refl _ _)
    refine pH<|dV<|dV<|vM<|mA ?_;exact iB (e.2) () h SF Z
   intro m z h;unfold mQ at h;refine aR<|cH Z<|aA Z<|aM ?_;exact xT ((wI .i64 (d.1+(1:Int))),m) () h SF Z
  refine e_ ?_;exact iB (d.2) () h SF Z
 intro q H h;unfold jB at h;refine aK<|aV<|aA Z<|aH (aN.range 0 Z Z Z) Z λI=>aM<|aS<|ZI [(3,Value.map (some k)),(69,vP I)] [It I k (List.length q) ([]),Mp nD Qp k q] [S2 bB n F f] SF (a_.refl _) (aG.refl _ _) ?_;refine Uz (vH q) 1 0 (by intro a b x;unfold vH;repeat' split;all_goals first|rfl|contradiction|simp_all) h Z Z Z Z Z Z ?_ ?_
 ·skip
  intro g N G M v h;refine aS<|aV<|aH (aN.entry 1 0 v Z Z Z) Z λL=>iY Z<|iY Z<|aH (aN.alloc (cs:=VH) Z Z) Z λJ=>bS 0 (vs:=[vI (g.1.1),vI (g.1.2)]) Z Z Z Z Z Z<|aE Z<|aM<|aV<|aA Z ?_;refine aB (oJ (i:=1) Z Z Z Z Z (by decide)) Z ?_;refine dD 0 Z ?_;refine aB (oJ (i:=0) Z Z Z Z Z (by decide)) Z ?_;refine dD 0 Z ?_;refine aB (Ck (r:=Value.agg #[vI (g.1.2),vI (g.1.1)]) Z Z (by intro w;simp[Instr.build,Instr.fill,fC,eB,dH,fD,fE,eD,gR])) Z ?_;refine aB (OE 2 ((g.1.2,g.1.1)) (u:=vI (Option.getD (mE (g.1.2,g.1.1) q) (0:Int))) No Z Z Z Z Z (by cases mE ((g.1.2,g.1.1)) q<;>rfl)) Z ?_;refine aA Z<|q_ Z<|aM ?_;refine eV h Z (λh=>?_) λh=>?_
  ·refine aV<|aE Z<|aM<|aW<|bM<|aJ<|bM<|aJ ?_;cases h;exact tU Z
  refine dK<|mA ?_;exact QN h SF (a_.ix [1,2] Z Z) (aG.refl _ _)
 intro G h;refine vM<|Ae<|aV<|aE Z<|aM<|aW ?_;cases h;exact tU Z
def pW  (a:Bool):Option (Bool):=
 some (a)
def pV (U:Nat) (b:cE) (c:Bool):Option (Bool):=
 if c=true then(some (false))else(Option.bind (jN U b.1) λd=>(if d=true then(Option.bind (gN U b.2) λa=>(pW  (a)))else(pW  (false))))
def h_ (U:Nat) (a:cE):Option (Bool):=
 if(List.length a.1:Int)<(1:Int)then(pV U a (true))else(if(24:Int)<(List.length a.1:Int)then(pV U a (true))else(pV U a (decide ((List.length a.2:Int)≠(List.length a.1:Int)))))
theorem MV:aX Tryz.prog 87:=Tryz.call87
theorem yW (U:Nat) {p0:cE} (f:Value)  (g:Value)  (o:k_) (r:Bool) (h:h_ U p0=some r):
  aY Tryz.prog 87 #[Value.agg #[f,g]] [Sl bO f p0.1,S2 bB g o p0.2] (λx:Unit=>vB (r)) (λx l=>l) (λ_ l=>l):=by
 refine aY.of Tryz.func87 Z Tryz.ntmps87 Z λc=>?_;refine aV<|aH (aN.box (cs:=[f,g]) Z Z) Z λk=>aE Z<|aM<|aV<|bT Z<|dD 0 Z<|kF (aF.fact 0 Z) Z<|aE Z<|aM<|aK<|aK<|dO (λb=>pV U p0 b=some r) (λb m=>[(1,vP k),(19,vB (b))]) (λb m=>[bV k [f,g] 28]) ?_ ?_
 ·refine aR<|aA Z<|cM Z<|aA Z ?_;refine Dv h Z (λ_ h=>?_) λ_ h=>?_
  ·refine aI Z<|aI Z<|dW Z<|aA Z<|aI Z<|aI Z<|aI Z<|aI Z<|aI Z<|dW Z<|aM ?_;exact iB (true) () h SF Z
  refine cS Z<|aP Z (zC Z Z) Z<|fO Z<|aA Z ?_;refine Dv h Z (λ_ h=>?_) λ_ h=>?_
  ·refine aI Z<|aI Z<|aI Z<|aI Z<|aI Z<|dW Z<|aM ?_;exact iB (true) () h SF Z
  refine aP Z (dC Z Z Z Z Z) Z<|aP Z (eH 0 Z Z Z Z Z) Z<|aP Z (iF Z (aF.fact 1 Z) Z) Z<|cS Z<|aP Z (Df Z Z) Z<|fO Z<|aM ?_;exact iB (decide ((List.length p0.2:Int)≠(List.length p0.1:Int))) () h SF Z
 intro b m h;refine AZ h Z (λ_ h=>?_) λ_ h=>?_
 ·refine aV<|aE Z<|aM<|aW<|aJ ?_;cases h;exact tU Z
 refine cK<|aK<|dO (λd=>pW  d=some r) (λd n=>[(2,vB (d))]) (λd n=>[]) ?_ ?_
 ·refine aR<|bT Z<|dD 0 Z<|fH h λp i h=>aH (aN.callQ aal (Ek U f p i) Z (oS [0] Z)) Z λq=>aA Z ?_;refine wG (by exact rfl) (by exact rfl) (λa=>?_) (λa=>?_)
  ·have h:=LP a h;refine aP Z (dC Z Z Z Z Z) Z<|aP Z (eH 0 Z Z Z Z Z) Z<|fH h λe j h=>nF Z (aN.callQ aam (GY U g o e j) Z (oS [1] Z)) Z λs=>dW Z<|aE Z<|aM ?_;exact cC (e) () h SF .nil (aG.refl _ _)
  have h:=Gr a h;refine aI Z<|aI Z<|aI Z<|fO Z<|aE Z<|aM ?_;exact cC (false) () h SF .nil (aG.refl _ _)
 intro d n h;unfold pW at h;refine aW ?_;cases h;exact lA Z
def qI  (a:Unit):Option (Bool):=
 some (true)
def kV (c:aQ) (a:Int) (b:(Int)->Option (Bool)):Option (Bool):=
 if a<(List.length c:Int)then(ck (0<=a∧a<(List.length c:Int)) (if(at' c a)<(0:Int)then(some (false))else(b (wI .i64 (a+(1:Int))))))else(qI  (()))
def eT (U:Nat) (a:cE):Option (Bool):=
 Option.bind (h_ U ((a.1,a.2))) λb=>(if(!b)=true then(some (false))else(Option.bind (jW U ((a.1,a.2)) (0:Int)) λc=>(bJ (kV c) U (0:Int))))
theorem Rj:aX Tryz.prog 59:=Tryz.call59
theorem xL (U:Nat) {k:cE} (e:Value)  (f:Value)  (m:k_) (r:Bool) (h:eT U k=some r):
  aY Tryz.prog 59 #[Value.agg #[e,f]] [Sl bO e k.1,S2 bB f m k.2] (λx:Unit=>vB (r)) (λx l=>l) (λ_ l=>l):=by
 refine aY.of Tryz.func59 Z Tryz.ntmps59 Z λc=>?_;refine aV<|aH (aN.box (cs:=[e,f]) Z Z) Z λt=>aE Z<|aM<|aK<|aV<|eK 0 Z<|fH h λp q h=>aH (aN.callQ MV (yW U e f m p q) Z (oS [0,1] Z)) Z λu=>aB (oQ Z) Z<|aM ?_;refine AZ h Z (λ_ h=>?_) λ_ h=>?_
 ·refine aV<|aE Z<|aM<|aW<|aJ ?_;cases h;exact tU Z
 refine cK<|aK<|dO (λi=>qI  i=some r) (λi n=>[]) (λi n=>[]) ?_ ?_
 ·refine aV<|eK 0 Z<|fH h λj s h=>aH (aN.callQ WU (El U e f m j s) Z (oS [0,1] Z)) Z λg=>aB (fX Z (bD (aF.res 0 Z) dJ) Z) Z<|aA Z<|aM<|aS<|dU (kV j) (λa b=>[(9,g),(10,vI (List.length j:Int)),(11,vI (a))]) (λa b=>[Ar bZ g j]) (0:Int) () h SF (a_.ix [0] Z Z) ?_;intro o a b h;refine aV<|cM Z<|aM<|aK ?_;refine eV h Z (λh=>?_) λh=>?_
  ·refine cK<|aK<|aS<|aV<|cX h λd h=>aB (aZ Z Z (bD (aF.res 0 Z) dJ) Z Z d) Z<|aB (bQ Z (bD (aF.res 0 Z) dJ) Z Z Z cQ d) Z<|aE Z<|aM<|aV<|aA Z<|cM Z<|aM ?_;refine eV h Z (λh=>?_) λh=>?_
   ·refine aV<|aE Z<|aM<|aW<|bM<|aJ<|aJ<|bM<|aJ ?_;cases h;exact tU Z
   refine dK<|mA<|aR<|cH Z<|aA Z<|aM ?_;exact xT (wI .i64 (a+(1:Int))) () h SF Z
  refine e_ ?_;exact cC () (()) h SF .nil (aG.refl _ _)
 intro i n h;unfold qI at h;refine aV<|aE Z<|aM<|aW ?_;cases h;exact lA Z
def HA (U:Nat) (a:cE):Option (Bool):=
 Option.bind (eT U ((a.1,a.2))) λb=>(some (b))
theorem aai:aX Tryz.prog 114:=Tryz.call114
theorem VE (U:Nat) {d:cE} (a:Value)  (b:Value)  (e:k_) (r:Bool) (h:HA U d=some r):
  aY Tryz.prog 114 #[Value.agg #[a,b]] [Sl bO a d.1,S2 bB b e d.2] (λx:Unit=>vB (r)) (λx l=>l) (λ_ l=>l):=by
 refine aY.of Tryz.func114 Z Tryz.ntmps114 Z λc=>?_;refine aV<|aH (aN.box (cs:=[a,b]) Z Z) Z λi=>aE Z<|aM<|aV<|eK 0 Z<|fH h λf g h=>aH (aN.callQ Rj (xL U a b e f g) Z (oS [0,1] Z)) Z λj=>aE Z<|aM<|aW ?_;cases h;exact tU Z
def rQ  (a:Int):Option (Int):=
 some (a)
def xF (b:aQ) (a:fP) (c:iZ->Option (Int)):Option (Int):=
 if a.2<(List.length b:Int)then(ck (0<=a.2∧a.2<(List.length b:Int)) (if(at' b a.2)<(0:Int)then(some (-1:Int))else(ck (0<=a.2∧a.2<(List.length b:Int)) (c ((max a.1 (at' b a.2)),(wI .i64 (a.2+(1:Int))))))))else(rQ  (a.1))
def pY (U:Nat) (a:aQ):Option (Int):=
 bJ (xF a) U ((-1:Int),(0:Int))
theorem adc:aX Tryz.prog 29:=Tryz.call29
theorem HO (U:Nat) {f:aQ} (g:Value) (r:Int) (h:pY U f=some r):
  aY Tryz.prog 29 #[g] [Sl bO g f] (λx:Unit=>vI (r)) (λx l=>l) (λ_ l=>l):=by
 refine aY.of Tryz.func29 Z Tryz.ntmps29 Z λc=>?_;unfold pY at h;refine aV<|aE Z<|aM<|aV<|aE Z<|aM<|aK<|dO (λb=>rQ  b=some r) (λb i=>[(3,vI (b))]) (λb i=>[]) ?_ ?_
 ·refine aV<|aE Z<|aM<|aS<|dU (xF f) (λa j=>[(0,g),(3,vI (a.1)),(4,vI (a.2))]) (λa j=>[]) ((-1:Int),(0:Int)) () h SF (a_.refl _) ?_;intro k a j h;refine aK<|aV<|aA Z<|aA Z<|kF (aF.fact 0 Z) Z<|cM Z<|aM ?_;refine eV h Z (λh=>?_) λh=>?_
  ·refine cK<|aK<|aS<|aK<|aV<|aA Z<|aA Z<|cX h λd h=>aB (aZ Z Z (aF.fact 0 Z) Z Z d) Z<|aB (bQ Z (aF.fact 0 Z) Z Z Z cQ d) Z<|cM Z<|aM ?_;refine eV h Z (λh=>?_) λh=>?_
   ·refine aV<|aE Z<|aM<|aW<|aJ<|bM<|aJ<|aJ<|bM<|aJ ?_;cases h;exact lA Z
   refine cK<|aR<|aA Z<|aA Z<|aA Z<|cX h λe h=>aB (aZ Z Z (aF.fact 0 Z) Z Z e) Z<|aB (bQ Z (aF.fact 0 Z) Z Z Z cQ e) Z<|aB (Ls Z Z) Z<|aE Z<|eI<|mA<|aR<|aA Z<|cH Z<|aE Z<|aM ?_;exact xT ((max a.1 (at' f a.2)),(wI .i64 (a.2+(1:Int)))) () h SF Z
  refine e_ ?_;exact iB (a.1) () h SF Z
 intro b i h;unfold rQ at h;refine aV<|aA Z<|aE Z<|aM<|aW ?_;cases h;exact lA Z
def zH  (a:Bool):Option (Bool):=
 some (a)
def sI (U:Nat) (a:Int) (b:Int) (c:Int):Option (Bool):=
 if b<=a then(zH  (decide (a<=c)))else(zH  (false))
theorem Jz:aX Tryz.prog 53:=Tryz.call53
theorem AU (U:Nat) {b:Int} {f:Int} {d:Int} (r:Bool) (h:sI U b f d=some r):
  aY Tryz.prog 53 #[vI (b),vI (f),vI (d)] [] (λx:Unit=>vB (r)) (λx l=>l) (λ_ l=>l):=by
 refine aY.of Tryz.func53 Z Tryz.ntmps53 Z λc=>?_;refine aV<|aE Z<|aM<|aK<|dO (λa=>zH  a=some r) (λa e=>[(6,vB (a))]) (λa e=>[]) ?_ ?_
 ·refine aR<|aA Z<|aA Z<|aB (De Z Z) Z<|aA Z ?_;refine Dv h Z (λ_ h=>?_) λ_ h=>?_
  ·refine cS Z<|cS Z<|aP Z (BN Z Z) Z<|dW Z<|aE Z<|aM ?_;exact iB (decide (b<=d)) () h SF Z
  refine aI Z<|aI Z<|aI Z<|fO Z<|aE Z<|aM ?_;exact iB (false) () h SF Z
 intro a e h;unfold zH at h;refine aW ?_;cases h;exact lA Z
def pC  (a:Unit):Option (Bool):=
 some (true)
def pD (b:Int) (a:(Int)->Option (Bool)) (c:Unit):Option (Bool):=
 a (wI .i64 (b+(1:Int)))
def iP (d:fM) (b:Int) (e:(Int)->Option (Bool)) (a:Int) (c:(Int)->Option (Bool)):Option (Bool):=
 if a<b then(ck (0<=a∧a<(List.length d:Int)) (ck (0<=b∧b<(List.length d:Int)) (if((at' d a).1)=((at' d b).1)then(some (false))else(c (wI .i64 (a+(1:Int)))))))else(pD b e (()))
def kC (U:Nat) (d:fM) (c:Int) (b:(Int)->Option (Bool)) (a:Bool):Option (Bool):=
 if a=true then(some (false))else(bJ (iP d c b) U (0:Int))
def gA (U:Nat) (b:fM) (f:Int) (g:Int) (a:Int) (c:(Int)->Option (Bool)):Option (Bool):=
 if a<(List.length b:Int)then(ck (0<=a∧a<(List.length b:Int)) (Option.bind (sI U ((at' b a).1) (0:Int) (wI .i64 (g - (1:Int)))) λd=>(if(!d)=true then(kC U b a c (true))else(ck (0<=a∧a<(List.length b:Int)) (if((at' b a).1)=f then(kC U b a c (true))else(ck (0<=a∧a<(List.length b:Int)) (Option.bind (sI U ((at' b a).2) (1:Int) (15:Int)) λe=>(kC U b a c ((!e))))))))))else(pC  (()))
def kX (U:Nat) (a:fM) (b:Int) (c:Int):Option (Bool):=
 bJ (gA U a b c) U (0:Int)
theorem ady:aX Tryz.prog 81:=Tryz.call81
theorem FN (U:Nat) {i:fM} {e:Int} {f:Int} (j:Value) (r:Bool) (h:kX U i e f=some r):
  aY Tryz.prog 81 #[j,vI (e),vI (f)] [Sl bB j i] (λx:Unit=>vB (r)) (λx l=>l) (λ_ l=>l):=by
 refine aY.of Tryz.func81 Z Tryz.ntmps81 Z λc=>?_;unfold kX at h;refine aV<|aE Z<|aM<|aK<|dO (λv=>pC  v=some r) (λv D=>[]) (λv D=>[]) ?_ ?_
 ·refine aV<|aE Z<|aM<|aS<|dU (gA U i e f) (λd E=>[(0,j),(1,vI (e)),(2,vI (f)),(7,vI (d))]) (λd E=>[]) (0:Int) () h SF (a_.refl _) ?_;intro y d E h;refine aK<|aV<|aA Z<|aA Z<|kF (aF.fact 0 Z) Z<|cM Z<|aM ?_;refine eV h Z (λh=>?_) λh=>?_
  ·refine cK<|aK<|dO (λw=>pD d (bJ (gA U i e f) y) w=some r) (λw k=>[(0,j),(1,vI (e)),(2,vI (f)),(7,vI (d))]) (λw k=>[]) ?_ ?_
   ·refine aS<|aK<|aK<|dO (λa=>kC U i d (bJ (gA U i e f) y) a=some r) (λa m=>[(0,j),(1,vI (e)),(2,vI (f)),(7,vI (d)),(41,vB (a))]) (λa m=>[]) ?_ ?_
    ·refine aR<|aA Z<|aA Z<|cX h λq h=>aB (aZ Z Z (aF.fact 0 Z) Z Z q) Z<|aB (fY Z Z Z Z Z) Z<|aB (jO Z (aF.fact 0 Z) Z Z Z mJ q) Z<|aA Z<|aB (oK Z Z) Z<|fH h λA B h=>aH (aN.callQ Jz (AU U  A B) Z .nil) Z λG=>aB (oQ Z) Z<|aA Z ?_;refine wG (by exact rfl) (by exact rfl) (λb=>?_) (λb=>?_)
     ·have h:=LP b h;refine aI Z<|aI Z<|aI Z<|aI Z<|aI Z<|aI Z<|aI Z<|dW Z<|aA Z<|aI Z<|aI Z<|aI Z<|aI Z<|aI Z<|aI Z<|aI Z<|dW Z<|aM ?_;exact iB (true) () h SF Z
     have h:=Gr b h;refine cS Z<|cS Z<|cX h λs h=>aP Z (aZ Z Z (aF.fact 0 Z) Z Z s) Z<|aP Z (fY Z Z Z Z Z) Z<|aP Z (jO Z (aF.fact 0 Z) Z Z Z mJ s) Z<|cS Z<|aP Z (OB Z Z) Z<|fO Z<|aA Z ?_;refine Dv h Z (λ_ h=>?_) λ_ h=>?_
     ·refine aI Z<|aI Z<|aI Z<|aI Z<|aI Z<|aI Z<|aI Z<|dW Z<|aM ?_;exact iB (true) () h SF Z
     refine cS Z<|cS Z<|cX h λt h=>aP Z (aZ Z Z (aF.fact 0 Z) Z Z t) Z<|aP Z (fY Z Z Z Z Z) Z<|aP Z (jO Z (aF.fact 0 Z) Z Z Z Ft t) Z<|fH h λu C h=>nF Z (aN.callQ Jz (AU U  u C) Z .nil) Z λH=>aP Z (oQ Z) Z<|fO Z<|aM ?_;exact iB ((!u)) () h SF Z
    intro a m h;refine AZ h Z (λ_ h=>?_) λ_ h=>?_
    ·refine aV<|aE Z<|aM<|aW<|aJ<|bM<|aJ<|aJ<|bM<|aJ ?_;cases h;exact lA Z
    refine cK<|aV<|aE Z<|aM<|aS<|dU (iP i d (bJ (gA U i e f) y)) (λg n=>[(0,j),(1,vI (e)),(2,vI (f)),(7,vI (d)),(8,vI (g))]) (λg n=>[]) (0:Int) () h SF (a_.refl _) ?_;intro F g n h;refine aK<|aV<|aA Z<|aA Z<|cM Z<|aM ?_;refine eV h Z (λh=>?_) λh=>?_
    ·refine cK<|aK<|aS<|aK ?_;refine JR.start [0,0,3,7,15,0,0,96,224,480,1023] 10 mixedOrders (by decide +kernel) ?_;refine JR.open (by exact rfl) ?_;refine bG Z<|bG Z<|cX h λo h=>bK Z .nil (kA 0 Z) (aZ Z Z (aF.fact 0 Z) Z Z o) aO.z<|jS Z (fY Z Z Z Z Z)<|bK Z .nil (kA 0 Z) (jO Z (aF.fact 0 Z) Z Z Z mJ o) aO.z<|bG Z<|bG Z<|cX h λp h=>bK Z .nil (kA 0 Z) (aZ Z Z (aF.fact 0 Z) Z Z p) aO.z<|jS Z (fY Z Z Z Z Z)<|bK Z .nil (kA 0 Z) (jO Z (aF.fact 0 Z) Z Z Z mJ p) aO.z<|bP 10 Z Z<|cP Z<|aM ?_;refine eV h Z (λh=>?_) λh=>?_
     ·refine aV<|aE Z<|aM<|aW<|bM<|aJ<|aJ<|bM<|bM<|aJ<|aJ<|bM<|aJ ?_;cases h;exact lA Z
     refine dK<|mA<|aR<|aA Z<|cH Z<|aE Z<|aM ?_;exact xT (wI .i64 (g+(1:Int))) () h SF Z
    refine pH<|dV<|dV<|vM<|mA ?_;exact iB () (()) h SF Z
   intro w k h;unfold pD at h;refine aR<|aA Z<|cH Z<|aE Z<|aM ?_;exact xT (wI .i64 (d+(1:Int))) () h SF Z
  refine e_ ?_;exact iB () (()) h SF Z
 intro v D h;unfold pC at h;refine aV<|aE Z<|aM<|aW ?_;cases h;exact lA Z
def BD  (a:Unit):Option (Int):=
 some (-1:Int)
def yS (c:cE) (a:Int) (e:Int) (b:Int) (d:(Int)->Option (Int)):Option (Int):=
 ck (0<=a∧a<(List.length c.2:Int)) (if b<(List.length (at' c.2 a):Int)then(ck (0<=a∧a<(List.length c.2:Int)) (ck (0<=b∧b<(List.length (at' c.2 a):Int)) (if((at' (at' c.2 a) b).1)=e then(some (b))else(d (wI .i64 (b+(1:Int)))))))else(BD  (())))
def wW (U:Nat) (a:cE) (b:Int) (c:Int):Option (Int):=
 bJ (yS a b c) U (0:Int)
theorem adz:aX Tryz.prog 82:=Tryz.call82
theorem NH (U:Nat) {g:cE} {i:Int} {j:Int} (k:Value)  (m:Value)  (q:k_) (r:Int) (h:wW U g i j=some r):
  aY Tryz.prog 82 #[Value.agg #[k,m],vI (i),vI (j)] [Sl bO k g.1,S2 bB m q g.2] (λx:Unit=>vI (r)) (λx l=>l) (λ_ l=>l):=by
 refine aY.of Tryz.func82 Z Tryz.ntmps82 Z λc=>?_;unfold wW at h;refine aV<|aH (aN.box (cs:=[k,m]) Z Z) Z λn=>aE Z<|aM<|aK<|dO (λd=>BD  d=some r) (λd o=>[]) (λd o=>[]) ?_ ?_
 ·refine aV<|aE Z<|aM<|aS<|dU (yS g i j) (λe p=>[(1,vI (i)),(2,vI (j)),(3,vP n),(7,vI (e))]) (λe p=>[bV n [k,m] 28]) (0:Int) () h SF (a_.refl _) ?_;intro s e p h;refine aK<|aV<|aA Z<|bT Z<|dD 0 Z<|aA Z<|cX h λf h=>aB (bX Z Z (aF.fact 1 Z) Z Z f) Z<|aB (bW Z (aF.fact 1 Z) Z Z f) Z<|aB (fX Z (aF.el (aF.fact 1 Z) f.1 f.2) Z) Z<|cM Z<|aM ?_;refine eV h Z (λh=>?_) λh=>?_
  ·refine cK<|aK<|aS<|aV<|bT Z<|dD 0 Z<|aA Z<|cX h λa h=>aB (bX Z Z (aF.fact 1 Z) Z Z a) Z<|aB (bW Z (aF.fact 1 Z) Z Z a) Z<|aA Z<|cX h λb h=>aB (aZ Z Z (aF.el (aF.fact 1 Z) a.1 a.2) Z Z b) Z<|aB (fY Z Z Z Z Z) Z<|aB (jO Z (aF.el (aF.fact 1 Z) a.1 a.2) Z Z Z mJ b) Z<|aA Z<|cP Z<|aM ?_;refine eV h Z (λh=>?_) λh=>?_
   ·refine aV<|aA Z<|aE Z<|aM<|aW<|bM<|aJ<|aJ<|bM<|aJ ?_;cases h;exact tU Z
   refine dK<|mA<|aR<|aA Z<|cH Z<|aE Z<|aM ?_;exact xT (wI .i64 (e+(1:Int))) () h SF Z
  refine e_ ?_;exact cC () (()) h SF .nil (aG.refl _ _)
 intro d o h;unfold BD at h;refine aV<|aE Z<|aM<|aW ?_;cases h;exact lA Z
def xA  (a:Unit):Option (Bool):=
 some (true)
def xB (b:Int) (a:(Int)->Option (Bool)) (c:Unit):Option (Bool):=
 a (wI .i64 (b+(1:Int)))
def xD (b:Int) (a:(Int)->Option (Bool)) (c:Bool):Option (Bool):=
 if c=true then(some (false))else(a (wI .i64 (b+(1:Int))))
def jZ (U:Nat) (c:cE) (a:Int) (f:(Int)->Option (Bool)) (b:Int) (e:(Int)->Option (Bool)):Option (Bool):=
 ck (0<=a∧a<(List.length c.2:Int)) (if b<(List.length (at' c.2 a):Int)then(ck (0<=a∧a<(List.length c.2:Int)) (ck (0<=b∧b<(List.length (at' c.2 a):Int)) (Option.bind (wW U ((c.1,c.2)) ((at' (at' c.2 a) b).1) a) λd=>(if d<(0:Int)then(xD b e (true))else(ck (0<=((at' (at' c.2 a) b).1)∧((at' (at' c.2 a) b).1)<(List.length c.2:Int)) (ck (0<=d∧d<(List.length (at' c.2 ((at' (at' c.2 a) b).1)):Int)) (xD b e (decide (((at' (at' c.2 ((at' (at' c.2 a) b).1)) d).2)≠((at' (at' c.2 a) b).2))))))))))else(xB a f (())))
def jY (U:Nat) (c:cE) (a:Int) (b:(Int)->Option (Bool)):Option (Bool):=
 if a<(List.length c.2:Int)then(bJ (jZ U c a b) U (0:Int))else(xA  (()))
def sN (U:Nat) (a:cE) (b:Unit):Option (Bool):=
 bJ (jY U a) U (0:Int)
def xE (b:Int) (a:(Int)->Option (Bool)) (c:Unit):Option (Bool):=
 a (wI .i64 (b+(1:Int)))
def nC (e:cE) (a:Int) (c:(Int)->Option (Bool)) (b:Int) (d:(Int)->Option (Bool)):Option (Bool):=
 if b<a then(ck (0<=b∧b<(List.length e.1:Int)) (ck (0<=a∧a<(List.length e.1:Int)) (if(at' e.1 b)=(at' e.1 a)then(some (false))else(d (wI .i64 (b+(1:Int)))))))else(xE a c (()))
def qB (U:Nat) (d:cE) (b:Int) (a:(Int)->Option (Bool)) (c:Bool):Option (Bool):=
 if c=true then(some (false))else(bJ (nC d b a) U (0:Int))
def j_ (U:Nat) (b:cE) (a:Int) (c:(Int)->Option (Bool)):Option (Bool):=
 if a<(List.length b.2:Int)then(ck (0<=a∧a<(List.length b.1:Int)) (Option.bind (sI U (at' b.1 a) (0:Int) (255:Int)) λd=>(if(!d)=true then(qB U b a c (true))else(ck (0<=a∧a<(List.length b.2:Int)) (if(List.length b.2:Int)<=(List.length (at' b.2 a):Int)then(qB U b a c (true))else(ck (0<=a∧a<(List.length b.2:Int)) (Option.bind (kX U (at' b.2 a) a (List.length b.2:Int)) λe=>(qB U b a c ((!e))))))))))else(sN U b (()))
def w_ (U:Nat) (b:cE) (a:Bool):Option (Bool):=
 if a=true then(some (false))else(bJ (j_ U b) U (0:Int))
def t_ (U:Nat) (a:cE):Option (Bool):=
 Option.bind (sI U (List.length a.2:Int) (1:Int) (24:Int)) λb=>(if(!b)=true then(w_ U a (true))else(w_ U a (decide ((List.length a.1:Int)≠(List.length a.2:Int)))))
theorem adm:aX Tryz.prog 52:=Tryz.call52
theorem Lg (U:Nat) {a:cE} (g:Value)  (i:Value)  (z2:k_) (r:Bool) (h:t_ U a=some r):
  aY Tryz.prog 52 #[Value.agg #[g,i]] [Sl bO g a.1,S2 bB i z2 a.2] (λx:Unit=>vB (r)) (λx l=>l) (λ_ l=>l):=by
 refine aY.of Tryz.func52 Z Tryz.ntmps52 Z λc=>?_;refine aV<|aH (aN.box (cs:=[g,i]) Z Z) Z λf=>aE Z<|aM<|aV<|bT Z<|dD 0 Z<|aB (iF Z (aF.fact 1 Z) Z) Z<|aE Z<|aM<|aK<|aK<|dO (λC=>w_ U a C=some r) (λC b4=>[(1,vP f),(3,vI (List.length a.2:Int)),(22,vB (C))]) (λC b4=>[bV f [g,i] 28]) ?_ ?_
 ·refine aR<|aA Z<|fH h λX ac h=>aH (aN.callQ Jz (AU U  X ac) Z .nil) Z λai=>aB (oQ Z) Z<|aA Z ?_;refine wG (by exact rfl) (by exact rfl) (λq=>?_) (λq=>?_)
  ·have h:=LP q h;refine aI Z<|aI Z<|aI Z<|aI Z<|aI Z<|dW Z<|aM ?_;exact iB (true) () h SF Z
  have h:=Gr q h;refine aP Z (dC Z Z Z Z Z) Z<|aP Z (eH 0 Z Z Z Z Z) Z<|aP Z (fX Z (aF.fact 0 Z) Z) Z<|cS Z<|aP Z (Df Z Z) Z<|fO Z<|aM ?_;exact iB (decide ((List.length a.1:Int)≠(List.length a.2:Int))) () h SF Z
 intro C b4 h;refine AZ h Z (λ_ h=>?_) λ_ h=>?_
 ·refine aV<|aE Z<|aM<|aW<|aJ ?_;cases h;exact tU Z
 refine cK<|aK<|dO (λS=>sN U a S=some r) (λS b7=>[(1,vP f),(3,vI (List.length a.2:Int))]) (λS b7=>[bV f [g,i] 28]) ?_ ?_
 ·refine aV<|aE Z<|aM<|aS<|dU (j_ U a) (λe H=>[(1,vP f),(3,vI (List.length a.2:Int)),(4,vI (e))]) (λe H=>[bV f [g,i] 28]) (0:Int) () h SF (a_.refl _) ?_;intro B e H h;refine aK<|aV<|aA Z<|aA Z<|cM Z<|aM ?_;refine eV h Z (λh=>?_) λh=>?_
  ·refine cK<|aK<|dO (λt=>xE e (bJ (j_ U a) B) t=some r) (λt I=>[(1,vP f),(3,vI (List.length a.2:Int)),(4,vI (e))]) (λt I=>[bV f [g,i] 28]) ?_ ?_
   ·refine aS<|aK<|aK<|dO (λn=>qB U a e (bJ (j_ U a) B) n=some r) (λn J=>[(1,vP f),(3,vI (List.length a.2:Int)),(4,vI (e)),(55,vB (n))]) (λn J=>[bV f [g,i] 28]) ?_ ?_
    ·refine aR<|bT Z<|dD 0 Z<|aA Z<|cX h λP h=>aB (aZ Z Z (aF.fact 0 Z) Z Z P) Z<|aB (bQ Z (aF.fact 0 Z) Z Z Z cQ P) Z<|fH h λW aa h=>aH (aN.callQ Jz (AU U  W aa) Z .nil) Z λag=>aB (oQ Z) Z<|aA Z ?_;refine wG (by exact rfl) (by exact rfl) (λp=>?_) (λp=>?_)
     ·have h:=LP p h;refine aI Z<|aI Z<|aI Z<|aI Z<|aI Z<|aI Z<|aI Z<|aI Z<|dW Z<|aA Z<|aI Z<|aI Z<|aI Z<|aI Z<|aI Z<|aI Z<|aI Z<|aI Z<|aI Z<|dW Z<|aM ?_;exact iB (true) () h SF Z
     have h:=Gr p h;refine aP Z (dC Z Z Z Z Z) Z<|aP Z (eH 0 Z Z Z Z Z) Z<|cS Z<|cX h λw h=>aP Z (bX Z Z (aF.fact 1 Z) Z Z w) Z<|aP Z (bW Z (aF.fact 1 Z) Z Z w) Z<|aP Z (fX Z (aF.el (aF.fact 1 Z) w.1 w.2) Z) Z<|cS Z<|aP Z (De Z Z) Z<|fO Z<|aA Z ?_;refine Dv h Z (λ_ h=>?_) λ_ h=>?_
     ·refine aI Z<|aI Z<|aI Z<|aI Z<|aI Z<|aI Z<|aI Z<|aI Z<|aI Z<|dW Z<|aM ?_;exact iB (true) () h SF Z
     refine aP Z (dC Z Z Z Z Z) Z<|aP Z (eH 0 Z Z Z Z Z) Z<|cS Z<|cX h λy h=>aP Z (bX Z Z (aF.fact 1 Z) Z Z y) Z<|aP Z (bW Z (aF.fact 1 Z) Z Z y) Z<|cS Z<|cS Z<|fH h λR ab h=>nF Z (aN.callQ ady (FN U ((at' z2 e).1) R ab) Z (aG.cons (aF.el (aF.fact 1 Z) y.1 y.2) .nil)) Z λah=>aP Z (oQ Z) Z<|fO Z<|aM ?_;exact iB ((!R)) () h SF Z
    intro n J h;refine AZ h Z (λ_ h=>?_) λ_ h=>?_
    ·refine aV<|aE Z<|aM<|aW<|aJ<|bM<|aJ<|aJ<|bM<|aJ ?_;cases h;exact tU Z
    refine cK<|aV<|aE Z<|aM<|aS<|dU (nC a e (bJ (j_ U a) B)) (λu K=>[(1,vP f),(3,vI (List.length a.2:Int)),(4,vI (e)),(5,vI (u))]) (λu K=>[bV f [g,i] 28]) (0:Int) () h SF (a_.refl _) ?_;intro ae u K h;refine aK<|aV<|aA Z<|aA Z<|cM Z<|aM ?_;refine eV h Z (λh=>?_) λh=>?_
    ·refine cK<|aK<|aS<|aK ?_;refine JR.start [0,1,0,7,15,0,32,0,224,480,1023] 10 mixedOrders (by decide +kernel) ?_;refine JR.open (by exact rfl) ?_;refine dB Z<|jR 0 Z<|bG Z<|cX h λN h=>bK Z .nil (kA 0 Z) (aZ Z Z (aF.fact 0 Z) Z Z N) aO.z<|bK Z .nil (kA 0 Z) (bQ Z (aF.fact 0 Z) Z Z Z cQ N) aO.z<|dB Z<|jR 0 Z<|bG Z<|cX h λO h=>bK Z .nil (kA 0 Z) (aZ Z Z (aF.fact 0 Z) Z Z O) aO.z<|bK Z .nil (kA 0 Z) (bQ Z (aF.fact 0 Z) Z Z Z cQ O) aO.z<|bP 10 Z Z<|cP Z<|aM ?_;refine eV h Z (λh=>?_) λh=>?_
     ·refine aV<|aE Z<|aM<|aW<|bM<|aJ<|aJ<|bM<|bM<|aJ<|aJ<|bM<|aJ ?_;cases h;exact tU Z
     refine dK<|mA<|aR<|aA Z<|cH Z<|aE Z<|aM ?_;exact xT (wI .i64 (u+(1:Int))) () h SF Z
    refine pH<|dV<|dV<|vM<|mA ?_;exact iB () (()) h SF Z
   intro t I h;unfold xE at h;refine aR<|aA Z<|cH Z<|aE Z<|aM ?_;exact xT (wI .i64 (e+(1:Int))) () h SF Z
  refine e_ ?_;exact iB () (()) h SF Z
 intro S b7 h;unfold sN at h;refine aK<|dO (λT=>xA  T=some r) (λT b9=>[]) (λT b9=>[]) ?_ ?_
 ·refine aV<|aE Z<|aM<|aS<|dU (jY U a) (λb D=>[(1,vP f),(3,vI (List.length a.2:Int)),(6,vI (b))]) (λb D=>[bV f [g,i] 28]) (0:Int) () h SF (a_.refl _) ?_;intro A b D h;refine aK<|aV<|aA Z<|aA Z<|cM Z<|aM ?_;refine eV h Z (λh=>?_) λh=>?_
  ·refine cK<|aK<|dO (λs=>xB b (bJ (jY U a) A) s=some r) (λs E=>[(1,vP f),(3,vI (List.length a.2:Int)),(6,vI (b))]) (λs E=>[bV f [g,i] 28]) ?_ ?_
   ·refine aS<|aV<|aE Z<|aM<|aS<|dU (jZ U a b (bJ (jY U a) A)) (λd F=>[(1,vP f),(3,vI (List.length a.2:Int)),(6,vI (b)),(7,vI (d))]) (λd F=>[bV f [g,i] 28]) (0:Int) () h SF (a_.refl _) ?_;intro V d F h;refine aK<|aV<|aA Z<|bT Z<|dD 0 Z<|aA Z<|cX h λv h=>aB (bX Z Z (aF.fact 1 Z) Z Z v) Z<|aB (bW Z (aF.fact 1 Z) Z Z v) Z<|aB (fX Z (aF.el (aF.fact 1 Z) v.1 v.2) Z) Z<|cM Z<|aM ?_;refine eV h Z (λh=>?_) λh=>?_
    ·refine cK<|aK<|aS<|aV<|bT Z<|dD 0 Z<|aA Z<|cX h λj h=>aB (bX Z Z (aF.fact 1 Z) Z Z j) Z<|aB (bW Z (aF.fact 1 Z) Z Z j) Z<|aA Z<|cX h λL h=>aB (aZ Z Z (aF.el (aF.fact 1 Z) j.1 j.2) Z Z L) Z<|aB (jA (cs:=[vI ((at' (at' a.2 b) d).1),vI ((at' (at' a.2 b) d).2)]) Z (aF.el (aF.fact 1 Z) j.1 j.2) bU Z Z Z Z L) Z<|aH (aN.alloc (cs:=VH) Z Z) Z λad=>bS 0 (vs:=[vI ((at' (at' a.2 b) d).1),vI ((at' (at' a.2 b) d).2)]) Z Z Z Z Z Z<|aM<|aV<|eK 1 Z<|bT Z<|dD 0 Z<|aA Z<|fH h λQ Y h=>aH (aN.callQ adz (NH U g i z2 Q Y) Z (oS [0,1] Z)) Z λaf=>aE Z<|aM<|aK<|dO (λm=>xD d (bJ (jZ U a b (bJ (jY U a) A)) V) m=some r) (λm G=>[(1,vP f),(3,vI (List.length a.2:Int)),(6,vI (b)),(7,vI (d)),(116,vB (m))]) (λm G=>[bV f [g,i] 28]) ?_ ?_
     ·refine JR.start [0,1,3,7,15,7,39,127,255,7,1023,2047,4095,7,8199,32767,65535] 15 mixedOrders (by decide +kernel) ?_;refine JR.open (by exact rfl) ?_;refine bG Z<|jS Z (HW Z Z)<|bG Z ?_;refine Ll (by exact rfl) (by exact rfl) (by exact rfl) (λo=>?_) (λo=>?_)
      ·have h:=LP o h;refine cO Z Z Z Z<|cO Z Z Z Z<|cO Z Z Z Z<|cO Z Z Z Z<|cO Z Z Z Z<|cO Z Z Z Z<|cO Z Z Z Z<|cO Z Z Z Z<|cO Z Z Z Z<|cO Z Z Z Z<|cO Z Z Z Z<|cO Z Z Z Z<|bP 15 Z Z<|aI Z<|dW Z<|aM ?_;exact cC (true) () h SF (a_.ix [1] Z Z) (aG.refl _ _)
      have h:=ifN o h;refine iM Z .nil .nil (dC Z Z Z Z Z) aO.z<|iM Z (a_.cons 1 Z .nil) .nil (eH 0 Z Z Z Z Z) aO.z<|iM Z .nil .nil (dC Z Z Z Z Z) aO.z<|iM Z (a_.cons 0 Z .nil) .nil (eH 0 Z Z Z Z Z) aO.z<|cX h λk h=>iM Z .nil (kA 1 Z) (bX Z Z (aF.fact 0 Z) Z Z k) aO.z<|iM Z .nil (kA 1 Z) (bW Z (aF.fact 0 Z) Z Z k) aO.z<|iM Z .nil .nil (iG Z) aO.z<|cX h λM h=>iM Z .nil (kA 1 Z) (aZ Z Z (aF.el (aF.fact 0 Z) k.1 k.2) Z Z M) aO.z<|iM Z .nil .nil (fY Z Z Z Z Z) aO.z<|iM Z .nil (kA 1 Z) (jO Z (aF.el (aF.fact 0 Z) k.1 k.2) Z Z Z Ft M) aO.z<|iM Z .nil .nil (dC Z Z Z Z Z) aO.z<|iM Z (a_.cons 0 Z .nil) .nil (eH 0 Z Z Z Z Z) aO.z<|bP 15 Z Z<|aP Z (Df Z Z) Z<|fO Z<|aM ?_;exact cC (decide (((at' (at' a.2 ((at' (at' a.2 b) d).1)) Q).2)≠((at' (at' a.2 b) d).2))) () h SF (a_.ix [1] Z Z) (aG.refl _ _)
     intro m G h;refine AZ h Z (λ_ h=>?_) λ_ h=>?_
     ·refine aV<|aE Z<|aM<|aW<|bM<|aJ<|aJ<|bM<|bM<|aJ<|aJ<|bM<|aJ ?_;cases h;exact tU Z
     refine dK<|mA<|aR<|aA Z<|cH Z<|aE Z<|aM ?_;exact xT (wI .i64 (d+(1:Int))) () h SF Z
    refine pH<|dV<|dV<|vM<|mA ?_;exact iB () (()) h SF Z
   intro s E h;unfold xB at h;refine aR<|aA Z<|cH Z<|aE Z<|aM ?_;exact xT (wI .i64 (b+(1:Int))) () h SF Z
  refine e_ ?_;exact cC () (()) h SF .nil (aG.refl _ _)
 intro T b9 h;unfold xA at h;refine aV<|aE Z<|aM<|aW ?_;cases h;exact lA Z
def qO  (a:aQ):Option aQ:=
 some (a)
def qP (b:lB) (a:rA->Option aQ) (c:aQ):Option aQ:=
 a ((wI .i64 (b.1+(1:Int))),c)
def qQ (b:lB) (a:rA->Option aQ) (c:aQ):Option aQ:=
 a ((wI .i64 (b.1+(1:Int))),c)
def nA (b:lB) (a:rA->Option aQ) (c:aQ):Option aQ:=
 a ((wI .i64 (b.1+(1:Int))),c)
def qR (f:cE) (d:lB) (b:lB) (e:rA->Option aQ) (a:lB) (c:rA->Option aQ) (g:Bool):Option aQ:=
 if g=true then(ck (0<=b.1∧b.1<(List.length f.2:Int)) (ck (0<=a.1∧a.1<(List.length (at' f.2 b.1):Int)) (ck (0<=((at' (at' f.2 b.1) a.1).1)∧((at' (at' f.2 b.1) a.1).1)<(List.length a.2:Int)) (if(at' a.2 ((at' (at' f.2 b.1) a.1).1))=(wI .i64 (d.1 - (1:Int)))then(ck (0<=b.1∧b.1<(List.length a.2:Int)) (nA a c (List.set a.2 (Int.toNat b.1) d.1)))else(nA a c (a.2))))))else(qQ b e (a.2))
def kY (f:cE) (e:lB) (a:lB) (c:rA->Option aQ) (b:lB) (d:rA->Option aQ):Option aQ:=
 ck (0<=a.1∧a.1<(List.length f.2:Int)) (if b.1<(List.length (at' f.2 a.1):Int)then(ck (0<=a.1∧a.1<(List.length b.2:Int)) (qR f e a c b d (decide ((at' b.2 a.1)<(0:Int)))))else(qR f e a c b d (false)))
def hZ (U:Nat) (e:cE) (b:lB) (c:rA->Option aQ) (a:lB) (d:rA->Option aQ):Option aQ:=
 if a.1<(List.length e.2:Int)then(bJ (kY e b a d) U ((0:Int),a.2))else(qP b c (a.2))
def eW (U:Nat) (c:cE) (a:lB) (b:rA->Option aQ):Option aQ:=
 if a.1<(List.length c.2:Int)then(bJ (hZ U c a b) U ((0:Int),a.2))else(qO  (a.2))
def vK (U:Nat) (c:cE) (a:Int) (b:aQ):Option aQ:=
 ck (0<=a∧a<(List.length b:Int)) (bJ (eW U c) U ((1:Int),(List.set b (Int.toNat a) (0:Int))))
def vL (U:Nat) (c:cE) (d:Int) (a:aQ×Int) (b:(aQ×Int)->Option aQ):Option aQ:=
 if a.2<(List.length c.2:Int)then(ck ((List.length a.1:Int)+(List.length ([(-1:Int)]):Int)<=1099511627) (b ((a.1++([(-1:Int)])),(wI .i64 (a.2+(1:Int))))))else(vK U c d (a.1))
def qN (U:Nat) (b:cE) (c:Int) (a:Bool):Option aQ:=
 if a=true then(some ([]:aQ))else(bJ (vL U b c) U (([]:aQ),(0:Int)))
def rO (U:Nat) (a:cE) (b:Int):Option aQ:=
 Option.bind (t_ U ((a.1,a.2))) λc=>(if(!c)=true then(qN U a b (true))else(Option.bind (sI U b (0:Int) (wI .i64 ((List.length a.2:Int) - (1:Int)))) λd=>(qN U a b ((!d)))))
theorem ade:aX Tryz.prog 30:=Tryz.call30
theorem GZ (U:Nat) {d:cE} {A:Int} (m:Value)  (n:Value)  (z2:k_) (r:aQ) (h:rO U d A=some r):
  aY Tryz.prog 30 #[Value.agg #[m,n],vI (A)] [Sl bO m d.1,S2 bB n z2 d.2] (λx:Value=>x) (λx l=>Ar bZ x r::l) (λ_ l=>l):=by
 refine aY.of Tryz.func30 Z Tryz.ntmps30 Z λc=>?_;refine aV<|aH (aN.box (cs:=[m,n]) Z Z) Z λi=>aE Z<|aM<|aK<|aK<|dO (λD=>qN U d A D=some r) (λD b4=>[(1,vI (A)),(2,vP i),(22,vB (D))]) (λD b4=>[bV i [m,n] 28]) ?_ ?_
 ·refine aR<|eK 0 Z<|fH h λV X h=>aH (aN.callQ adm (Lg U m n z2 V X) Z (oS [0,1] Z)) Z λac=>aB (oQ Z) Z<|aA Z ?_;refine wG (by exact rfl) (by exact rfl) (λw=>?_) (λw=>?_)
  ·have h:=LP w h;refine aI Z<|aI Z<|aI Z<|aI Z<|aI Z<|aI Z<|aI Z<|dW Z<|aM ?_;exact iB (true) () h SF Z
  have h:=Gr w h;refine cS Z<|aP Z (dC Z Z Z Z Z) Z<|aP Z (eH 0 Z Z Z Z Z) Z<|aP Z (iF Z (aF.fact 1 Z) Z) Z<|aP Z (oK Z Z) Z<|fH h λS Y h=>nF Z (aN.callQ Jz (AU U  S Y) Z .nil) Z λad=>aP Z (oQ Z) Z<|fO Z<|aM ?_;exact iB ((!S)) () h SF Z
 intro D b4 h;refine AZ h Z (λ_ h=>?_) λ_ h=>?_
 ·refine aV<|aE Z<|aM<|aW<|aJ<|jD (gQ bZ) ?_;cases h;exact gH (lC) Z Z (RV.tmp Z) (a_.ix [0] Z Z) aG.nil
 refine cK<|aV<|bT Z<|dD 0 Z<|aB (iF Z (aF.fact 1 Z) Z) Z<|aE Z<|aM<|aV<|aE Z<|aM<|aK<|DZ (B:=Value) (λC=>vK U d A C=some r) (λC g=>[(1,vI (A)),(2,vP i),(5,vI (List.length d.2:Int)),(6,g)]) (λC g=>[bV i [m,n] 28,Ar bZ g C]) ?_ ?_
 ·refine aV<|aE Z<|aM<|aS<|jD (gQ bZ)<|dU (B:=Value) (vL U d A) (λj v=>[(1,vI (A)),(2,vP i),(5,vI (List.length d.2:Int)),(6,v),(7,vI (j.2))]) (λj v=>[bV i [m,n] 28,Ar bZ v j.1]) (([]:aQ),(0:Int)) (lC) h SF (a_.ix [1,0] Z Z) ?_;intro aa j v h;refine aK<|aV<|aA Z<|aA Z<|cM Z<|aM ?_;refine eV h Z (λh=>?_) λh=>?_
  ·refine cK<|aK<|aS<|aR<|aA Z<|aH (bY (e:=bZ) ([(-1:Int)]) [(0,vI (-1:Int))] Z Z Z Z (mO (vI (-1:Int)) Z) Z Z Z) Z λab=>cX h λT h=>aH (eQ 2 dJ Z Z Z (bD (aF.res 0 Z) dJ) Z Z Z Z T Z) Z λW=>aE Z<|eI<|mA<|aR<|aA Z<|cH Z<|aE Z<|aM ?_;exact mG ((j.1++([(-1:Int)])),(wI .i64 (j.2+(1:Int)))) (W) h SF (a_.ix [1,2] Z Z) (aG.refl _ _)
  refine e_ ?_;exact iB (j.1) (v) h SF Z
 intro C g h;refine aV<|aA Z<|aA Z<|cX h λM h=>aB (aZ Z Z (bD (aF.res 1 Z) dJ) Z Z M) Z<|tW 1 (0:Int) M Z Z Z Z Z Z Z<|aM<|aK<|dO (λt=>qO  t=some r) (λt E=>[(6,g)]) (λt E=>[Ar bZ g t]) ?_ ?_
 ·refine aV<|aE Z<|aM<|aS<|dU (eW U d) (λa F=>[(2,vP i),(5,vI (List.length d.2:Int)),(6,g),(8,vI (a.1))]) (λa F=>[bV i [m,n] 28,Ar bZ g a.2]) ((1:Int),(List.set C (Int.toNat A) (0:Int))) () h SF (a_.refl _) ?_;intro k a F h;refine aK<|aV<|aA Z<|aA Z<|cM Z<|aM ?_;refine eV h Z (λh=>?_) λh=>?_
  ·refine cK<|aK<|dO (λo=>qP a (bJ (eW U d) k) o=some r) (λo G=>[(2,vP i),(5,vI (List.length d.2:Int)),(6,g),(8,vI (a.1))]) (λo G=>[bV i [m,n] 28,Ar bZ g o]) ?_ ?_
   ·refine aS<|aV<|aE Z<|aM<|aS<|dU (hZ U d a (bJ (eW U d) k)) (λb H=>[(2,vP i),(5,vI (List.length d.2:Int)),(6,g),(8,vI (a.1)),(9,vI (b.1))]) (λb H=>[bV i [m,n] 28,Ar bZ g b.2]) ((0:Int),a.2) () h SF (a_.refl _) ?_;intro y b H h;refine aK<|aV<|aA Z<|aA Z<|cM Z<|aM ?_;refine eV h Z (λh=>?_) λh=>?_
    ·refine cK<|aK<|dO (λp=>qQ b (bJ (hZ U d a (bJ (eW U d) k)) y) p=some r) (λp I=>[(2,vP i),(5,vI (List.length d.2:Int)),(6,g),(8,vI (a.1)),(9,vI (b.1))]) (λp I=>[bV i [m,n] 28,Ar bZ g p]) ?_ ?_
     ·refine aS<|aV<|aE Z<|aM<|aS<|dU (kY d a b (bJ (hZ U d a (bJ (eW U d) k)) y)) (λf J=>[(2,vP i),(5,vI (List.length d.2:Int)),(6,g),(8,vI (a.1)),(9,vI (b.1)),(10,vI (f.1))]) (λf J=>[bV i [m,n] 28,Ar bZ g f.2]) ((0:Int),b.2) () h SF (a_.refl _) ?_;intro R f J h;refine aK<|aK<|dO (λu=>qR d a b (bJ (hZ U d a (bJ (eW U d) k)) y) f (bJ (kY d a b (bJ (hZ U d a (bJ (eW U d) k)) y)) R) u=some r) (λu K=>[(2,vP i),(5,vI (List.length d.2:Int)),(6,g),(8,vI (a.1)),(9,vI (b.1)),(10,vI (f.1)),(61,vB (u))]) (λu K=>[bV i [m,n] 28,Ar bZ g f.2]) ?_ ?_
      ·refine aR<|aA Z<|bT Z<|dD 0 Z<|aA Z<|cX h λz h=>aB (bX Z Z (aF.fact 1 Z) Z Z z) Z<|aB (bW Z (aF.fact 1 Z) Z Z z) Z<|aB (fX Z (aF.el (aF.fact 1 Z) z.1 z.2) Z) Z<|cM Z<|aA Z ?_;refine Dv h Z (λ_ h=>?_) λ_ h=>?_
       ·refine cS Z<|cS Z<|cX h λQ h=>aP Z (aZ Z Z (bD (aF.res 1 Z) dJ) Z Z Q) Z<|aP Z (bQ Z (bD (aF.res 1 Z) dJ) Z Z Z cQ Q) Z<|aP Z (HW Z Z) Z<|dW Z<|aM ?_;exact iB (decide ((at' f.2 b.1)<(0:Int))) () h SF Z
       refine aI Z<|aI Z<|aI Z<|aI Z<|aI Z<|fO Z<|aM ?_;exact iB (false) () h SF Z
      intro u K h;refine AZ h Z (λ_ h=>?_) λ_ h=>?_
      ·refine cK<|aK<|dO (λq=>nA f (bJ (kY d a b (bJ (hZ U d a (bJ (eW U d) k)) y)) R) q=some r) (λq L=>[(2,vP i),(5,vI (List.length d.2:Int)),(6,g),(8,vI (a.1)),(9,vI (b.1)),(10,vI (f.1))]) (λq L=>[bV i [m,n] 28,Ar bZ g q]) ?_ ?_
       ·refine aS<|aV<|aA Z<|bT Z<|dD 0 Z<|aA Z<|cX h λs h=>aB (bX Z Z (aF.fact 1 Z) Z Z s) Z<|aB (bW Z (aF.fact 1 Z) Z Z s) Z<|aA Z<|cX h λN h=>aB (aZ Z Z (aF.el (aF.fact 1 Z) s.1 s.2) Z Z N) Z<|aB (fY Z Z Z Z Z) Z<|aB (jO Z (aF.el (aF.fact 1 Z) s.1 s.2) Z Z Z mJ N) Z<|cX h λO h=>aB (aZ Z Z (bD (aF.res 1 Z) dJ) Z Z O) Z<|aB (bQ Z (bD (aF.res 1 Z) dJ) Z Z Z cQ O) Z<|aA Z<|aB (oK Z Z) Z<|cP Z<|aM ?_;refine eV h Z (λh=>?_) λh=>?_
        ·refine aR<|aA Z<|aA Z<|aA Z<|cX h λP h=>aB (aZ Z Z (bD (aF.res 1 Z) dJ) Z Z P) Z<|tW 1 a.1 P Z Z Z Z Z Z Z<|eI<|mA ?_;exact iB (List.set f.2 (Int.toNat b.1) a.1) () h SF Z
        refine dK<|mA ?_;exact iB (f.2) () h SF Z
       intro q L h;unfold nA at h;refine aR<|aA Z<|cH Z<|aE Z<|aM ?_;exact xT ((wI .i64 (f.1+(1:Int))),q) () h SF Z
      refine pH<|dV<|dV<|vM<|mA ?_;exact iB (f.2) () h SF Z
     intro p I h;unfold qQ at h;refine aR<|aA Z<|cH Z<|aE Z<|aM ?_;exact xT ((wI .i64 (b.1+(1:Int))),p) () h SF Z
    refine pH<|dV<|dV<|vM<|mA ?_;exact iB (b.2) () h SF Z
   intro o G h;unfold qP at h;refine aR<|aA Z<|cH Z<|aE Z<|aM ?_;exact xT ((wI .i64 (a.1+(1:Int))),o) () h SF Z
  refine e_ ?_;exact cC (a.2) () h SF (a_.ix [1] Z Z) (aG.refl _ _)
 intro t E h;unfold qO at h;refine aV<|aA Z<|aE Z<|aM<|aW ?_;cases h;exact gH (g) Z Z (RV.tmp Z) (a_.refl _) aG.nil
def gZ (U:Nat) (a:cE) (b:Int):Option (Int):=
 Option.bind (rO U ((a.1,a.2)) b) λc=>(Option.bind (pY U c) λd=>(some (d)))
theorem acZ:aX Tryz.prog 14:=Tryz.call14
theorem Em (U:Nat) {d:cE} {e:Int} (a:Value)  (b:Value)  (f:k_) (r:Int) (h:gZ U d e=some r):
  aY Tryz.prog 14 #[Value.agg #[a,b],vI (e)] [Sl bO a d.1,S2 bB b f d.2] (λx:Unit=>vI (r)) (λx l=>l) (λ_ l=>l):=by
 refine aY.of Tryz.func14 Z Tryz.ntmps14 Z λc=>?_;refine aV<|aH (aN.box (cs:=[a,b]) Z Z) Z λn=>aE Z<|aM<|aV<|eK 0 Z<|aA Z<|fH h λg j h=>aH (aN.callQ ade (GZ U a b f g j) Z (oS [0,1] Z)) Z λm=>fH h λi k h=>aH (aN.callQ adc (HO U m i k) Z (aG.cons (bD (aF.res 0 Z) dJ) .nil)) Z λo=>aE Z<|aM<|aW ?_;cases h;exact tU Z
def rE  (a:Int):Option (Int):=
 some (a)
def g_ (U:Nat) (b:Int) (a:Int):Option (Int):=
 if a<(1:Int)then(some (0:Int))else(ck (a≠0) (if(Int.tmod b a)<(0:Int)then(rE  (wI .i64 ((Int.tmod b a)+a)))else(rE  (Int.tmod b a))))
theorem DL:aX Tryz.prog 23:=Tryz.call23
theorem lN (U:Nat) {d:Int} {b:Int} (r:Int) (h:g_ U d b=some r):
  aY Tryz.prog 23 #[vI (d),vI (b)] [] (λx:Unit=>vI (r)) (λx l=>l) (λ_ l=>l):=by
 refine aY.of Tryz.func23 Z Tryz.ntmps23 Z λc=>?_;refine aV<|aE Z<|aM<|aK<|aV<|aA Z<|cM Z<|aM ?_;refine eV h Z (λh=>?_) λh=>?_
 ·refine aV<|aE Z<|aM<|aW<|aJ ?_;cases h;exact lA Z
 refine cK<|aV<|aA Z<|aA Z<|cX h λf h=>aB (OF Z Z f) Z<|aE Z<|aM<|aK<|dO (λa=>rE  a=some r) (λa e=>[(0,vI (a))]) (λa e=>[]) ?_ ?_
 ·refine aV<|aA Z<|cM Z<|aM ?_;refine eV h Z (λh=>?_) λh=>?_
  ·refine aR<|aA Z<|aA Z<|cH Z<|aE Z<|aM ?_;exact iB (wI .i64 ((Int.tmod d b)+b)) () h SF Z
  refine cK ?_;exact iB (Int.tmod d b) () h SF Z
 intro a e h;unfold rE at h;refine aV<|aA Z<|aE Z<|aM<|aW ?_;cases h;exact lA Z
def sL (U:Nat) (b:aQ) (a:Int):Option (Int):=
 if a<(List.length b:Int)then(ck (0<=a∧a<(List.length b:Int)) (some (at' b a)))else(some (0:Int))
theorem Jy:aX Tryz.prog 24:=Tryz.call24
theorem AW (U:Nat) {b:aQ} {d:Int} (e:Value) (r:Int) (h:sL U b d=some r):
  aY Tryz.prog 24 #[e,vI (d)] [Sl bO e b] (λx:Unit=>vI (r)) (λx l=>l) (λ_ l=>l):=by
 refine aY.of Tryz.func24 Z Tryz.ntmps24 Z λc=>?_;refine aV<|aE Z<|aM<|aK<|aV<|aA Z<|aA Z<|kF (aF.fact 0 Z) Z<|cM Z<|aM ?_;refine eV h Z (λh=>?_) λh=>?_
 ·refine aV<|aA Z<|aA Z<|cX h λa h=>aB (aZ Z Z (aF.fact 0 Z) Z Z a) Z<|aB (bQ Z (aF.fact 0 Z) Z Z Z cQ a) Z<|aE Z<|aM<|aW<|aJ ?_;cases h;exact lA Z
 refine cK<|aV<|aE Z<|aM<|aW ?_;cases h;exact lA Z
def vE  (a:Unit):Option (Bool):=
 some (false)
def z_ (c:cE) (a:Int) (e:Int) (b:Int) (d:(Int)->Option (Bool)):Option (Bool):=
 ck (0<=a∧a<(List.length c.2:Int)) (if b<(List.length (at' c.2 a):Int)then(ck (0<=a∧a<(List.length c.2:Int)) (ck (0<=b∧b<(List.length (at' c.2 a):Int)) (if((at' (at' c.2 a) b).1)=e then(some (true))else(d (wI .i64 (b+(1:Int)))))))else(vE  (())))
def mZ (U:Nat) (a:cE) (b:Int) (c:Int):Option (Bool):=
 bJ (z_ a b c) U (0:Int)
theorem ads:aX Tryz.prog 73:=Tryz.call73
theorem KL (U:Nat) {g:cE} {i:Int} {j:Int} (k:Value)  (m:Value)  (q:k_) (r:Bool) (h:mZ U g i j=some r):
  aY Tryz.prog 73 #[Value.agg #[k,m],vI (i),vI (j)] [Sl bO k g.1,S2 bB m q g.2] (λx:Unit=>vB (r)) (λx l=>l) (λ_ l=>l):=by
 refine aY.of Tryz.func73 Z Tryz.ntmps73 Z λc=>?_;unfold mZ at h;refine aV<|aH (aN.box (cs:=[k,m]) Z Z) Z λn=>aE Z<|aM<|aK<|dO (λd=>vE  d=some r) (λd o=>[]) (λd o=>[]) ?_ ?_
 ·refine aV<|aE Z<|aM<|aS<|dU (z_ g i j) (λe p=>[(1,vI (i)),(2,vI (j)),(3,vP n),(7,vI (e))]) (λe p=>[bV n [k,m] 28]) (0:Int) () h SF (a_.refl _) ?_;intro s e p h;refine aK<|aV<|aA Z<|bT Z<|dD 0 Z<|aA Z<|cX h λf h=>aB (bX Z Z (aF.fact 1 Z) Z Z f) Z<|aB (bW Z (aF.fact 1 Z) Z Z f) Z<|aB (fX Z (aF.el (aF.fact 1 Z) f.1 f.2) Z) Z<|cM Z<|aM ?_;refine eV h Z (λh=>?_) λh=>?_
  ·refine cK<|aK<|aS<|aV<|bT Z<|dD 0 Z<|aA Z<|cX h λa h=>aB (bX Z Z (aF.fact 1 Z) Z Z a) Z<|aB (bW Z (aF.fact 1 Z) Z Z a) Z<|aA Z<|cX h λb h=>aB (aZ Z Z (aF.el (aF.fact 1 Z) a.1 a.2) Z Z b) Z<|aB (fY Z Z Z Z Z) Z<|aB (jO Z (aF.el (aF.fact 1 Z) a.1 a.2) Z Z Z mJ b) Z<|aA Z<|cP Z<|aM ?_;refine eV h Z (λh=>?_) λh=>?_
   ·refine aV<|aE Z<|aM<|aW<|bM<|aJ<|aJ<|bM<|aJ ?_;cases h;exact tU Z
   refine dK<|mA<|aR<|aA Z<|cH Z<|aE Z<|aM ?_;exact xT (wI .i64 (e+(1:Int))) () h SF Z
  refine e_ ?_;exact cC () (()) h SF .nil (aG.refl _ _)
 intro d o h;unfold vE at h;refine aV<|aE Z<|aM<|aW ?_;cases h;exact lA Z
end Go.Proofs.YtlkhndebimcbbaaGreatDoor