/- Models and proofs. Conditions: none. -/
import Derived.Test.YtemmagadjnlajaaGreatDoorZCPr1
import Derived.Maps.RangeRun
import Derived.OpenShut
import Derived.JoinedCond
import Derived.Lib.AppendZeros
set_option linter.unusedVariables false
set_option linter.unusedSimpArgs false
set_option maxHeartbeats 4000000
set_option maxRecDepth 20000
open Go.Proofs.Tryz
variable (U:Nat)
section
set_option linter.unusedSectionVars false
namespace Go.Sx
open Go.RowKit
section defs
variable {κ ν:Type} [DecidableEq κ]
def Iq (a:κ->V0) (b:ν->V0):Nat->V6 (κ×ν)->V6 MapEntry
 |_,[]=>[]
 |i,x::xs=>⟨a x.1,b x.2,i⟩::Iq a b (i+1) xs
def lM (k:κ):V6 (κ×ν)->V1 ν
 | []=>none
 |x::xs=>if k=x.1 then some x.2 else lM k xs
def zL (k:κ) (v:ν):V6 (κ×ν)->V6 (κ×ν)
 | []=>[(k,v)]
 |x::xs=>if k=x.1 then(k,v)::xs else x::zL k v xs
def UQ (a:ν->V0) (k:κ):Nat->V6 (κ×ν)->V1 (Nat×V0)
 |_,[]=>none
 |i,x::xs=>if k=x.1 then some (i,a x.2)else UQ a k (i+1) xs
theorem RE (a:ν->V0) (k:κ):∀(i:Nat) (l:V6 (κ×ν)),(UQ a k i l).map (·.2)=(lM k l).map a
 |_,[]=>rfl
 |i,x::xs=>by
  simp only[UQ,lM];split
  .rfl
  .exact RE a k (i+1) xs
theorem OI (a:κ->V0) (b:ν->V0):∀(i:Nat) (l:V6 (κ×ν)) (x:κ×ν),Iq a b i (l++[x])=Iq a b i l++[⟨a x.1,b x.2,i+l.length⟩]
 |i,[],x=>rfl
 |i,y::ys,x=>by
  simp only[List.cons_append,Iq,OI a b (i+1) ys x,zA3];rw[show i+1+ys.length=i+(ys.length+1) by omega]
theorem Mq (k:κ) (v:ν):∀l:V6 (κ×ν),lM k l=none->zL k v l=l++[(k,v)]
 | [],_=>rfl
 | x :: xs, h =>by
  simp only[lM]at h;split at h
  .cases h
  .rename_i a;simp only[zL,if_neg a,Mq k v xs h,List.cons_append]
theorem Xm (a:κ->V0) (b:ν->V0) (k:κ) (v:ν):∀(i0 i:Nat) (l:V6 (κ×ν)) (j:Nat) (u:V0),UQ b k i l=some (j,u)->
  i<=j/\((Iq a b i l)[j - i]?).map (·.key)=some (a k)/\Iq a b i (zL k v l)=(Iq a b i l).modify (j - i) (λe=>{e with key:=a k,val:=b v})/\(zL k v l).length=l.length
 |_,i,[],j,u,h=>by simp[UQ]at h
 | i0, i, x :: xs, j, u, h =>by
  simp only[UQ]at h;split at h
  .rename_i n;simp only[Option.some.injEq,Prod.mk.injEq]at h;obtain⟨rfl,_⟩:=h;simp[Iq,zL,n]
  .rename_i c;have⟨o,f,g,m⟩:=Xm a b k v i0 (i+1) xs j u h;have d:j - i=(j - (i+1))+1:=V7
   refine⟨V7,?_,?_,?_⟩
   .rw[d];simpa [Iq]using f
   .simp only[zL,if_neg c,Iq];rw[d,List.modify_succ_cons,g]
   .simp[zL,c,m]
end defs
structure Gj (P:Program) (kt:TypeId) {κ:Type} [DecidableEq κ] (ek:κ->V0):Prop where
 chk:∀b k w,(Instr.checkKey b 10000 kt (ek k)).run P w = .ok () w
 find:∀{ν:Type} (ev:ν->V0) (k:κ) (l:List (κ×ν)) w,(Instr.findKey kt (ek k) (Iq ek ev 0 l)).run P w = .ok (UQ ev k 0 l) w
 same:∀k,Instr.sameBits 10000 (ek k) (ek k)=true
def Mp {b c:Type} (d:b->V0) (e:c->V0) (r:Nat) (l:V6 (b×c)):bF where
 p w F:=F r/\w.heap[r]?=some (.map (Iq d e 0 l).toArray l.length)
 mono:=fun⟨f,a⟩ h=>by
  have⟨g,i⟩:=h r f (zA8.1 a).1;exact⟨g,by rw[i];exact a⟩
section
variable {P:Program} {rd:V1 Nat} {c:zW} {n:Sz} {σ:Fr} {M L:V6 bF} {Q:Exit->Act->V2->Prop} {ops:Array V5} {rest:V6 V5}
variable {d:V1 Tmp} {ty:V9} {pos:String} {aft:Array Edge} {g:V1 (Nat×V4)}
theorem St.push {w:V2} (t:St c M L w) (o:Obj) {m:bF} (z:m.p (w.alloc o) (λk=>k=w.heap.size)):St c (m::M) L (w.alloc o):=by
 have e:UN w (w.alloc o):=(Below.refl _ _).alloc (zAf _) _;have⟨v,F,b,x⟩:=t;have u:∀k,k<w.heap.size->(w.alloc o).heap[k]?=w.heap[k]? := e.block;refine⟨v.trans e,λi k=>match i with|0=>k=w.heap.size|i+1=>F i k,⟨?_,?_,?_⟩,λf y=>?_⟩
 .intro i A a;cases i with
  |zero=>simp at a;subst a;exact z
  |succ i=>exact bF.same (b.res i A (by simpa using a)) (λ_ h=>h) (λk _ s=>u k s)
 .intro i k q;cases i with
  |zero=>subst q;exact⟨.inl v.size,V8⟩
  |succ i=>exact⟨(b.rng i k q).1,zAw (b.rng i k q).2 e.size⟩
 .intro i j k l r;cases i with
  |zero=>
   cases j with
   |zero=>rfl
   |succ j=>have:=(b.rng j k r).2;simp only at l;omega
  |succ i=>
   cases j with
   |zero=>have:=(b.rng i k l).2;simp only at r;omega
   |succ j=>exact congrArg (· + 1) (b.dis i j k l r)
 .exact f.mono (x f y) λk q s=>⟨⟨q.1,λi l=>by
   cases i with
   |zero=>simp only at l;omega
   |succ i=>exact q.2 i l⟩,u k s⟩
variable {κ ν:Type} [DecidableEq κ] {ek:κ->V0} {ev:ν->V0}
theorem aO.makeMap (ek:κ->V0) (ev:ν->V0) {T:V9}:aO P c n σ M L ⟨d,.makeMap T none,ty,pos,aft,g⟩ (λr:Nat=>.map (some r)) (λr=>Mp ek ev r []::M) (λ_=>L):=λa w s t=>by
 have b:(execOp a.eval ⟨d,.makeMap T none,ty,pos,aft,g⟩).run P w = .ok (.value (.map (some w.heap.size))) (w.alloc (.map #[] 0)):=by
  simp[execOp,Instr.makeMap]
 simp only[Oper.wp,b,Oper.upon];exact⟨w.heap.size,rfl,t.push _ ⟨rfl,heap_alloc_new w _⟩⟩
theorem Wa [eB P] {T j m:V9} {C D E G:Nat} {z f:V0} {o:TypeDesc} {w:V2} {r:Nat} {l:V6 (κ×ν)} {F:Nat->Prop} (i:Gj P j ek) (q:(Mp ek ev r l).p w F)
  (s:eB.tab P T=some ⟨.map j m,C,D,z⟩) (t:eB.tab P m=some ⟨o,E,G,f⟩) (k:κ) (b:V4):
  (Instr.lookup T (.map (some r)) (ek k) b).run P w = .ok (if b then .tuple #[((lM k l).map ev).getD f,.bool (lM k l).isSome]else((lM k l).map ev).getD f) w:=by
 have y:(getObj r).run P w = .ok (.map (Iq ek ev 0 l).toArray l.length) w:=by
  simp[getObj,Sem.run,q.2]
 have u:=i.find ev k l w;have a:=RE ev k 0 l;simp only[Instr.lookup];simp[(eB.ok s).run_und w,y,i.chk,u];cases e:UQ ev k 0 l with
 |none=>
  rw[e]at a;have:lM k l=none:=by cases h:lM k l<;>simp[h]at a ⊢
  simp[this,(eB.ok t).run_zero w]
 | some x =>
  rw[e]at a;obtain⟨v,A,B⟩:∃v,lM k l=some v/\ev v=x.2:=by
   cases h:lM k l with
   |none=>simp[h]at a
   |some v=>simp[h]at a;exact⟨v,rfl,a.symm⟩
  simp[A,B]
theorem qS [eB P] (j:Nat) {T e f:V9} {D E G H:Nat} {z h:V0} {i:TypeDesc} {x y:V3} {r:Nat} {l:V6 (κ×ν)} (k:κ) {b:V4} (v:Gj P e ek) (B:Go.Sx.ev σ x=some (.map (some r))) (C:Go.Sx.ev σ y=some (ek k)) (q:M[j]?=some (Mp ek ev r l))
  (o:eB.tab P T=some ⟨.map e f,D,E,z⟩) (p:eB.tab P f=some ⟨i,G,H,h⟩) {u:V0} (A:((lM k l).map ev).getD h=u):
  Y P c n σ M L ⟨d,.lookup T x y b,ty,pos,aft,g⟩ (if b then .tuple #[u,.bool (lM k l).isSome]else u):=λa w s t=>by
 have⟨F,m⟩:=t.res q;subst A;simp[execOp,s.eval B,s.eval C,Wa v m o p]
theorem IV {w:V2} {r:Nat} {a:Array MapEntry} {k:Nat} (h:w.heap[r]?=some (.map a k)) (o:Obj):(setObj r o).run P w = .ok () {w with heap:=w.heap.setIfInBounds r o}:=by
 simp[setObj,Sem.run,h]
theorem St.setMap {w:V2} (t:St c M L w) {j r:Nat} {l b:V6 (κ×ν)} (f:M[j]?=some (Mp ek ev r l)) (o:Obj) (m:o = .map (Iq ek ev 0 b).toArray b.length):
  St c (M.set j (Mp ek ev r b)) L {w with heap:=w.heap.setIfInBounds r o}:=
 t.upd f Z Z Z V8 λF a _=>⟨λk _ i=>by
   rw[zAv (λe=>i (by subst e;exact a.1))],F,⟨a.1,by
    rw[zB1 (zA8.1 a.2).1,m]⟩,λ_ h=>.inl h⟩
theorem Ee [eB P] (j:Nat) {T R vt:V9} {s1 s2:Nat} {z:V0} {x y v:V3} {r:Nat} {l:V6 (κ×ν)} (k:κ) (f:ν) (C:Gj P R ek) (Y:Go.Sx.ev σ x=some (.map (some r))) (hy:Go.Sx.ev σ y=some (ek k)) (X:Go.Sx.ev σ v=some (ev f)) (K:M[j]?=some (Mp ek ev r l))
  (I:eB.tab P T=some ⟨.map R vt,s1,s2,z⟩) (h:J c n σ (M.set j (Mp ek ev r (zL k f l))) L (wpList P ops Q rest)):
  J c n σ M L (wpList P ops Q (⟨none,.mapUpdate T x y v,ty,pos,aft,none⟩::rest)):=λa w s t=>by
 refine qK Z ?_;have⟨F,E⟩:=t.res K;have N:(getObj r).run P w = .ok (.map (Iq ek ev 0 l).toArray l.length) w:=by
  simp[getObj,Sem.run,E.2]
 have b:=C.find ev k l w;have A:=RE ev k 0 l;have B:∃o:Obj,(execOp a.eval ⟨none,.mapUpdate T x y v,ty,pos,aft,none⟩).run P w = .ok .skip {w with heap:=w.heap.setIfInBounds r o}/\o = .map (Iq ek ev 0 (zL k f l)).toArray (zL k f l).length:=by
  simp only[execOp,s.eval Y,s.eval hy,s.eval X,Instr.mapUpdate];cases m:UQ ev k 0 l with
  |none=>
   rw[m]at A b;have U:lM k l=none:=by cases h:lM k l<;>simp[h]at A ⊢
   refine⟨.map (Iq ek ev 0 l++[(⟨ek k,ev f,l.length⟩:MapEntry)]).toArray (l.length+1),by simp[(eB.ok I).run_und w,N,C.chk,b,IV E.2],?_⟩
   rw[Mq k f l U,OI];simp
  | some q =>
   have⟨i,u⟩:=q;rw[m]at b;have⟨_,D,H,S⟩:=Xm ek ev k f 0 0 l i u m;rw[Nat.sub_zero]at D H;have O:(((Iq ek ev 0 l).toArray[i]?).map (·.key)).getD (ek k)=ek k:=by
    rw[List.getElem?_toArray,D];rfl
   refine⟨.map ((Iq ek ev 0 l).toArray.modify i λe=>{e with key:=ek k,val:=ev f}) l.length,?_,?_⟩
   .have G:(Instr.keyThatStays (ek k) (ek k)).run P w = .ok (ek k) w:=by simp[Instr.keyThatStays,C.same k]
    have p:(Option.map (λx=>x.key) (Iq ek ev 0 l)[i]?).getD (ek k)=ek k:=by rw[D];rfl
    simp[(eB.ok I).run_und w,N,C.chk,b,p,G,IV E.2]
   .rw[H,S];simp
 have⟨o,W,V⟩:=B;simp only[Oper.wp,W,Oper.upon];exact h _ _ s (t.setMap K o V)
end
end Go.Sx
end
section
set_option linter.unusedSectionVars false
namespace Go.Sx
open Go.RowKit Go.ChangeMaps
def It (b m a:Nat) (c:V6 Nat):bF where
 p w F:=F b/\w.heap[b]?=some (.mapIter (some m) a c.toArray a)
 mono:=fun⟨e,d⟩ h=>by
  have⟨f,g⟩:=h b e (zA8.1 d).1;exact⟨f,by rw[g];exact d⟩
section
variable {κ ν:Type} [DecidableEq κ] {ek:κ->V0} {ev:ν->V0} {R:Type}
theorem RR (ek:κ->V0) (ev:ν->V0):∀(k:Nat) (l:V6 (κ×ν)) (e:MapEntry),e∈Iq ek ev k l->∃i a,l[i]?=some a/\e=⟨ek a.1,ev a.2,k+i⟩
 |_,[],e,h=>by simp[Iq]at h
 | k, x :: xs, e, h =>by
  rcases zAi.1 h with rfl|h
  .exact⟨0,x,rfl,rfl⟩
  .have⟨i,a,b,c⟩:=RR ek ev (k+1) xs e h;exact⟨i+1,a,b,by rw[c,show k+1+i=k+(i+1) by omega]⟩
theorem RQ (ek:κ->V0) (ev:ν->V0):∀(k:Nat) (l:V6 (κ×ν)) (i:Nat) (a:κ×ν),l[i]?=some a->(⟨ek a.1,ev a.2,k+i⟩:MapEntry)∈Iq ek ev k l
 |_,[],i,a,h=>by simp at h
 |k,x::xs,0,a,h=>by simp at h;subst h;exact zAd
 |k,x::xs,i+1,a,h=>by
  have:=RQ ek ev (k+1) xs i a (by simpa using h);rw[show k+1+i=k+(i+1) by omega]at this;exact zAk _ this
theorem Ua (ek:κ->V0) (ev:ν->V0):∀(k:Nat) (l:V6 (κ×ν)),(Iq ek ev k l).map (·.born)=List.range' k l.length
 |_,[]=>rfl
 |k,x::xs=>by simp[Iq,Ua ek ev (k+1) xs,List.range'_succ]
def PF (a:κ×ν->V1 R->V1 R) (K:V1 R) (l:V6 (κ×ν)):V1 R:=l.foldr a K
def rem (l:V6 (κ×ν)) (a:V6 Nat):V6 (κ×ν):=((List.range l.length).filter (λi=> !a.contains i)).filterMap (λi=>l[i]?)
theorem QD:∀l:V6 (κ×ν),(List.range l.length).filterMap (λi=>l[i]?)=l
 | []=>rfl
 |x::xs=>by
  rw[zA3,List.range_succ_eq_map,List.filterMap_cons];simp only[List.getElem?_cons_zero,List.filterMap_map];congr 1;have:=QD xs;simpa [Function.comp_def]using this
theorem aeu (l:V6 (κ×ν)):rem l []=l:=by
 unfold rem;rw[List.filter_eq_self.2 V8,QD]
theorem abA {l:V6 (κ×ν)} {a:V6 Nat} {i:Nat} {m:κ×ν} (k:l[i]?=some m) (t:i∉a):∃n o,rem l a=n++m::o/\rem l (a++[i])=n++o:=by
 have g:=bM k;have d:i∈(List.range l.length).filter (λi=> !a.contains i):=by simp[g,t]
 have⟨A,B,b⟩:=List.append_of_mem d;have c:((List.range l.length).filter (λi=> !a.contains i)).Nodup:=List.Pairwise.filter _ List.nodup_range;rw[b]at c;have r:i∉A:=λh=>by
  have:=(List.nodup_append.1 c).2.2 i h i zAd;exact this Z
 have s:i∉B:=λh=>by
  have:=(List.nodup_cons.1 (List.nodup_append.1 c).2.1).1;exact this h
 refine⟨A.filterMap (λi=>l[i]?),B.filterMap (λi=>l[i]?),?_,?_⟩
 .unfold rem;rw[b,List.filterMap_append,List.filterMap_cons,k]
 .unfold rem;have e:(List.range l.length).filter (λj=> !(a++[i]).contains j)=((List.range l.length).filter (λj=> !a.contains j)).filter (λj=>decide (j≠i)):=by
   rw[List.filter_filter];apply List.filter_congr;intro j _;rw[Bool.eq_iff_iff];simp[and_comm]
  rw[e,b,List.filter_append,List.filter_cons];have p:A.filter (λj=>decide (j≠i))=A:=List.filter_eq_self.2 (λj f=>by simp;rintro rfl;exact r f);have q:B.filter (λj=>decide (j≠i))=B:=List.filter_eq_self.2 (λj f=>by simp;rintro rfl;exact s f);rw[p,q,List.filterMap_append.symm];simp
theorem QC {c:κ×ν->V1 R->V1 R} (f:∀a b x,c a (c b x)=c b (c a x)) (K:V1 R) (d:κ×ν) (e:V6 (κ×ν)):∀g:V6 (κ×ν),PF c K (g++d::e)=c d (PF c K (g++e))
 | []=>rfl
 |x::xs=>by
  have:=QC f K d e xs;unfold PF at this ⊢;rw[List.cons_append,List.cons_append,List.foldr_cons,List.foldr_cons,this,f]
end
section
variable {P:Program} {rd:V1 Nat} {c:zW} {n:Sz} {σ σ':Fr} {M L M' L':V6 bF} {Q:Exit->Act->V2->Prop} {ops:Array V5} {rest:V6 V5}
variable {d:V1 Tmp} {ty:V9} {pos:String} {aft:Array Edge} {g:V1 (Nat×V4)}
variable {κ ν:Type} [DecidableEq κ] {ek:κ->V0} {ev:ν->V0} {R:Type}
theorem aO.range [eB P] (j:Nat) {T f h:V9} {q r:Nat} {z:V0} {x:V3} {m:Nat} {l:V6 (κ×ν)} (p:Go.Sx.ev σ x=some (.map (some m))) (o:M[j]?=some (Mp ek ev m l)) (k:eB.tab P T=some ⟨.map f h,q,r,z⟩):
  aO P c n σ M L ⟨d,.range T x,ty,pos,aft,g⟩ (λb:Nat=>.pointer (some ⟨b,0,none⟩)) (λb=>It b m l.length []::M) (λ_=>L):=λa w s t=>by
 have⟨F,i⟩:=t.res o;have e:(execOp a.eval ⟨d,.range T x,ty,pos,aft,g⟩).run P w = .ok (.value (.pointer (some ⟨w.heap.size,0,none⟩))) (w.alloc (.mapIter (some m) l.length #[] l.length)):=by
  simp[execOp,s.eval p,run_range_map w T f h m _ _ (eB.ok k).und i.2]
 simp only[Oper.wp,e,Oper.upon];exact⟨w.heap.size,rfl,t.push _ ⟨rfl,heap_alloc_new w _⟩⟩
def La (ek:κ->V0) (ev:ν->V0) (l:V6 (κ×ν)):V1 Nat->V0
 |none=>.tuple #[.bool false]
 |some i=>match l[i]? with
  |some a=>.tuple #[.bool true,ek a.1,ev a.2]
  |none=>undef
def ahJ (b:Nat) (a:V6 Nat):V1 Nat->Prop
 |none=>∀i,i<b->i∈a
 |some i=>i<b/\i∉a
def XC (M:V6 bF) (f b m e:Nat) (a:V6 Nat):V1 Nat->V6 bF
 |none=>M
 |some i=>M.set f (It b m e (a++[i]))
theorem St.pureL {w:World} {p:Prop} (hp:p) (t:St c M L w):St c M (afQ p::L) w:=by
 obtain⟨ho,F,hF,hL⟩:=t;refine⟨ho,F,hF,λf hf=>?_⟩
 rcases zAi.1 hf with rfl|hf
 .exact hp
 .exact hL f hf
theorem aO.next (jm ji:Nat) {x:Operand} {b m:Nat} {l:List (κ×ν)} {seen:List Nat} (hx:Go.Sx.ev σ x=some (.pointer (some ⟨b,0,none⟩))) (hf:M[jm]?=some (Mp ek ev m l)) (hi:M[ji]?=some (It b m l.length seen)):
  aO P c n σ M L ⟨d,.next x false,ty,pos,aft,g⟩ (La ek ev l) (XC M ji b m l.length seen) (λo=>afQ (ahJ l.length seen o)::L):=λa w s t=>by
 obtain⟨F,hF⟩:=t.res hf;obtain⟨G,hG⟩:=t.res hi;have hold:∀e∈(Iq ek ev 0 l).toArray.toList,e.born<l.length:=λe he=>by
  obtain⟨i,kv,h1,h2⟩:=RR ek ev 0 l e (by simpa using he);rw[h2];have:=bM h1;simp;omega
 rcases run_next_at (P:=P) w ty b m l.length l.length seen.toArray (Iq ek ev 0 l).toArray l.length hG.2 hF.2 hold (zAf _)with⟨h0,hr⟩|⟨e,he,w1,hw1,hr⟩
 .have hrun:(execOp a.eval ⟨d,.next x false,ty,pos,aft,g⟩).run P w = .ok (.value (.tuple #[.bool false])) w:=by
   simp[execOp,s.eval hx,hr]
  simp only[Oper.wp,hrun,Oper.upon];refine⟨none,rfl,t.pureL λi hi'=>?_⟩
  obtain⟨kv,hkv⟩:∃kv,l[i]?=some kv:=⟨_,zA1 hi'⟩
  have:=all_seen _ _ h0 _ (by simpa using RQ ek ev 0 l i kv hkv);simpa using this
 .have hml:=_root_.Go.mem_left he;obtain⟨i,kv,h1,h2⟩:=RR ek ev 0 l e (by simpa using hml.1);subst h2;rw[zB3]at hr hml;have hrun:(execOp a.eval ⟨d,.next x false,ty,pos,aft,g⟩).run P w = .ok (.value (.tuple #[.bool true,ek kv.1,ev kv.2])) (setBlock w1 b (.mapIter (some m) l.length (seen.toArray.push i) l.length)):=by
   simp[execOp,s.eval hx,hr]
  simp only[Oper.wp,hrun,Oper.upon];have t1:St c M L w1:=by
   rcases hw1 with rfl|rfl
   .exact t
   .exact t.ext ((Below.refl _ _).drew)
  refine⟨some i,by simp[La,h1],St.pureL ⟨bM h1,by simpa using hml.2⟩ ?_⟩
  refine t1.upd hi Z Z Z (by simp[setBlock]) λF hF _=>⟨λk _ hk=>?_,F,⟨hF.1,?_⟩,λ_ h=>.inl h⟩
  .simp only[setBlock];rw[zAv (λe=>hk (by subst e;exact hF.1))]
  .simp only[setBlock];rw[zB1 (zA8.1 hF.2).1];simp
theorem aO.entry (A z:Nat) {x:V3} {b m i:Nat} {l:V6 (κ×ν)} {f:V6 Nat} {e:κ×ν} (j:l[i]?=some e) (y:Go.Sx.ev σ x=some (.pointer (some ⟨b,0,none⟩))) (q:M[A]?=some (Mp ek ev m l)) (r:M[z]?=some (It b m l.length (f++[i]))):
  aO P c n σ M L ⟨d,.entry x,ty,pos,aft,g⟩ (λ_:Unit=>.tuple #[ek e.1,ev e.2]) (λ_=>M) (λ_=>L):=λa w s t=>by
 have⟨F,o⟩:=t.res q;have⟨G,p⟩:=t.res r;have k:=RQ ek ev 0 l i e j;rw[zB3]at k;have u:((Iq ek ev 0 l).toArray.toList.map (·.born)).Nodup:=by
  simp only[Ua];exact List.nodup_range'
 have v:=run_entry_at (P:=P) w b m l.length f.toArray (Iq ek ev 0 l).toArray l.length ⟨ek e.1,ev e.2,i⟩ (by rw[p.2];simp) o.2 (by simpa using k) u;have h:(execOp a.eval ⟨d,.entry x,ty,pos,aft,g⟩).run P w = .ok (.value (.tuple #[ek e.1,ev e.2])) w:=by
  simp[execOp,s.eval y,v]
 simp only[Oper.wp,h,Oper.upon];exact⟨(),by first|rfl|trivial,t⟩
theorem acu {G:Act->V2->Prop} (σ':Fr) (M' L':V6 bF) (f:Ej σ σ') (e:aW M M') (b:aE [] L L') (h:J c n σ' M' L' G):J c n σ M L G:=λa w s t=>h a w (s.weak f) (t.weakE e b)
theorem Vd {e:V9} {d:TypeDesc} (p:P.underlying e=some d) (m:∀b k w,(Instr.checkKey b 10000 e (ek k)).run P w = .ok () w) (o:∀a b,Instr.sameNow d (ek a) (ek b)=none)
  (r:∀a b w,(Op.equal e (ek a) (ek b)).run P w = .ok (decide (a=b)) w) (f:∀k,Instr.sameBits 10000 (ek k) (ek k)=true):Gj P e ek:=by
 refine⟨m,λ{ν'} ev' k l w=>?_,f⟩
 have j:∀(l:V6 (κ×ν')) (i:Nat),(Instr.findAsking e (ek k) (Iq ek ev' i l) i).run P w = .ok (UQ ev' k i l) w:=by
  intro l
  induction l with
  |nil=>intro i;simp[Iq,UQ,Instr.findAsking]
  |cons x q t=>
   intro i;simp only[Iq,UQ,Instr.findAsking];simp[r];by_cases h:k=x.1
   .simp[h]
   .simp[h,t]
 unfold Instr.findKey;cases l with
 |nil=>simp[Iq,UQ,Instr.findNow,run_underlying p w]
 |cons x q=>
  have s:Instr.findNow d (ek k) (Iq ek ev' 0 (x::q)) 0=none:=by simp[Iq,Instr.findNow,o]
  simp[run_underlying p w,s,j]
theorem Gj.plain {j:V9} {d:TypeDesc} (p:P.underlying j=some d) (f:∀b k w,(Instr.checkKey b 10000 j (ek k)).run P w = .ok () w) (m:∀a b,Instr.sameNow d (ek a) (ek b)=some (decide (a=b)))
  (e:∀k,Instr.sameBits 10000 (ek k) (ek k)=true):Gj P j ek:=by
 refine⟨f,λ{ν'} ev' k l w=>?_,e⟩
 have o:∀(l:V6 (κ×ν')) (i:Nat),Instr.findNow d (ek k) (Iq ek ev' i l) i=some (UQ ev' k i l):=by
  intro l
  induction l with
  |nil=>intro i;simp[Iq,UQ,Instr.findNow]
  |cons x r q=>
   intro i;simp only[Iq,UQ,Instr.findNow,m];by_cases h:k=x.1
   .simp[h]
   .simp[h,q]
 unfold Instr.findKey;simp[run_underlying p w,o]
def ZG {R:Type} (c:zW) (n:Sz) (σ:Fr) (M L:V6 bF) (x:V1 R) (r:R) (a:Act) (w:V2):Prop:=x=some r/\Kl n σ a/\St c M L w
theorem Va {R:Type} {x:V1 R} {r:R} (h:x=some r) (e:Ej σ' σ) (b:aW M' M) (a:aE [] L' L):J c n σ' M' L' (ZG c n σ M L x r):=λ_ _ s t=>⟨h,s.weak e,t.weakE b a⟩
theorem Yi (p:κ×ν->V1 R->V1 R) {K:V1 R} {r:R} (O s:Nat) {b m:Nat} {l:V6 (κ×ν)} (hc:∀a b x,p a (p b x)=p b (p a x)) (h:PF p K l=some r)
  (hf:M[O]?=some (Mp ek ev m l)) (U:M[s]?=some (It b m l.length [])) (af:Nat.beq s O=false) {t0 S T:Tmp} (hx:lk σ t0=some (.pointer (some ⟨b,0,none⟩))) (ab:Nat.blt S n.sz=true) (E:Nat.blt T n.sz=true)
  {id ex:Nat} {y1 y2:V9} {q1 q2:String} {f1 f2:Array Edge} {y:Code}
  (C:∀(t:κ×ν) (i:Nat) (k:V6 Nat) (x:V1 R),l[i]?=some t->p t x=some r->
   J c n ((T,.bool true)::(S,.tuple #[.bool true,ek t.1,ev t.2])::σ) (M.set s (It b m l.length (k++[i]))) L (y.wpr rd P (Exit.then (ZG c n σ (M.set s (It b m l.length (k++[i]))) L x r) Q)))
  (V:∀k,K=some r->J c n ((T,.bool false)::(S,.tuple #[.bool false])::σ) (M.set s (It b m l.length k)) L (Q (.exit ex))):
  J c n σ M L ((Code.loop (Code.seq (Code.region id [⟨some S,.next (.tmp t0) false,y1,q1,f1,none⟩,⟨some T,.extract (.tmp S) 0,y2,q2,f2,none⟩].toArray false) (Code.seq (Code.cond (.tmp T) .skip (.exit ex)) y))).wpr rd P Q):=by
 have z:=bM U;have ae:O≠s:=λe=>by subst e;simp at af
 have H:M.set s (It b m l.length [])=M:=by
  apply List.ext_getElem?;intro q;by_cases eq:q=s
  .subst eq;rw[zAh z,U]
  .rw[zAu (Ne.symm eq)]
 refine Zy (X:=V6 Nat) (λk=>k.Nodup/\(∀i∈k,i<l.length)/\PF p K (rem l k)=some r) (λ_=>σ) (λk=>M.set s (It b m l.length k)) (λ_=>L) (λk=>l.length - k.length) [] ⟨List.nodup_nil,V8,by rw[aeu];exact h⟩ (Ej.refl _) (by rw[H];exact aW.refl _) (λ_ h=>h) ?_;rintro k ⟨G,F,v⟩;have ac:(M.set s (It b m l.length k))[O]?=some (Mp ek ev m l):=by rw[zAu (Ne.symm ae)];exact hf
 have ad:(M.set s (It b m l.length k))[s]?=some (It b m l.length k):=zAh z;refine aI (aL (aK (aO.next O s (x:= .tmp t0) hx ac ad) ab λo=>?_));refine afO zAd λho=>afP (M':=XC (M.set s (It b m l.length k)) s b m l.length k o) (L':=L) ?_ (Ej.refl _) (aW.refl _) (λf hf=>zAk _ hf);cases o with
 | none =>
  refine aC (CZ (vs:=[.bool false]) (by simp[La,lk,Go.Sx.ev]) Z) E (dK (HD (aI (Np (by simp[lk,Go.Sx.ev]) (uS (gY (gY ?_)))))));refine V k ?_;have:rem l k=[]:=by
   unfold rem;rw[List.filter_eq_nil_iff.2 (λi U=>by simpa using ho i (by simpa using U))];rfl
  rw[this]at v;exact v
 | some i =>
  have⟨W,Y⟩:=ho;obtain⟨t,A⟩:∃t,l[i]?=some t:=⟨_,zA1 W⟩
  have N:La ek ev l (some i) = .tuple #[.bool true,ek t.1,ev t.2]:=by simp[La,A]
  have⟨l1,l2,e1,e2⟩:=abA A Y;have B:p t (PF p K (rem l (k++[i])))=some r:=by
   rw[e2,<-QC hc K t l2 l1,<-e1];exact v
  have aa:XC (M.set s (It b m l.length k)) s b m l.length k (some i)=M.set s (It b m l.length (k++[i])):=by simp[XC]
  rw[N,aa];refine aC (CZ (vs:=[.bool true,ek t.1,ev t.2]) (by simp[lk,Go.Sx.ev]) Z) E (dK (HD (aI (WA (by simp[lk,Go.Sx.ev]) (cZ (HD ?_))))));refine Zz (C t i k _ A B) λa w hw=>LE (λe a' w' q=>?_) hw;cases e with
  | normal =>
   have⟨ai,ag,ah⟩:=q;refine⟨k++[i],⟨?_,?_,ai⟩,?_,ag,ah⟩
   .rw[List.nodup_append];exact⟨G,V8,λa ha b D=>by simp at D;subst D;rintro rfl;exact Y ha⟩
   .intro j u;rcases zAx.1 u with u|u
    .exact F j u
    .simp at u;subst u;exact W
   .have:k.length<l.length:=by
     have I:(k++[i]).length<=(List.range l.length).length:=by
      apply List.Nodup.length_le_of_subset
      .rw[List.nodup_append];exact⟨G,V8,λa ha b D=>by simp at D;subst D;rintro rfl;exact Y ha⟩
      .intro j u;rcases zAx.1 u with u|u
       .simpa using F j u
       .simp at u;subst u;simpa using W
     simp at I;omega
    simp;omega
  |exit id=>exact q
  |goto l=>exact q
  |ret=>exact q
  |panic ch=>exact q
  |outgrown=>exact q
end
end Go.Sx
end
namespace Go.Sx
open Go.RowKit
section
variable {P:Program} {rd:V1 Nat} {c:zW} {n:Sz} {σ σ':Fr} {M L M' L':V6 bF} {Q:Exit->Act->V2->Prop} {ops:Array V5} {rest:V6 V5} {K:Act->V2->Prop} {G:Act->V2->Prop}
variable {d:V1 Tmp} {D:Nat} {ty:V9} {pos:String} {aft:Array Edge} {g:V1 (Nat×V4)}
variable {α β:Type} {e:iW α} {r:iN α}
def jT (P:Program) (f:FuncId) (a:Array V0) (Min L:V6 bF) {A:Type} (b:A->V0) (h:A->V6 bF->V6 bF):Prop:=
 ∀c:zW,St c Min L c.w0->Calls P f a c.w0 λe i=>∃x:A,e = .returned (b x)/\St c (h x []) [] i
theorem jT.of {A:Type} {b:A->V0} {q:A->V6 bF->V6 bF} {f:FuncId} {i:Func} {a:Code} {vs:V6 V0} {m:Nat} {Min:V6 bF}
  (u:P.funcs[f]?=some i) (s:i.body=some a) (x:i.ntmps=m) (w:Nat.ble vs.length m=true)
  (h:∀c:zW,J c ⟨m,[]⟩ (BM 0 vs) Min L (a.wpr none P (kE P i (Rc c b q (λ_ l=>l))))):jT P f vs.toArray Min L b q:=λc t=>by
 have o:vs.length<=m:=by simpa using w
 refine zA u s (h c _ _ ⟨rfl,by simp[x,o],?_⟩ t);intro t v y;have⟨_,j⟩:=IS vs 0 t v y;rw[Nat.sub_zero]at j;have p:t<vs.length:=by
  rcases zAy t vs.length with k|k
  .exact k
  .rw[zAs k]at j;cases j
 rw[zB6 (by simpa using p)];simpa using j
theorem Tl {w S:V2} {l H v:V6 bF} {F:Nat->Nat->Prop} {U:Nat->Prop} (y:HE c.O c.w0 w) (o:Own c w (l++H) F) (Y:∀f∈L,f.p w (HB c F))
  (t:St ⟨w,U,λk=>∃i,i<l.length/\F i k⟩ v [] S):St c (v++H) L S:=by
 have⟨s,T,u,_⟩:=t;have C:=s.size;have x:∀k,k<w.heap.size->(∀i,i<l.length->¬F i k)->S.heap[k]?=w.heap[k]? := λk a hn=>s.block k a (fun⟨i,B,o⟩=>hn i B o);have b:∀i k,T i k->w.heap.size<=k\/∃j,j<l.length/\F j k:=λi k a=>(u.rng i k a).1;refine⟨⟨s.os.trans y.os,s.tape.trans y.tape,s.output.trans y.output,zAz y.size C,λk a W=>?_⟩,
  λi k=>(i<v.length/\T i k)\/(v.length<=i/\F (i - v.length+l.length) k),⟨?_,?_,?_⟩,λf hf=>?_⟩
 .refine(x k (zAw a y.size) (λi _ I=>?_)).trans (y.block k a W);rcases(o.rng i k I).1 with h|h
  .omega
  .exact W h
 .intro i m E;by_cases B:i<v.length
  .rw[zAe B]at E;exact bF.same (u.res i m E) (λk a=>.inl ⟨B,a⟩) (λ_ _ _=>rfl)
  .rw[zA9 V7]at E;have R:(l++H)[i - v.length+l.length]?=some m:=by
    rw[zA9 V7,Nat.add_sub_cancel];exact E
   exact bF.same (o.res _ m R) (λk a=>.inr ⟨V7,a⟩) (λk a N=>x k N (λj X J=>by have:=o.dis _ _ k J a;omega))
 .rintro i k (⟨_,a⟩|⟨_,a⟩)
  .refine⟨?_,(u.rng i k a).2⟩
   rcases b i k a with h|⟨j,_,h⟩
   .exact .inl (zAz y.size h)
   .exact(o.rng j k h).1
  .exact⟨(o.rng _ k a).1,zAw (o.rng _ k a).2 C⟩
 .rintro i j k (⟨B,z⟩|⟨B,z⟩) (⟨X,A⟩|⟨X,A⟩)
  .exact u.dis i j k z A
  .rcases b i k z with h|⟨q,hq,h⟩
   .have:=(o.rng _ k A).2;omega
   .have:=o.dis _ _ k h A;omega
  .rcases b j k A with h|⟨q,hq,h⟩
   .have:=(o.rng _ k z).2;omega
   .have:=o.dis _ _ k h z;omega
  .have:=o.dis _ _ k z A;omega
 .refine f.mono (Y f hf) λk a N=>⟨⟨a.1,?_⟩,x k N (λi _=>a.2 i)⟩
  rintro i (⟨_,h⟩|⟨_,h⟩)
  .rcases b i k h with V|⟨q,_,V⟩
   .omega
   .exact a.2 q V
  .exact a.2 _ h
theorem Ql {w:V2} {a u t:V6 bF} {F:Nat->Nat->Prop} (o:Own c w (a++u) F) (y:∀f∈L,f.p w (HB c F)) (B:aE u L t):
  St ⟨w,λk=>∀i,i<a.length->¬F i k,λk=>∃i,i<a.length/\F i k⟩ a t w:=by
 refine⟨HE.refl _,λi k=>i<a.length/\F i k,⟨λi m s=>?_,λi k b=>⟨.inr ⟨i,b⟩,(o.rng i k b.2).2⟩,λi j k v x=>o.dis i j k v.2 x.2⟩,λf z=>?_⟩
 .have l:i<a.length:=by
   rcases zAy i a.length with q|q
   .exact q
   .rw[zAs q]at s;cases s
  exact bF.same (o.res i m (by rw[zAe l];exact s)) (λk b=>⟨l,b⟩) (λ_ _ _=>rfl)
 .refine B f z w (HB c F) (λj k=>F (j+a.length) k) _ y (λj m A=>?_) (λk b=>?_) (λj k b=>?_)
  .exact o.res _ m (by rw[zA9 V7,Nat.add_sub_cancel];exact A)
  .exact⟨.inl λi _=>b.2 i,λi l=>b.2 i l.2⟩
  .exact⟨.inl λi l h=>by have:=o.dis _ _ k h b;omega,λi l=>by have:=o.dis _ _ k l.2 b;omega⟩
theorem c_ {A:Type} {k:A->V0} {m:A->V6 bF->V6 bF} {f:FuncId} {p:V6 V3} {vs:V6 V0} {b:Array V9} {q Min Mr:V6 bF} (z:aX P f)
  (C:jT P f vs.toArray Min q k m) (H:p.map (ev σ)=vs.map some) (y:aW M (Min++Mr)) (v:aE Mr L q) (o:∀x l,m x l=m x []++l):
  aO P c n σ M L ⟨d,.call ⟨.value (.func f),p.toArray,b⟩,ty,pos,aft,g⟩ k (λx=>m x Mr) (λ_=>L):=λa w s t=>by
 have j:(execOp a.eval ⟨d,.call ⟨.value (.func f),p.toArray,b⟩,ty,pos,aft,g⟩).run P w = .ok (.enter f vs.toArray) w:=by
  have e:=evs s H;simp[execOp,resolve,Act.eval,Deferred.ofValue,invoke,z _ w,e]
 simp only[Oper.wp,j,Oper.upon];have⟨B,F,u,i⟩:=t.weak (L':=L) y (λ_ h=>h);refine(C _ (Ql u i v)).mono ?_;rintro e I ⟨x,rfl,E⟩;refine⟨x,rfl,?_⟩
 rw[o];exact Tl B u i E
theorem qH {A:Type} {k:A->V0} {m:A->V6 bF->V6 bF} {f:FuncId} {t:Tmp} {q:V6 V3} {vs cs:V6 V0} {b:Array V9} {u Min Mr:V6 bF} (C:aX P f)
  (p:lk σ t=some (.func (.func f) #[] cs.toArray)) (H:jT P f (vs++cs).toArray Min u k m) (I:q.map (ev σ)=vs.map some) (B:aW M (Min++Mr)) (z:aE Mr L u) (o:∀x l,m x l=m x []++l):
  aO P c n σ M L ⟨d,.call ⟨.value (.tmp t),q.toArray,b⟩,ty,pos,aft,g⟩ k (λx=>m x Mr) (λ_=>L):=λa w s J=>by
 have j:(execOp a.eval ⟨d,.call ⟨.value (.tmp t),q.toArray,b⟩,ty,pos,aft,g⟩).run P w = .ok (.enter f (vs++cs).toArray) w:=by
  have e:=evs s I;have y:a.eval (.tmp t) = .func (.func f) #[] cs.toArray:=s.eval (x:= .tmp t) p;simp[execOp,resolve,y,Deferred.ofValue,invoke,C _ w,e]
 simp only[Oper.wp,j,Oper.upon];have⟨E,F,v,i⟩:=J.weak (L':=L) B (λ_ h=>h);refine(H _ (Ql v i z)).mono ?_;rintro e N ⟨x,rfl,p⟩;refine⟨x,rfl,?_⟩
 rw[o];exact Tl E v i p
def ZI {A B:Type} (c:zW) (C:A->Prop) (a:A->B->V0) (f b:A->B->V6 bF) (e:Ending) (w:V2):Prop:=∃x y,C x/\e = .returned (a x y)/\St c (f x y) (b x y) w
theorem Ox {j:Func} {a:V6 V0} {m:Nat} (l:j.ntmps=m) (k:Nat.ble a.length m=true):Kl ⟨m,[]⟩ (BM 0 a) {tmps:=a.toArray++Array.replicate (j.ntmps - a.toArray.size) undef,defers:=[]}:=by
 have h:a.length<=m:=by simpa using k
 refine⟨rfl,by simp[l,h],?_⟩
 intro t v o;have⟨_,b⟩:=IS a 0 t v o;rw[Nat.sub_zero]at b;have i:t<a.length:=by
  rcases zAy t a.length with f|f
  .exact f
  .rw[zAs f]at b;cases b
 rw[zB6 (by simpa using i)];simpa using b
structure BB (P:Program) (c:zW) (n:Sz) (σ:Fr) (M L:List bF) (o:Oper) (f:FuncId) (vs:List V0):Prop where
 run:∀a w,Kl n σ a->St c M L w->(execOp a.eval o).run P w = .ok (.enter f vs.toArray) w
theorem BB.fn {f:FuncId} {xs:V6 V3} {vs:V6 V0} {b:Array V9} (h:aX P f) (i:xs.map (ev σ)=vs.map some):BB P c n σ M L ⟨d,.call ⟨.value (.func f),xs.toArray,b⟩,ty,pos,aft,g⟩ f vs:=⟨λa w s _=>by
 have e:=evs s i;simp[execOp,resolve,Act.eval,Deferred.ofValue,invoke,h _ w,e]⟩
def Kk (P:Program) (c:zW) (n:Sz) (σ:Fr) (M L:V6 bF) (b:Func) (v:V0):Prop:=∀a w,Kl n σ a->St c M L w->(results b a.tmps).run P w = .ok v w
variable {fn:Func}
theorem Kk.r0 (b:fn.results = #[]):Kk P c n σ M L fn (.tuple #[]):=λa w _ _=>by simp[results,b]
theorem Kk.r1 {f:ResultVar} {h:V0} (b:fn.results = #[f]) (i:RV P c n σ M L f h):Kk P c n σ M L fn h:=λa w s t=>by
 have:=i a w s t;simp only[Dg,b];simp[this]
theorem Kk.r2 {i j:ResultVar} {k l:V0} (b:fn.results = #[i,j]) (f:RV P c n σ M L i k) (h:RV P c n σ M L j l):Kk P c n σ M L fn (.tuple #[k,l]):=λa w s t=>by
 have f:=f a w s t;have h:=h a w s t;simp only[Dg,b];simp[f,h]
theorem uT {A B:Type} {m:Sz} {v:V0} {f:Exit} {C:A->Prop} {b:A->B->V0} {k j:A->B->V6 bF} (x:A) (y:B) (l:C x) (i:f = .ret\/f = .normal) (q:Kk P c m σ' M L fn v) (u:v=b x y) (p:aW M (k x y)) (o:aE [] L (j x y)) (h:m.ds=[]:=by rfl):
  J c m σ' M L (kE P fn (ZI c C b k j) f):=λa w s t=>by
 exact body_end i (s.defers.trans h) (q a w s t) ⟨x,y,l,by rw[u],t.weakE p o⟩
end
section
variable {P:Program} {rd:V1 Nat} {c:zW} {n:Sz} {σ σ':Fr} {M L M' L':V6 bF} {Q:Exit->Act->V2->Prop} {ops:Array V5} {rest:V6 V5} {K:Act->V2->Prop} {G:Act->V2->Prop}
variable {d:V1 Tmp} {D:Nat} {ty:V9} {pos:String} {aft:Array Edge} {g:V1 (Nat×V4)}
variable {α β:Type} {e:iW α} {r:iN α}
theorem Tp (i:Nat) {k:Int} {vs:V6 V0} {xss:V6 (V6 α)} (E:M[i]?=some (sR e vs xss)) (h:0<=k/\k<xss.length):
  jG M L (Ar e (at' vs k) (at' xss k)::M.set i (sR e (vs.set k.toNat (.slice none 0 0)) (xss.set k.toNat []))) L:=λc w t=>by
 have⟨X,F,s,W⟩:=t;have⟨A,G,U,u,O⟩:=s.res i _ E;have R:k.toNat<vs.length:=V7
 have S:i<M.length:=(List.getElem?_eq_some_iff.1 E).1;have B:=U k.toNat _ _ (jI h.1 V7) (jI h.1 h.2);refine⟨X,λj q=>match j with|0=>G k.toNat q|j+1=>(j=i/\∃p,p≠k.toNat/\G p q)\/(j≠i/\F j q),⟨?_,?_,?_⟩,λf E=>?_⟩
 .intro j m y;cases j with
  |zero=>simp at y;subst y;exact B
  | succ j =>
   rw[List.getElem?_cons_succ]at y;by_cases N:j=i
   .subst N;rw[zAh S]at y;cases y;refine⟨by simp[A],λp q=>p≠k.toNat/\G p q,λp v V H I=>?_,λp q a=>.inl ⟨rfl,p,a⟩,λT C q b l=>O _ _ q b.2 l.2⟩
    by_cases x:p=k.toNat
    .subst x;rw[zAh R]at H;rw[zAh V7]at I;cases H;cases I;exact⟨V8,rfl,.inl ⟨rfl,rfl⟩⟩
    .rw[zAu (Ne.symm x)]at H I;exact bF.same (f:=Ar e v V) (U p v V H I) (λq a=>⟨x,a⟩) (λ_ _ _=>rfl)
   .rw[zAu (Ne.symm N)]at y;exact bF.same (s.res j m y) (λq a=>.inr ⟨N,a⟩) (λ_ _ _=>rfl)
 .intro j q a;cases j with
  |zero=>exact s.rng i q (u _ q a)
  |succ j=>
   rcases a with⟨_,p,_,a⟩|⟨_,a⟩
   .exact s.rng i q (u _ q a)
   .exact s.rng j q a
 .intro T C q b l;cases T with
  | zero =>
   cases C with
   |zero=>rfl
   |succ C=>
    rcases l with⟨_,p,o,l⟩|⟨o,l⟩
    .exact absurd (O _ _ q l b) o
    .exact absurd (s.dis _ _ q l (u _ q b)) o
  | succ T =>
   cases C with
   |zero=>
    rcases b with⟨_,p,o,b⟩|⟨o,b⟩
    .exact absurd (O _ _ q b l) o
    .exact absurd (s.dis _ _ q b (u _ q l)) o
   |succ C=>
    congr 1;rcases b with⟨J,p,_,b⟩|⟨J,b⟩<;>rcases l with⟨x,Y,_,l⟩|⟨x,l⟩
    .rw[J,x]
    .exact absurd (s.dis _ _ q l (u _ q b)) x
    .exact absurd (s.dis _ _ q b (u _ q l)) J
    .exact s.dis _ _ q b l
 .refine bF.same (W f E) (λq a=>⟨a.1,λj z=>?_⟩) (λ_ _ _=>rfl);cases j with
  |zero=>exact a.2 i (u _ q z)
  |succ j=>
   rcases z with⟨_,p,_,z⟩|⟨_,z⟩
   .exact a.2 i (u _ q z)
   .exact a.2 j z
theorem Tm (i j:Nat) {u:V0} {k:Int} {vs:V6 V0} {xss:V6 (V6 α)} {ys:V6 α} (a:Nat.beq i j=false) (b:M[i]?=some (sR e (vs.set k.toNat (.slice none 0 0)) (xss.set k.toNat []))) (f:M[j]?=some (Ar e u ys)) (h:0<=k/\k<(xss.set k.toNat []).length):
  jG M L ((M.set i (sR e (vs.set k.toNat u) (xss.set k.toNat ys))).eraseIdx j) L:=by
 have:=Oe (L:=L) i j a b f h;rwa[List.set_set,List.set_set]at this
theorem KJ {A:Type} {b:A->V0} {M' L':A->V6 bF} {f:Op} (j:aO P c n σ M L ⟨none,f,ty,pos,aft,none⟩ b M' L') (h:∀x,J c n σ (M' x) (L' x) (wpList P ops Q rest)):
  J c n σ M L (wpList P ops Q (⟨none,f,ty,pos,aft,none⟩::rest)):=λa w s t=>
 qK Z (OM (pG (λm l ⟨x,i,k⟩=>by subst i;exact h x _ l s k) (j a w s t)))
end
section
variable {P:Program} {rd:V1 Nat} {c:zW} {n:Sz} {σ σ':Fr} {M L M' L':V6 bF} {Q:Exit->Act->V2->Prop} {ops:Array V5} {rest:V6 V5} {K:Act->V2->Prop} {G:Act->V2->Prop}
variable {d:V1 Tmp} {D:Nat} {ty:V9} {pos:String} {aft:Array Edge} {g:V1 (Nat×V4)}
variable {α β:Type} {e:iW α} {r:iN α}
theorem PC [eB P] (i:Nat) {T k:V9} {J:Nat} {z:V0} {u:TypeDesc} {x y:V3} {b:Nat} {cs vs:V6 V0} (H:ev σ x=some (.pointer (some ⟨b,0,none⟩)))
  (I:ev σ y=some (.agg vs.toArray)) (E:vs.all one=true) (q:M[i]?=some (bU b cs k)) (B:eB.tab P T=some ⟨u,vs.length,J,z⟩) (C:Nat.beq vs.length cs.length=true):
  aO P c n σ M L ⟨none,.store T x y,ty,pos,aft,none⟩ (λ_:Unit=>undef) (λ_=>M.set i (bU b vs k)) (λ_=>L):=λa w s t=>by
 have⟨F,A⟩:=t.res q;have f:vs.length=cs.length:=zA4 C;have h:∀v∈vs,v.oneCell'=true:=λv p=>uR (by simpa using zA2.1 E v p);have⟨N,l,o,_,_⟩:=(eB.ok B).info;have m:=run_storeVar_row (P:=P) w b k T cs.toArray vs.toArray A.2 (by simp[l,o]) (by simp[f]) (by simpa using h);have j:(execOp a.eval ⟨none,.store T x y,ty,pos,aft,none⟩).run P w = .ok .skip (w.setRow b vs.toArray):=by
  simp[execOp,s.eval H,s.eval I,Instr.storeAt,Instr.sureAddr,m]
 simp only[Oper.wp,j,Oper.upon];exact⟨(),trivial,t.fill q⟩
section
variable {l:V6 V5} {m:V6 Nat} {k0:Nat} {H Bs:V6 (Nat×V6 bF×V6 bF)} {rs:V6 Nat}
theorem SU {A:Type} {j:A->V0} {M' L':A->V6 bF} {i:Nat} {b:Op}
  (o:l[i]?=some ⟨none,b,ty,pos,aft,none⟩) (v:Nat.blt i k0=true) (y:gI b=true) (z:aO P c n σ M L ⟨none,b,ty,pos,aft,none⟩ j M' L')
  (q:∀x,nS (before m i) (M' x) (L' x) Bs) (h:∀x,JR c n σ (M' x) (L' x) ((i,M,L)::H) Bs (RW P l.toArray Q (before m) (eK l) k0 rs)):
  JR c n σ M L H Bs (RW P l.toArray Q (before m) (eK l) k0 (i::rs)):=λa w X Y s t u k=>by
 have f:l.toArray[i]?=some ⟨none,b,ty,pos,aft,none⟩:=by simpa using o
 simp only[RW,f];rw[if_pos (by simp[Region.wanted])];refine .inr (.inr ⟨by simpa [zAp]using v,by simp[eK,o,y],pG ?_ (z a w s t)⟩);rintro C B ⟨x,rfl,p⟩;exact⟨(q x).use p k,h x _ B _ Y s p ⟨rfl,t,u⟩ k⟩
end
theorem LU {A B:Type} {f:FuncId} {j:Func} {b:Code} {k:V6 V0} {m:Nat} {q:Op} (C:A->Prop) (i:A->B->V0) (o l:A->B->V6 bF) (E:BB P c n σ M L ⟨d,q,ty,pos,aft,g⟩ f k) (F:P.funcs[f]?=some j) (z:j.body=some b) (I:j.ntmps=m) (H:Nat.ble k.length m=true)
  (u:J c ⟨m,[]⟩ (BM 0 k) M L (b.wpr none P (kE P j (ZI c C i o l)))):
  aO P c n σ M L ⟨d,q,ty,pos,aft,g⟩ (λx:{p:A×B // C p.1}=>i x.1.1 x.1.2) (λx=>o x.1.1 x.1.2) (λx=>l x.1.1 x.1.2):=λa w s t=>by
 have h:=E.run a w s t;simp only[Oper.wp,h,Oper.upon];refine(zA F z (u _ w (Ox I H) t)).mono ?_;rintro e O ⟨x,y,v,rfl,N⟩;exact⟨⟨(x,y),v⟩,rfl,N⟩
theorem IC {A B:Type} {f:FuncId} {j:Func} {h:Code} {vs:V6 V0} {m:Nat} {o:Op} (C:A->Prop) (i:A->B->V0) (l k:A->B->V6 bF) (v:BB P c n σ M L ⟨some D,o,ty,pos,aft,none⟩ f vs) (w:P.funcs[f]?=some j) (u:j.body=some h) (y:j.ntmps=m) (x:Nat.ble vs.length m=true) (t:Nat.blt D n.sz=true)
  (p:J c ⟨m,[]⟩ (BM 0 vs) M L (h.wpr none P (kE P j (ZI c C i l k)))) (q:∀a b,C a->J c n ((D,i a b)::σ) (l a b) (k a b) (wpList P ops Q rest)):J c n σ M L (wpList P ops Q (⟨some D,o,ty,pos,aft,none⟩::rest)):=
 aK (LU C i l k v w u y x p) t fun⟨⟨a,b⟩,s⟩=>q a b s
theorem acr {A B:Type} {f:FuncId} {k:Func} {h:Code} {vs:V6 V0} {m:Nat} {q:Op} {j:Nat} {p:V4} (C:A->Prop) (i:A->B->V0) (o l:A->B->V6 bF) (z:gv ops σ j=some p) (x:BB P c n σ M L ⟨some D,q,ty,pos,aft,some (j,p)⟩ f vs) (y:P.funcs[f]?=some k) (w:k.body=some h) (F:k.ntmps=m) (E:Nat.ble vs.length m=true) (v:Nat.blt D n.sz=true)
  (s:J c ⟨m,[]⟩ (BM 0 vs) M L (h.wpr none P (kE P k (ZI c C i o l)))) (t:∀a b,C a->J c n ((D,i a b)::σ) (o a b) (l a b) (wpList P ops Q rest)):J c n σ M L (wpList P ops Q (⟨some D,q,ty,pos,aft,some (j,p)⟩::rest)):=
 fU z (LU C i o l x y w F E s) v fun⟨⟨a,b⟩,u⟩=>t a b u
section
variable {l:V6 V5} {mm:V6 Nat} {k0:Nat} {H Bs:V6 (Nat×V6 bF×V6 bF)} {rs:V6 Nat}
theorem Nr {A B:Type} {i:Nat} {f:FuncId} {p:Func} {h:Code} {vs:V6 V0} {m:Nat} {q:Op} (C:A->Prop) (j:A->B->V0) (o k:A->B->V6 bF) (E:l[i]?=some ⟨some D,q,ty,pos,aft,none⟩) (F:Nat.blt i k0=true) (I:gI q=true) (y:BB P c n σ M L ⟨some D,q,ty,pos,aft,none⟩ f vs) (z:P.funcs[f]?=some p) (x:p.body=some h) (O:p.ntmps=m) (N:Nat.ble vs.length m=true) (w:Nat.blt D n.sz=true)
  (u:∀a b,nS (before mm i) (o a b) (k a b) Bs) (s:J c ⟨m,[]⟩ (BM 0 vs) M L (h.wpr none P (kE P p (ZI c C j o k)))) (t:∀a b,C a->JR c n ((D,j a b)::σ) (o a b) (k a b) ((i,M,L)::H) Bs (RW P l.toArray Q (before mm) (eK l) k0 rs)):
  JR c n σ M L H Bs (RW P l.toArray Q (before mm) (eK l) k0 (i::rs)):=
 zBa E F I (LU C j o k y z x O N s) w (λ_=>u _ _) fun⟨⟨a,b⟩,v⟩=>t a b v
end
theorem IG [eB P] {T E:V9} {k t u a v:Nat} {z w:V0} {f:TypeDesc} {x y:V3} {b:Nat} {i:Int} (j:Nat) (q:ev σ x=some (.pointer (some ⟨b,0,none⟩))) (s:ev σ y=some (.int .i64 i))
  (m:eB.tab P T=some ⟨.array k E,t,u,z⟩) (l:eB.tab P E=some ⟨f,a,v,w⟩) (h:(a==0)=false) (A:i=(j:Int)) (o:Nat.blt j k=true):
  Y P c n σ M L ⟨d,.indexAddr T x y,ty,pos,aft,g⟩ (.pointer (some ⟨b,j*a,none⟩)):=by
 have p:j<k:=by simpa [zAp]using o
 have:=jA (P:=P) (c:=c) (n:=n) (σ:=σ) (M:=M) (L:=L) (d:=d) (ty:=ty) (pos:=pos) (aft:=aft) (g:=g) (i:=i) q s m l h V7;rwa[show i.toNat=j by omega]at this
theorem Jq [eB P] {T E:V9} {k q u b A:Nat} {z B:V0} {f:TypeDesc} {x y:V3} {v:V0} {o:Nat} {i:Int} (m:ev σ x=some (IR v o)) (p:ev σ y=some (.int .i64 i))
  (l:eB.tab P T=some ⟨.array k E,q,u,z⟩) (j:eB.tab P E=some ⟨f,b,A,B⟩) (_h3:(b==0)=false) (h:0<=i/\i<(k:Int)):
  Y P c n σ M L ⟨d,.indexAddr T x y,ty,pos,aft,g⟩ (IR v (o+i.toNat*b)):=λa w s t=>by
 simp[execOp,s.eval m,s.eval p,Instr.indexAt,asIntOf,(eB.ok l).run_und w,h,Instr.sureAddr,IR,(eB.ok j).run_size w,NF]
theorem aV {x:V3} {b o:Nat} (f:ev σ x=some (.pointer (some ⟨b,o,none⟩))):Y P c n σ M L ⟨d,.nilCheck x,ty,pos,aft,g⟩ (.pointer (some ⟨b,o,none⟩)):=λa w s t=>by
 simp[execOp,s.eval f]
theorem Ef [eB P] [Inhabited α] (j:Nat) {T:V9} {s2 k o q:Nat} {z:V0} {dT:TypeDesc} {x y:V3} {v u:V0} {us:V6 V0} {i:Int} {xs:V6 α} (I:α) (h:0<=i/\i<xs.length) (hx:ev σ x=some (IR v (i.toNat*q+o))) (hy:ev σ y=some u)
  (hf:M[j]?=some (Ar e v xs)) (hq:e.sz=q) (S:u.cells=us.toArray) (hk:us.length=k) (ho:Nat.ble (o+k) q=true) (H:e.enc I=(e.enc (at' xs i)).take o++us++(e.enc (at' xs i)).drop (o+k)) (V:us.all one=true) (hT:eB.tab P T=some ⟨dT,k,s2,z⟩):
  aO P c n σ M L ⟨none,.store T x y,ty,pos,aft,none⟩ (λ_:Unit=>undef) (λ_=>M.set j (Ar e v (xs.set i.toNat I))) (λ_=>L):=λa w s t=>by
 subst hq hk;have ap:o+us.length<=e.sz:=by simpa using ho
 have hi:i.toNat<xs.length:=V7
 have t0:=t;have⟨ai,FF,hO,ae⟩:=t0;have⟨h0,p,hh⟩:=hO.res j _ hf;rcases hh with⟨_,rfl⟩|⟨b,m,U,T',f,rfl,W,X,Y,hc,ht⟩
 .simp at hi
 -- the parts of the row
 obtain⟨l,A,B,F,hl⟩:∃l A B,xs=l++A::B/\l.length=i.toNat:=⟨xs.take i.toNat,xs[i.toNat],xs.drop (i.toNat+1),by rw[List.getElem_cons_drop,zB0],Q1⟩
 have ag:at' xs i=A:=by
  rw[at',zAm,<-hl,F,zA9 (zAf _)];simp
 rw[ag]at H;have eE:=e.len A;have eA:(cellsOf e l).length=i.toNat*e.sz:=by rw[gH,hl]
 have C:cellsOf e xs=cellsOf e l++(e.enc A++cellsOf e B):=by rw[F];simp[cellsOf]
 have O:cellsOf e (xs.set i.toNat I)=cellsOf e l++(e.enc I++cellsOf e B):=by
  have:xs.set i.toNat I=l++I::B:=by rw[F,<-hl,List.set_append_right _ _ (zAf _)];simp
  rw[this];simp[cellsOf]
 have an:xs.length*e.sz<=U*e.sz:=Nat.mul_le_mul_right _ Y;obtain⟨J,R,N,hH⟩:∃J R,f.toList=J++(cellsOf e l++(e.enc A++(cellsOf e B++R)))/\J.length=m:=by
  refine⟨f.toList.take m,(f.toList.drop m).drop (xs.length*e.sz),?_,Q1⟩
  have e1:cellsOf e l++(e.enc A++(cellsOf e B++(f.toList.drop m).drop (xs.length*e.sz)))=f.toList.drop m:=by
   have:cellsOf e l++(e.enc A++(cellsOf e B++(f.toList.drop m).drop (xs.length*e.sz)))=cellsOf e xs++(f.toList.drop m).drop (xs.length*e.sz):=by rw[C];simp
   rw[this,<-ht,zB0]
  rw[e1,zB0]
 have al:f.size=f.toList.length:=V8
 have aj:f.toList.take (m+(i.toNat*e.sz+o))=J++(cellsOf e l++(e.enc A).take o):=by
  have:f.toList=(J++(cellsOf e l++(e.enc A).take o))++((e.enc A).drop o++(cellsOf e B++R)):=by
   rw[N,zAr,zAr,<-zAr ((e.enc A).take o),zB0]
  rw[this];exact List.take_left' (by simp[hH,eA,eE];omega)
 have ak:f.toList.drop (m+(i.toNat*e.sz+o)+us.length)=(e.enc A).drop (o+us.length)++(cellsOf e B++R):=by
  have:f.toList=(J++(cellsOf e l++(e.enc A).take (o+us.length)))++((e.enc A).drop (o+us.length)++(cellsOf e B++R)):=by
   rw[N,zAr,zAr,<-zAr ((e.enc A).take (o+us.length)),zB0]
  rw[this];exact List.drop_left' (by simp[hH,eA,eE];omega)
 have ad:(i.toNat+1)*e.sz<=xs.length*e.sz:=Nat.mul_le_mul_right _ V7;have ao:(i.toNat+1)*e.sz=i.toNat*e.sz+e.sz:=by rw[zAt,Nat.one_mul]
 have aa:m+(i.toNat*e.sz+o)+0+us.length<=f.size:=V7
 have ac:=run_storeCells_at P b (m+(i.toNat*e.sz+o)) T' us 0 f w X aa (λu S=>uR (zA2.1 V u S));simp only[Nat.add_zero]at ac;have aq:(eB.ok hT).run_size w=(eB.ok hT).run_size w:=rfl;have ab:(execOp a.eval ⟨none,.store T x y,ty,pos,aft,none⟩).run P w = .ok .skip (w.setRow b (f.toList.take (m+(i.toNat*e.sz+o))++us++f.toList.drop (m+(i.toNat*e.sz+o)+us.length)).toArray):=by
  simp[execOp,s.eval hx,s.eval hy,IR,PE,Instr.storeAt,Instr.sureAddr,storeVar,S,(eB.ok hT).run_size w,gQ,ac]
 simp only[Oper.wp,ab,Oper.upon];refine⟨(),trivial,?_⟩
 refine Nw ai hO ae hf Z Z Z V8 (λk _ ah=>setRow_other w b k _ (λe=>ah (by subst e;exact W))) (F':=FF j) ?_ (λk hk=>.inl hk);have E:(e.enc I).length=e.sz:=e.len I;refine⟨by simpa using h0,?_,.inr ⟨b,m,U,T',_,V8,W,setRow_heap w b _ _ T' _ X,by simpa using Y,?_,?_⟩⟩
 .rw[O];rw[C]at p;simp only[List.all_append,zA5]at p ⊢;refine⟨p.1,?_,p.2.2⟩
  rw[H];simp only[List.all_append,zA5];refine⟨⟨zA2.2 λu S=>zA2.1 p.2.1 u (List.mem_of_mem_take S),V⟩,zA2.2 λu S=>zA2.1 p.2.1 u (List.mem_of_mem_drop S)⟩
 .simp only[List.size_toArray,zA0,zB2,List.length_drop];omega
 .show((f.toList.take _++us++f.toList.drop _).drop m).take ((xs.set i.toNat I).length*e.sz)=_;rw[aj,ak,O,H,zAb];have e3:(J++(cellsOf e l++(e.enc A).take o)++us++((e.enc A).drop (o+us.length)++(cellsOf e B++R)))=J++((cellsOf e l++(((e.enc A).take o++us++(e.enc A).drop (o+us.length))++cellsOf e B))++R):=V8
  rw[e3,<-hH,List.drop_left];refine List.take_left' ?_;have af:(cellsOf e B).length=B.length*e.sz:=gH e B;have am:xs.length=i.toNat+1+B.length:=by rw[F,<-hl];simp;omega
  rw[H]at E;rw[zA0,zA0,E,eA,af,am,zAt,zAt,Nat.one_mul];omega
end
def Dfr (D:Nat):bF where
 p w F:=F D/\w.heap[D]?=some (.deferred (some []))
 mono:=fun⟨b,a⟩ h=>by
  have⟨c,d⟩:=h D b (zA8.1 a).1;exact⟨c,by rw[d];exact a⟩
structure ZL where
 n:Nat
 σ:Fr
 ps:Array Tmp
 assign:Code
 body:Code
 D:Nat
def Lp (l:Nat) (R:ZL) (i:LoopState) (a:V1 Code):bF where
 p w F:=F l/\∃(fn:FuncId) (tmps:Array V0),tmps.size=R.n/\(∀t v,lk R.σ t=some v->tmps[t]?=some v)/\
  w.heap[l]?=some (.loop {state:=i,pending:=a,fn:=fn,tmps:=tmps,params:=R.ps,assign:=R.assign,body:=R.body,defers:=R.D})
 mono:=fun⟨c,fn,tmps,d,e,b⟩ h=>by
  have⟨f,g⟩:=h l c (zA8.1 b).1;exact⟨f,fn,tmps,d,e,by rw[g];exact b⟩
def abk (D:Nat):Deferred:={target:= .collected D,args:= #[]}
def CO (l:Nat):V0:= .func (.yield l) #[] #[]
section
variable {P:Program} {rd:V1 Nat} {c:zW} {n m:Sz} {σ σ':Fr} {M L:V6 bF} {Q:Exit->Act->V2->Prop} {K G:Act->V2->Prop}
theorem St.putLp {w:V2} {l i:Nat} {R:ZL} {y d:LoopState} {b a:V1 Code} (t:St c M L w) (v:M[i]?=some (Lp l R y b)) {r:Loop} (o:w.heap[l]?=some (.loop r)):
  St c (M.set i (Lp l R d a)) L (w.putObj l (.loop {r with state:=d,pending:=a})):=by
 refine t.upd v Z Z Z V8 λF j _=>⟨λk _ x=>?_,F,?_,λ_ h=>.inl h⟩
 .exact World.putObj_heap_other (λe=>x (by subst e;exact j.1))
 .have⟨q,p,f,s,u,g⟩:=j;rw[g]at o;cases o;exact⟨q,p,f,s,u,World.putObj_heap_same (zA8.1 g).1⟩
def ZM (P:Program) (n:Sz) (σ:Fr) (l D:Nat) (Q:Exit->Act->V2->Prop) (e:Ending) (w:V2):Prop:=
 ∀a,Kl ⟨n.sz,abk D::n.ds⟩ σ a->rangePost (FR none) 0 P l Q a e w
theorem SQ {g:Operand} {ps:Array Tmp} {assign body:Code} {f:FuncId} {fn:Func} {code:Code} {cs:List V0} {k:Nat} (hb:aX P f) (hx:ev σ g=some (.func (.func f) #[] cs.toArray)) (hf:P.funcs[f]?=some fn) (hbd:fn.body=some code) (hn:fn.ntmps=k) (hm:Nat.ble (cs.length+1) k=true)
  (h:∀l D,J c ⟨k,[]⟩ (BM 0 (CO l::cs)) (Lp l ⟨n.sz,σ,ps,assign,body,D⟩ .ready none::Dfr D::M) L (code.wpr none P (kE P fn (ZM P n σ l D Q)))):
  J c n σ M L ((Code.rangeFunc g ps assign body).wpr none P Q):=λa w s t=>by
 refine wpIn_rangeFunc λfn' _=>?_;have hev:a.eval g = .func (.func f) #[] cs.toArray:=s.eval hx;let W:World:=(w.alloc (.deferred (some []))).alloc (.loop {state:= .ready,pending:=none,fn:=fn',tmps:=a.tmps,params:=ps,assign:=assign,body:=body,defers:=w.heap.size});refine⟨_,_,_,{target:= .fn (.func f) cs.toArray,args:= #[CO (w.heap.size+1)]},W,f,(CO (w.heap.size+1)::cs).toArray,W,run_enterLoop_outer fn' a.tmps ps assign body,?_,λ_ _=>trivial,?_,(λhc=>by cases hc),?_⟩
 .have hc:∀v,a.eval (.const v)=v:=λ_=>rfl;simp[resolve,hev,hc,Deferred.ofValue,CO,W]
 .simp[invoke,hb _ _,CO]
 .have t1:St c (Dfr w.heap.size::M) L (w.alloc (.deferred (some []))):=t.push _ ⟨rfl,heap_alloc_new w _⟩;have t2:St c (Lp (w.heap.size+1) ⟨n.sz,σ,ps,assign,body,w.heap.size⟩ .ready none::Dfr w.heap.size::M) L ((w.alloc (.deferred (some []))).alloc (.loop {state:= .ready,pending:=none,fn:=fn',tmps:=a.tmps,params:=ps,assign:=assign,body:=body,defers:=w.heap.size})):=by
   have:=t1.push (.loop {state:= .ready,pending:=none,fn:=fn',tmps:=a.tmps,params:=ps,assign:=assign,body:=body,defers:=w.heap.size}) (m:=Lp (w.heap.size+1) ⟨n.sz,σ,ps,assign,body,w.heap.size⟩ .ready none)
    ⟨by simp,fn',a.tmps,s.size,s.slot,by rw[<-World.size_alloc w (.deferred (some []))];exact heap_alloc_new _ _⟩
   exact this
  refine Xe ((zA hf hbd (h (w.heap.size+1) w.heap.size _ _ (Ox hn (by simpa using hm)) t2)).mono ?_);intro e w' he;exact he _ ⟨by simp[abk,s.defers],s.size,s.slot⟩
theorem ZB {f:Func} {b:Exit} {v:V0} {l D i:Nat} {R:ZL} (e:b = .ret\/b = .normal) (j:M[i]?=some (Lp l R .ready none)) (q:Kk P c m σ' M L f v) (h:J c ⟨n.sz,abk D::n.ds⟩ σ (M.set i (Lp l R .exhausted none)) L (Q .normal)) (d:m.ds=[]:=by rfl):
  J c m σ' M L (kE P f (ZM P n σ l D Q) b):=λa w s t=>by
 refine body_end e (s.defers.trans d) (q a w s t) λo r=>?_;have⟨F,u,p,k,x,y,g⟩:=t.res j;exact⟨none,_,run_endLoop g V8,h o _ r (t.putLp j g)⟩
theorem acs {f:Func} {b:Exit} {v:V0} {l D i:Nat} {R:ZL} (e:b = .ret\/b = .normal) (j:M[i]?=some (Lp l R .done (some .ret))) (q:Kk P c m σ' M L f v) (h:J c ⟨n.sz,abk D::n.ds⟩ σ (M.set i (Lp l R .exhausted (some .ret))) L (Q .ret)) (d:m.ds=[]:=by rfl):
  J c m σ' M L (kE P f (ZM P n σ l D Q) b):=λa w s t=>by
 refine body_end e (s.defers.trans d) (q a w s t) λo r=>?_;have⟨F,u,p,k,x,y,g⟩:=t.res j;exact⟨some .ret,_,run_endLoop g V8,wpIn_ret (h o _ r (t.putLp j g))⟩
def Zp (P:Program) (l:Nat) (G:Act->V2->Prop) (a:Act) (w:V2):Prop:=∃b,(Instr.beginRound l).run P w = .ok () b/\G a b
theorem Wz {l i:Nat} {R:ZL} {b:V1 Code} (e:M[i]?=some (Lp l R .ready b)) (h:J c n σ (M.set i (Lp l R .busy b)) L G):J c n σ M L (Zp P l G):=λa w s t=>by
 have⟨F,j,g,f,k,o,d⟩:=t.res e;exact⟨_,run_beginRound d Z,h a _ s (t.putLp e d)⟩
def ZN (n:Sz) (σ:Fr) (d:Nat) (K:Act->V2->Prop) (e:Ending) (w:V2):Prop:=∃v,e = .returned v/\∀a,Kl n ((d,v)::σ) a->K a w
theorem N_ {l i d:Nat} {R:ZL} {b:V1 Code} (f:M[i]?=some (Lp l R .busy b)) (h:J c m ((d,.bool true)::σ') (M.set i (Lp l R .ready none)) L K):J c n σ M L (roundPost P l (ZN m σ' d K) .normal):=λa w s t=>by
 have⟨F,p,k,g,q,r,e⟩:=t.res f;exact⟨_,_,run_endRound none e,_,rfl,λj o=>h j _ o (t.putLp f e)⟩
theorem ZC {l i d:Nat} {R:ZL} {b:V1 Code} (f:M[i]?=some (Lp l R .busy b)) (h:J c m ((d,.bool false)::σ') (M.set i (Lp l R .done (some .ret))) L K):J c n σ M L (roundPost P l (ZN m σ' d K) .ret):=λa w s t=>by
 have⟨F,p,k,g,q,r,e⟩:=t.res f;exact⟨_,_,run_endRound (some .ret) e,_,rfl,λj o=>h j _ o (t.putLp f e)⟩
def Kx:V6 Tmp->V6 V0->Fr->Fr
 |t::ts,v::vs,σ=>Kx ts vs ((t,v)::σ)
 |_,_,σ=>σ
theorem Ow:∀(d:V6 Tmp) (f:V6 V0) (a:Array V0) (σ:Fr) (k:Nat),a.size=k->d.all (λt=>Nat.blt t k)=true->(∀t v,lk σ t=some v->a[t]?=some v)->
  ((d.zip f).foldl (λa (x:Tmp×V0)=>a.setIfInBounds x.1 x.2) a).size=k/\∀t v,lk (Kx d f σ) t=some v->((d.zip f).foldl (λa (x:Tmp×V0)=>a.setIfInBounds x.1 x.2) a)[t]?=some v
 | [],_,a,σ,k,h1,_,h3=>by simpa [Kx]using ⟨h1,h3⟩
 |_::_,[],a,σ,k,h1,_,h3=>by simpa [Kx]using ⟨h1,h3⟩
 | p :: d, x :: f, a, σ, k, h1, h2, h3 =>by
  simp only[List.all_cons,zA5]at h2;have g:p<k:=by simpa [zAp]using h2.1
  simp only[List.zip_cons_cons,List.foldl_cons,Kx];refine Ow d f _ _ k (by simp[h1]) h2.2 λt v b=>?_;simp only[lk]at b;by_cases e:t=p
  .subst e;simp at b;subst b;simp[h1,g]
  .rw[qT e]at b;simp only[cond_false]at b;rw[zAv (Ne.symm e)];exact h3 t v b
theorem acv {f:Array V5} {b:V6 V5} {t:Tmp} {z:V6 V3} {g:V6 V0} {o:Array V9} {d:Nat} {B:V9} {y:String} {k:Array Edge} {l i:Nat} {R:ZL} {j:V6 Tmp} (U:lk σ t=some (CO l)) (W:z.map (ev σ)=g.map some) (T:M[i]?=some (Lp l R .ready none)) (r:R.ps=j.toArray) (q:g.length=j.length) (p:j.all (λt=>Nat.blt t R.n)=true) (S:Nat.blt d n.sz=true)
  (h:J c ⟨R.n,[]⟩ (Kx j g R.σ) M L (R.assign.wpr (some l) P (Exit.then (Zp P l (R.body.wpr (some l) P (roundPost P l (ZN n σ d (wpList P f Q b))))) (λ_ _ _=>False)))):
  J c n σ M L (wpList P f Q (⟨some d,.call ⟨.value (.tmp t),z.toArray,o⟩,B,y,k,none⟩::b)):=λa w s A=>by
 have⟨F,h1,H,tmps,I,N,O⟩:=A.res T;have e:=evs s W;have C:a.eval (.tmp t)=CO l:=s.eval (x:= .tmp t) U;have X:=run_yield (P:=P) (args:=g.toArray) O (by simp[r,q]);have u:(execOp a.eval ⟨some d,.call ⟨.value (.tmp t),z.toArray,o⟩,B,y,k,none⟩).run P w=(Instr.yield l g.toArray).run P w:=by
  simp[execOp,resolve,C,CO,Deferred.ofValue,invoke,e]
 unfold wpList;rw[if_pos (show Region.wanted _ _=true from rfl)];refine .inr ⟨_,_,_,_,_,_,u.trans X,?_⟩;refine RoundIn.mono (R:=ZN n σ d (wpList P f Q b)) (roundIn_of_wpIn (F:=FR none) trivial ?_) ?_
 .have⟨D,E⟩:=Ow j g tmps R.σ R.n I p N;have:=h {tmps:=(j.zip g).foldl (λtmps (x:Tmp×V0)=>tmps.setIfInBounds x.1 x.2) tmps,defers:=[]} w ⟨rfl,D,E⟩ A;simp only[r,List.zip_toArray,List.foldl_toArray];exact this
 .rintro e Y ⟨v,rfl,V⟩;exact⟨v,rfl,V _ (s.put d v S)⟩
theorem QY {g:Operand} {ps:Array Tmp} {assign body:Code} {f:FuncId} {fn:Func} {code:Code} {cs:List V0} {k:Nat} (hb:aX P f) (hx:ev σ g=some (.func (.func f) #[] cs.toArray)) (hf:P.funcs[f]?=some fn) (hbd:fn.body=some code) (hn:fn.ntmps=k) (hm:Nat.ble (cs.length+1) k=true)
  (h:∀(l D:Nat) (R:ZL),R.n=n.sz/\R.σ=σ/\R.ps=ps/\R.assign=assign/\R.body=body->J c ⟨k,[]⟩ (BM 0 (CO l::cs)) (Lp l R .ready none::Dfr D::M) L (code.wpr none P (kE P fn (ZM P n σ l D Q)))):
  J c n σ M L ((Code.rangeFunc g ps assign body).wpr none P Q):=SQ hb hx hf hbd hn hm λl D=>h l D _ ⟨rfl,rfl,rfl,rfl,rfl⟩
theorem SS {j:Array V5} {e:V6 V5} {t:Tmp} {u:V6 V3} {us:V6 V0} {r:Array V9} {d:Nat} {B:V9} {s:String} {q:Array Edge} {l i k:Nat} {R:ZL} {p:V6 Tmp} {o:Fr} {a b:Code} (w:R.n=k/\R.σ=o/\R.ps=p.toArray/\R.assign=a/\R.body=b) (z:lk σ t=some (CO l)) (A:u.map (ev σ)=us.map some) (y:M[i]?=some (Lp l R .ready none)) (g:us.length=p.length) (f:p.all (λt=>Nat.blt t k)=true) (x:Nat.blt d n.sz=true)
  (h:J c ⟨k,[]⟩ (Kx p us o) M L (a.wpr (some l) P (Exit.then (Zp P l (b.wpr (some l) P (roundPost P l (ZN n σ d (wpList P j Q e))))) (λ_ _ _=>False)))):
  J c n σ M L (wpList P j Q (⟨some d,.call ⟨.value (.tmp t),u.toArray,r⟩,B,s,q,none⟩::e)):=by
 obtain⟨rfl,rfl,v,rfl,rfl⟩:=w;exact acv z A y v g f x h
end
def OF (Ds:V6 Nat):V6 Deferred:=Ds.map abk
def QV (Ds:V6 Nat):bF where
 p w F:=Ds.Nodup/\∀D∈Ds,F D/\w.heap[D]?=some (.deferred (some []))
 mono:=fun⟨c,a⟩ h=>⟨c,λD b=>by
  have⟨d,e⟩:=h D (a D b).1 (zA8.1 (a D b).2).1;exact⟨d,by rw[e];exact(a D b).2⟩⟩
section
variable {P:Program} {rd:V1 Nat} {c:zW} {n m:Sz} {σ σ':Fr} {M L:V6 bF} {Q:Exit->Act->V2->Prop} {K G:Act->V2->Prop}
theorem Tn:jG M L (QV []::M) L:=jG.add λ_=>⟨List.nodup_nil,V8⟩
theorem To (i j:Nat) {D:Nat} {e:V6 Nat} (d:i≠j) (l:M[i]?=some (QV e)) (o:M[j]?=some (Dfr D)):jG M L ((M.set i (QV (D::e))).eraseIdx j) L:=λc w t=>
 t.merge i j d l o (by
  rintro w q r ⟨g,b⟩ ⟨f,h⟩ k;refine⟨List.nodup_cons.2 ⟨λp=>k D (b D p).1 f,g⟩,λE a=>?_⟩
  rcases zAi.1 a with rfl|a
  .exact⟨.inr f,h⟩
  .exact⟨.inl (b E a).1,(b E a).2⟩)
theorem KL {g:Operand} {ps:Array Tmp} {assign body:Code} {f:FuncId} {fn:Func} {code:Code} {cs:List V0} {k i s:Nat} (Ds:List Nat) (hi:M[i]?=some (QV Ds)) (hb:aX P f) (hx:ev σ g=some (.func (.func f) #[] cs.toArray)) (hf:P.funcs[f]?=some fn) (hbd:fn.body=some code) (hn:fn.ntmps=k) (hm:Nat.ble (cs.length+1) k=true)
  (h:∀(l D:Nat) (R:ZL),R.n=s/\R.σ=σ/\R.ps=ps/\R.assign=assign/\R.body=body->J c ⟨k,[]⟩ (BM 0 (CO l::cs)) (Lp l R .ready none::M.set i (QV (D::Ds))) L (code.wpr none P (kE P fn (ZM P ⟨s,OF Ds⟩ σ l D Q)))):
  J c ⟨s,OF Ds⟩ σ M L ((Code.rangeFunc g ps assign body).wpr none P Q):=QY hb hx hf hbd hn hm λl D R hR=>
 jY (To (i+2) 1 (by omega) hi Z) (h l D R hR)
theorem xF {o:Func} {R:Ending->V2->Prop} {f:Exit} {i k:Nat} (b:f = .ret\/f = .normal):∀{Ds:V6 Nat} {M:V6 bF},M[i]?=some (QV Ds)->J c ⟨k,[]⟩ σ (M.set i (QV [])) L (kE P o R f)->J c ⟨k,OF Ds⟩ σ M L (kE P o R f)
 | [], M, hi, h =>by
  have:M.set i (QV [])=M:=by
   apply List.ext_getElem?;intro j;by_cases e:i=j
   .subst e;rw[hi];simp[(List.getElem?_eq_some_iff.1 hi).1]
   .simp[zAu e]
  rw[this]at h;exact h
 | D :: Ds, M, hi, h =>λa w s t =>by
  have⟨F,v,q⟩:=t.res hi;have u:St c (M.set i (QV Ds)) L (w.putObj D (.deferred none)):=by
   refine t.upd hi Z Z Z V8 λF d _=>⟨λk _ r=>?_,F,?_,λ_ h=>.inl h⟩
   .exact World.putObj_heap_other (λe=>r (e▸(d.2 D V8).1))
   .have⟨p,d⟩:=d;refine⟨(List.nodup_cons.1 p).2,λE g=>⟨(d E (by simp[g])).1,?_⟩⟩
    rw[World.putObj_heap_other (λe=>(List.nodup_cons.1 p).1 (by subst e;exact g))];exact(d E (by simp[g])).2
  refine Yr b s.defers (q D V8).2 ?_;have l:(M.set i (QV Ds))[i]?=some (QV Ds):=by simp[(List.getElem?_eq_some_iff.1 hi).1]
  have:=xF b l (by rw[List.set_set];exact h) {tmps:=a.tmps,defers:=OF Ds} _ ⟨rfl,s.size,s.slot⟩ u;rcases b with rfl|rfl<;>exact this
def aiF {A B:Type} (c:zW) (f:A->B->Sz) (C:A->Prop) (b:A->B->Fr) (e d:A->B->V6 bF) (a:Act) (w:V2):Prop:=∃x y,C x/\Kl (f x y) (b x y) a/\St c (e x y) (d x y) w
theorem Vb {A B:Type} {x:Code} (h:A->B->Sz) (C:A->Prop) (d:A->B->Fr) (g f:A->B->V6 bF) (j:J c n σ M L (x.wpr rd P (Exit.then (aiF c h C d g f) Q))) (k:∀a b,C a->J c (h a b) (d a b) (g a b) (f a b) K):
  J c n σ M L (x.wpr rd P (Exit.then K Q)):=λa w s t=>LE (λe i u q=>by
 cases e with
 |normal=>have⟨z,y,o,p,r⟩:=q;exact k z y o i u p r
 |exit id=>exact q
 |goto l=>exact q
 |ret=>exact q
 |panic v=>exact q
 |outgrown=>exact q) (j a w s t)
theorem Nq {A B:Type} {e:A->B->Sz} {C:A->Prop} {a:A->B->Fr} {d b:A->B->V6 bF} (x:A) (y:B) (i:n=e x y) (f:C x) (j:Ej σ (a x y)) (h:aW M (d x y)) (g:aE [] L (b x y)):J c n σ M L (aiF c e C a d b):=
 λ_ _ s t=>⟨x,y,f,i▸s.weak j,t.weakE h g⟩
end
def Gb (b:Nat) (cs:V6 V0):bF where
 p w S:=S b/\∃T,w.heap[b]?=some (.cells cs.toArray T (0,0))
 mono:=fun⟨c,T,a⟩ h=>by
  have⟨d,e⟩:=h b c (zA8.1 a).1;exact⟨d,T,by rw[e];exact a⟩
section
variable {P:Program} {c:zW} {n:Sz} {σ:Fr} {M L:V6 bF} {d:V1 Tmp} {ty:V9} {pos:String} {aft:Array Edge} {g:V1 (Nat×V4)} {α:Type} {e:iW α}
theorem Tt [eB P] {T E:V9} {u:IntKind} {k v A f B:Nat} {z C:V0} {l:TypeDesc} {x y:V3} {b:Nat} {i:Int} (q:ev σ x=some (.pointer (some ⟨b,0,none⟩))) (r:ev σ y=some (.int u i))
  (p:eB.tab P T=some ⟨.array k E,v,A,z⟩) (o:eB.tab P E=some ⟨l,f,B,C⟩) (m:(f==0)=false) (h:0<=i/\i<(k:Int)):
  Y P c n σ M L ⟨d,.indexAddr T x y,ty,pos,aft,g⟩ (.pointer (some ⟨b,i.toNat*f,none⟩)):=λa w s t=>by
 have j:f≠0:=by simpa using m
 simp[execOp,s.eval q,s.eval r,Instr.indexAt,asIntOf,(eB.ok p).run_und w,h,Instr.sureAddr,(eB.ok o).run_size w,j,gQ]
theorem Ym [eB P] [Inhabited α] {T:V9} {E:Nat} {z:V0} {o:TypeDesc} {x:V3} {b k:Nat} {i:Int} {f:V6 α} {u:V0} (q:ev σ x=some (.pointer (some ⟨b,i.toNat*1,none⟩)))
  (y:aQ M L (Gb b (cellsOf e f))) (A:eB.tab P T=some ⟨o,1,E,z⟩) (B:Bh o=false) (C:e.sz=1) (D:(e.enc (at' f i))=[u]) (h:(0<=i/\i<(k:Int))/\f.length=k):
  Y P c n σ M L ⟨d,.load T x,ty,pos,aft,g⟩ u:=λa w s t=>by
 have⟨F,j,r,l⟩:=y.st t;have v:(bU b (cellsOf e f) r).p w F:=⟨j,l⟩
 have m:=Bp e f i.toNat (at' f i) (jI h.1.1 V7) 0 u (by rw[D];rfl);rw[C,Nat.add_zero]at m;rw[Nat.mul_one]at q m;simp[execOp,s.eval q,zQ (eB.ok A) B (bU.cell v m)]
end
section
variable {P:Program} {rd:V1 Nat} {c:zW} {n:Sz} {σ:Fr} {M L:V6 bF} {Q:Exit->Act->V2->Prop} {ops:Array V5} {rest:V6 V5} {d:V1 Tmp} {ty:V9} {pos:String} {aft:Array Edge} {g:V1 (Nat×V4)} {α:Type} {e:iW α} {r:iN α} {G:Act->V2->Prop}
theorem aiM (a b:ByteArray):(a==b)=decide (a=b):=by
 have⟨x⟩:=a;have⟨y⟩:=b;have:((⟨x⟩:ByteArray)==⟨y⟩)=(x==y):=rfl;rw[this];by_cases h:x=y<;>simp[h]
def gN (a b:ByteArray):V4:=a.toList==b.toList
theorem YL {f:BinOp} {t:V9} {x y:V3} {a b:ByteArray} {w:V2}:(eqGuard f t x y (.string a) (.string b)).run P w = .ok () w:=by
 unfold eqGuard;cases f<;>simp
theorem fV {t i:V9} {x y:V3} {a b:ByteArray} (f:ev σ x=some (.string a)) (h:ev σ y=some (.string b)):Y P c n σ M L ⟨d,.binOp .eql t x y i,ty,pos,aft,g⟩ (.bool (gN a b)):=λj w s _=>by
 simp[execOp,s.eval f,s.eval h,binOp,Op.stringOp,YL,gN]
end
end Go.Sx
namespace Go.Sx
section
variable {P:Program} {M L:V6 bF} {α β γ:Type} {r:iN α} {s:iN γ} {q:iN β}
theorem Vk [eB P] {c:zW} {n:Sz} {j:Fr} {d:V1 Tmp} {F:V9} {i:String} {e:Array Edge} {g:V1 (Nat×V4)} {T E:V9} {A B C D m b:Nat} {z G:V0} {o:TypeDesc} {x l:V3} {k:Int} (y:ev j x=some (.pointer (some ⟨b,0,none⟩))) (f:ev j l=some (.int .i64 k))
  (v:eB.tab P T=some ⟨.array m E,A,B,z⟩) (u:eB.tab P E=some ⟨o,C,D,G⟩) {q:Int} (h:0<=k/\k<=((m:Nat):Int)/\k<=q):Y P c n j M L ⟨d,.slice T x none (some l) none,F,i,e,g⟩ (.slice (some ⟨b,0,none⟩) k.toNat m):=λa w s t=>by
 have p:0<=k/\k<=(m:Int):=⟨h.1,h.2.1⟩
 simp[execOp,s.eval y,s.eval f,Instr.sliceAt,Instr.slice,(eB.ok v).run_und w,Instr.sliceBounds,Instr.sliceBound,asIntOf,(eB.ok u).run_size w,p,asAddr,Addr.add,Instr.sureAddr]
theorem ZE {e:iW α} {i b T m:Nat} {k:Int} {a:List α} (t:M[i]?=some (bU b (cellsOf e a) T)) (c:e.Fits r) (h:0<=k/\k<=((m:Nat):Int)/\k<=(a.length:Int)) (p:m<=9223372036854775807):aQ M L (Sl r (.slice (some ⟨b,0,none⟩) k.toNat m) (a.take k.toNat)):=λw S T U B f C v=>by
 have n:=f i _ t;have o:(a.take k.toNat).length=k.toNat:=by simp;omega
 refine⟨some ⟨b,0,none⟩,m,by rw[o],by rw[o];omega,.inr ⟨b,0,rfl,v _ _ n.1,λj x d=>?_⟩⟩
 have l:a[j]?=some x:=by
  rw[zAn]at d;split at d
  .exact d
  .cases d
 obtain⟨g,D,z,_⟩:=c;refine⟨e.enc x,λq u A=>?_,z⟩
 have y:=Bp e a _ _ l _ _ A;rw[g,zB3];exact bU.cell n y
end
end Go.Sx
namespace Go.Sx
open Go.RowKit
section
variable {P:Program} {c:zW} {n:Sz} {σ:Fr} {M L:V6 bF} {d:V1 Tmp} {ty:V9} {pos:String} {aft:Array Edge} {g:V1 (Nat×V4)}
def afR (v:V0) (m:Nat):Prop:=∃a e,v = .slice a m e/\(m=0\/∃b f,a=some ⟨b,f,none⟩)
theorem Know.len {f:Type} {r:iN f} {v:V0} {xs:V6 f} (j:aQ M L (Sl r v xs)):∀c w,St c M L w->afR v xs.length:=λc w t=>by
 have⟨S,i,cap,k,_,h⟩:=j.st t;exact⟨i,cap,k,h.imp (λh=>by simp[h]) fun⟨b,a,e,_⟩=>⟨b,a,e⟩⟩
theorem Ft [eB P] {T E:V9} {B C k D m:Nat} {z F:V0} {o:TypeDesc} {x y:V3} {v:V0} {i:Int} (u:ev σ x=some v) (A:ev σ y=some (.int .i64 i)) (f:afR v m)
  (s:eB.tab P T=some ⟨.slice E,B,C,z⟩) (r:eB.tab P E=some ⟨o,k,D,F⟩) (h:0<=i/\i<(m:Int)):Y P c n σ M L ⟨d,.indexAddr T x y,ty,pos,aft,g⟩ (IR v (i.toNat*k)):=λa w l t=>by
 obtain⟨G,e,rfl,f⟩:=f;have⟨p,q⟩:=h;rcases f with rfl|⟨b,j,rfl⟩
 .omega
 .simp[execOp,l.eval u,l.eval A,Mu w (eB.ok s) Z (eB.ok r) b j _ e i p q]
theorem We {a:Type} [Inhabited a] (l:V6 a) (k:Int) (h:k.toNat<l.length) (b:0<=k):l.set k.toNat (at' l k)=l:=by
 have:=jI (xs:=l) b V7;refine List.ext_getElem? λi=>?_;by_cases e:k.toNat=i
 .subst e;rw[zAh h,this]
 .rw[zAu e]
theorem IF [eB P] {l:Type} [Inhabited l] {e:iW l} (j:Nat) {T:V9} {Q m o q:Nat} {z:V0} {C:TypeDesc} {x y:V3} {u:V0} {us:V6 V0} {i k:Int} {vs:V6 V0} {b:V6 (V6 l)} (f:l) (A:0<=k/\k<b.length) (h:0<=i/\i<(at' b k).length) (N:ev σ x=some (IR (at' vs k) (i.toNat*q+o))) (O:ev σ y=some u)
  (v:M[j]?=some (sR e vs b)) (I:e.sz=q) (K:u.cells=us.toArray) (G:us.length=m) (H:Nat.ble (o+m) q=true) (B:e.enc f=(e.enc (at' (at' b k) i)).take o++us++(e.enc (at' (at' b k) i)).drop (o+m)) (p:us.all one=true) (D:eB.tab P T=some ⟨C,m,Q,z⟩):
  aO P c n σ M L ⟨none,.store T x y,ty,pos,aft,none⟩ (λ_:Unit=>undef) (λ_=>M.set j (sR e vs (b.set k.toNat ((at' b k).set i.toNat f)))) (λ_=>L):=λa w s t=>by
 have U:=nT j v c w t;have F:j<M.length:=(List.getElem?_eq_some_iff.1 v).1;refine pG (λS R ⟨x,E,J⟩=>⟨x,E,?_⟩) (Ef 0 f h N O Z I K G H B p D a w s (Tp j v A c w t));have r:=Tm (j+1) 0 (u:=at' vs k) (k:=k) (vs:=vs) (xss:=b) (ys:=(at' b k).set i.toNat f) (e:=e) Z (by simp[F]) Z (by simpa using A) c R J;simp only[List.set_cons_zero,List.set_cons_succ,List.eraseIdx_cons_zero,List.set_set]at r;rw[We vs k V7 A.1]at r;exact r
end
theorem aW.ix {M a:V6 bF} (l:V6 Nat) (c:decide l.Nodup=true) (h:l.map (λi=>M[i]?)=a.map some):aW M a:=by
 have c:l.Nodup:=of_decide_eq_true c;have k:l.length=a.length:=by simpa using congrArg List.length h
 refine⟨λi=>l.getD i 0,λi j b n e=>?_,λi m d=>?_⟩
 .have f:i<l.length:=V7
  have g:j<l.length:=V7
  simp only[zAm,zA1 f,zA1 g,Option.getD_some]at e;exact(List.getElem_inj c).1 e
 .have b:i<l.length:=by rw[k];exact(List.getElem?_eq_some_iff.1 d).1
  have:=congrArg (λq=>q[i]?) h;simp only[List.getElem?_map,zA1 b,d,Option.map_some,Option.some.injEq]at this;simpa [zAm,zA1 b]using this
def iW.fn:iW Nat:=⟨1,Nat.one_pos,λf=>[.func (.func f) #[] #[]],λ_=>rfl⟩
def iN.fn:iN Nat:=⟨1,Nat.one_pos,λ_ _ cs x=>cs=[.func (.func x) #[] #[]],λh=>by simp[h],λh _=>h⟩
theorem SO:iW.fn.Fits iN.fn:=⟨rfl,λh=>h,rfl,λ_=>rfl⟩
section
variable {P:Program} {rd:V1 Nat} {c:zW} {n:Sz} {σ:Fr} {M L:V6 bF} {Q:Exit->Act->V2->Prop} {ops:Array V5} {rest:V6 V5} {d:Nat} {ty:V9} {pos:String} {aft:Array Edge} {x y:V3} {v:V0} {K:Act->V2->Prop}
abbrev vS (x:ByteArray):V0:= .string x
abbrev vB (x:V4):V0:= .bool x
theorem eX {a:Type} {p G:Prop} {_:Decidable p} {u:V1 a} {r:a} (h:ck p u=some r) (k:p->u=some r->G):G:=k (Gs h).1 (Gs h).2
theorem dG {a b:Type} {G:Prop} {u:V1 a} {f:a->V1 b} {r:b} (h:u.bind f=some r) (k:∀y,u=some y->f y=some r->G):G:=by
  have⟨y,e,g⟩:=bnd h;exact k y e g
theorem gK (l:V6 Nat) {a:V6 bF} (h:l.map (L[·]?)=a.map some):aE M L a:=λf b=>by
  have g:some f∈l.map (L[·]?):=h▸List.mem_map_of_mem b;have⟨j,_,e⟩:=zB5.1 g;exact aQ.fact j e
theorem jS.ix (l:V6 Nat) {a:V6 bF} (h:l.map (L[·]?)=a.map some):jS L a:=λf b=>by
  have g:some f∈l.map (L[·]?):=h▸List.mem_map_of_mem b;have⟨j,_,e⟩:=zB5.1 g;exact zAo e
theorem jP {f:bF} (i:Nat) (h:L[i]?=some f):jS L [f]:=jS.cons (zAo h) jS.nil
/-- which of the early loads must still hold,with the numbers of what they have read -/
def bsW (A:Nat->V4):V6 (V6 Nat×V6 Nat)->V6 (Nat×V6 bF×V6 bF)->V6 (V6 Nat×V6 Nat×V6 bF×V6 bF)
  |_,[]=>[]
  |q,(j,Mx,Lx)::B=>bif A j||(Mx.isEmpty&&Lx.isEmpty)then bsW A q B else((q.headD ([],[])).1,(q.headD ([],[])).2,Mx,Lx)::bsW A q.tail B
theorem y_ {A:Nat->V4} (q:V6 (V6 Nat×V6 Nat)) {B:V6 (Nat×V6 bF×V6 bF)} (h:(bsW A q B).map (λz=>(decide z.1.Nodup,z.1.map (M[·]?),z.2.1.map (L[·]?)))=(bsW A q B).map (λz=>(true,z.2.2.1.map some,z.2.2.2.map some))):nS A M L B:=by
  induction B generalizing q with
  |nil=>exact nS.z
  | cons b B ih =>
    have⟨j,k,i⟩:=b;cases a:A j with
    |true=>exact nS.b a (ih q (by simpa [bsW,a]using h))
    | false =>
      cases g:(k.isEmpty&&i.isEmpty)with
      | true =>
        have⟨e,f⟩:=Bool.and_eq_true_iff.1 g;rw[List.isEmpty_iff]at e f;subst e;subst f;exact nS.h aW.nil jS.nil (ih q (by simpa [bsW,a]using h))
      | false =>
        simp only[bsW,a,g,Bool.or_self,cond_false,List.map_cons,List.cons.injEq,Prod.mk.injEq]at h;exact nS.h (aW.ix _ h.1.1 h.1.2.1) (jS.ix _ h.1.2.2) (ih q.tail h.2)
def hkB (A:Nat->V4):V6 (Nat×V6 bF×V6 bF)->V4
  | []=>true
  |(j,_,_)::H=>bif A j then hkB A H else false
theorem NM {A:Nat->V4} {f e:V6 bF} {H:V6 (Nat×V6 bF×V6 bF)} (h:hkB A H=true):aR A f e H:=by
  induction H with
  |nil=>exact aR.z
  | cons b B ih =>
    have⟨j,_,_⟩:=b;cases a:A j with
    |false=>simp[hkB,a]at h
    |true=>exact aR.b a (ih (by simpa [hkB,a]using h))
theorem hkN {A:Nat->V4} {H:V6 (Nat×V6 bF×V6 bF)}:aR A [] [] H:=by
  induction H with
  |nil=>exact aR.z
  |cons b B a=>exact aR.h aW.nil jS.nil a
theorem bO {T:V3} (h:(ev σ T,ev σ x,Nat.blt d n.sz)=(some (.bool true),some v,true)) (k:J c n ((d,v)::σ) M L (wpList P ops Q rest)):J c n σ M L (wpList P ops Q (⟨some d,.pick T x y,ty,pos,aft,none⟩::rest)):=by
  simp only[Prod.mk.injEq]at h;exact aC (wR h.1 h.2.1) h.2.2 k
theorem bT {T:V3} (h:(ev σ T,ev σ y,Nat.blt d n.sz)=(some (.bool false),some v,true)) (k:J c n ((d,v)::σ) M L (wpList P ops Q rest)):J c n σ M L (wpList P ops Q (⟨some d,.pick T x y,ty,pos,aft,none⟩::rest)):=by
  simp only[Prod.mk.injEq]at h;exact aC (sG h.1 h.2.1) h.2.2 k
theorem fL {vs:V6 V0} {i:Nat} (h:(ev σ x,vs[i]?,Nat.blt d n.sz)=(some (.tuple vs.toArray),some v,true)) (k:J c n ((d,v)::σ) M L (wpList P ops Q rest)):J c n σ M L (wpList P ops Q (⟨some d,.extract x i,ty,pos,aft,none⟩::rest)):=by
  simp only[Prod.mk.injEq]at h;exact aC (CZ h.1 h.2.1) h.2.2 k
theorem lK {t a:V9} {i:IntKind} {p q:Int} (h:(ev σ x,ev σ y,Nat.blt d n.sz)=(some (.int i p),some (.int i q),true)) (k:J c n ((d,.bool (decide (p≠q)))::σ) M L (wpList P ops Q rest)):J c n σ M L (wpList P ops Q (⟨some d,.binOp .neq t x y a,ty,pos,aft,none⟩::rest)):=by
  simp only[Prod.mk.injEq]at h;exact aC (xH h.1 h.2.1) h.2.2 k
theorem Le {t a:V9} {i:IntKind} {p q:Int} (h:(ev σ x,ev σ y,Nat.blt d n.sz)=(some (.int i p),some (.int i q),true)) (k:J c n ((d,.int i (Fv i p q))::σ) M L (wpList P ops Q rest)):J c n σ M L (wpList P ops Q (⟨some d,.binOp .and t x y a,ty,pos,aft,none⟩::rest)):=by
  simp only[Prod.mk.injEq]at h;exact aC (afa h.1 h.2.1) h.2.2 k
theorem eL [eB P] {b:Type} {r:iN b} {T E:V9} {f g:Nat} {z:V0} {a:V6 b} (e:aQ M L (Sl r v a)) (h:(ev σ x,eB.tab P T,Nat.blt d n.sz)=(some v,some ⟨.slice E,f,g,z⟩,true)) (k:J c n ((d,.int .i64 a.length)::σ) M L (wpList P ops Q rest)):J c n σ M L (wpList P ops Q (⟨some d,.call ⟨.builtin .len,#[x],#[T]⟩,ty,pos,aft,none⟩::rest)):=by
  simp only[Prod.mk.injEq]at h;exact aC (dO h.1 e h.2.1) h.2.2 k
theorem jKs {a b:Type} {r:iN a} {e:a->b} {v:V0} {g:V6 a} {f:V6 b} (h:aQ M L (Sn r e v g f)):∀c w,St c M L w->one v=true:=Know.one (aQ.sl h)
variable {l:V6 V5} {m:V6 Nat} {k0:Nat} {H Bs:V6 (Nat×V6 bF×V6 bF)} {rs:V6 Nat}
theorem xP {id:Nat} {r:V6 Nat} (m:V6 Nat) (k0:Nat) (f:P.follows .mixedOrders=true) (h:JR c n σ M L [] [] (RW P l.toArray Q (before m) (eK l) k0 r)) (a:chk l m k0=true:=by decide +kernel) (e:List.range l.length=r:=by exact rfl) (b:l.all lW=true:=by rfl):J c n σ M L ((Code.region id l.toArray true).wpr rd P Q):=JR.start m k0 f a (JR.open e h) b
theorem iD {i a:Nat} {b:Op} (f:l[i]?=some ⟨some a,b,ty,pos,aft,none⟩) (k:Y P c n σ [] [] ⟨some a,b,ty,pos,aft,none⟩ v)
    (h:JR c n ((a,v)::σ) M L H ((i,[],[])::Bs) (RW P l.toArray Q (before m) (eK l) k0 rs))
    (g:Nat.blt i k0=true:=by exact rfl) (j:gI b=false:=by exact rfl) (e:Nat.blt a n.sz=true:=by exact rfl):JR c n σ M L H Bs (RW P l.toArray Q (before m) (eK l) k0 (i::rs)):=bI f aW.nil jS.nil k hkN h g j e
theorem cG {f:bF} (h:L[0]? =some f):aQ M L f:=aQ.fact 0 h
theorem iZ {f:bF} (h:L[1]? =some f):aQ M L f:=aQ.fact 1 h
theorem FA {f:bF} (h:L[2]? =some f):aQ M L f:=aQ.fact 2 h
theorem EQ {f:bF} (h:L[3]? =some f):aQ M L f:=aQ.fact 3 h
theorem Bl {f:bF} (h:L[4]? =some f):aQ M L f:=aQ.fact 4 h
theorem MU {f:bF} (h:L[5]? =some f):aQ M L f:=aQ.fact 5 h
end
end Go.Sx
namespace Go.Sx
abbrev bN:=V6 Int
abbrev cJ:=V6 (Int×Int)
abbrev fE:=V6 bN
abbrev pT:=V6 cJ
abbrev eY:=ByteArray×(V6 (ByteArray×Int×Int×Int×Int×Int))×(V6 (ByteArray×cJ×(V6 (Int×cJ))))
abbrev Ff:=cJ×((ByteArray×(V6 (ByteArray×Int×Int×Int×Int×Int))×(V6 (ByteArray×cJ×(V6 (Int×cJ)))))×(bN×pT)×Int×fE)×cJ×fE×Int×Int×bN×(V6 (Int×bN))
abbrev EJ:=cJ×((Int×Int)×(Int×Int)×(Int×Int)×(Int×Int)×(Int×Int)×(Int×Int)×(Int×Int)×(Int×Int)×(Int×Int)×(Int×Int)×(Int×Int))×bN×(V6 (Int×Int×Int))×Int
abbrev Qf:=(ByteArray×(V6 (ByteArray×Int×Int×Int×Int×Int))×(V6 (ByteArray×cJ×(V6 (Int×cJ)))))×((ByteArray×(V6 (ByteArray×Int×Int×Int×Int×Int))×(V6 (ByteArray×cJ×(V6 (Int×cJ)))))×(bN×pT)×Int×fE)×pT
abbrev Qg:=(Int×Int×Int×Int×Int×Int×Int×Int×Int×Int×Int×Int×Int×Int×Int×Int×Int×Int×Int×Int×Int×Int×Int×(V6 (Int×Int×Int))×Int×bN)
abbrev Qh:=Int×Int×Int×Int×Int×Int×Int×Int×Int×Int×Int×Int×Int×Int×Int×Int×Int×Int×Int×Int×Int×Int×Int×(V6 (Int×Int×Int))×Int×bN
abbrev SD:=((ByteArray×(V6 (ByteArray×Int×Int×Int×Int×Int))×(V6 (ByteArray×cJ×(V6 (Int×cJ)))))×(bN×pT)×Int×fE)×fE×Int×cJ
abbrev SE:=(Int×Int×Int×Int×Int×Int×Int×Int×Int×Int×Int×Int×Int×Int×Int×Int×Int×Int×Int×Int×Int×Int×Int×bN×Int)
abbrev nQ:=V6 (V0×bN)
abbrev oB:=V6 (V0×cJ)
abbrev dB:=bN×pT
abbrev dW:=(Int×Int)
abbrev QJ:=(ByteArray×(V6 (ByteArray×Int×Int×Int×Int×Int))×(V6 (ByteArray×cJ×(V6 (Int×cJ)))))×(bN×pT)×Int×fE
abbrev By:=ByteArray×cJ×(V6 (Int×cJ))
abbrev CJ:=ByteArray×Int×Int×Int×Int×Int
abbrev kZ:=(Int×Int×Int)
abbrev dJ:=Int×Int
abbrev XS:=(((ByteArray×(V6 (ByteArray×Int×Int×Int×Int×Int))×(V6 (ByteArray×cJ×(V6 (Int×cJ)))))×(bN×pT)×Int×fE)×fE×Int×cJ)
abbrev XT:=Int×Int×Int×Int×Int×Int×Int×Int×Int×Int×Int×Int×Int×Int×Int×Int×Int×Int×Int×Int×Int×Int
abbrev abP:=(Int×Int×Int×Int×Int×Int×Int×Int×Int×Int×Int×Int×Int×Int×Int×Int×Int×Int×Int×Int×Int×Int×Int×bN×(V6 (Int×Int×Int))×Int)
abbrev oA:=V6 V0
abbrev FW:=V6 (Int×bN)
abbrev Nc:=Int×(V6 ((Int×Int)×Int))
abbrev QK:=(Int×Int×bN×V6 (V4)×Int)
abbrev QL:=Int×Int×bN×V6 (V4)×Int
abbrev afD:=Int×Int×Int×Int×Int×Int×Int×Int×Int×Int×Int×Int×Int×Int×Int×Int×Int×Int×Int×Int×Int×Int×Int×Int×bN×(V6 (Int×Int×Int))
abbrev Iu:=(Int×Int×fE)
abbrev QM:=(Int×(V6 ((Int×Int)×Int)))
abbrev Hw:=Int×Int×fE
abbrev GG:=Int×Int×Int
abbrev EK:=(bN×Int)
abbrev vV:=V6 Nat
abbrev GI:=V0×V0
abbrev Bz:=Int×fE
abbrev Nf:=(Int×Int×bN)
abbrev abQ:=Nat×Nat×V0×V6 V0×V0×V6 V0
abbrev Hx:=cJ×bN
abbrev XU:=(Int×(V6 (ByteArray×V4)))
abbrev Ng:=V6 (Nat×Nat)
abbrev XW:=Int×(V6 (ByteArray×V4))
abbrev Nh:=Int×Int×bN
abbrev zU:V0:=Value.slice none 0 0
abbrev vD0:V6 V0:=[zU,vI (0:Int),vI (0:Int),vI (0:Int),vI (0:Int),vI (0:Int),vI (0:Int),vI (0:Int),vI (0:Int),vI (0:Int),vI (0:Int),vI (0:Int),vI (0:Int),vI (0:Int),vI (0:Int),vI (0:Int),vI (0:Int),vI (0:Int),vI (0:Int),vI (0:Int),vI (0:Int),vI (0:Int),vI (0:Int),zU,zU,vI (0:Int)]
abbrev SG:V6 V0:=[vI (0:Int),vI (0:Int)]
abbrev vD2:V6 V0:=[vS (ByteArray.mk #[]),vI (0:Int),vI (0:Int),vI (0:Int),vI (0:Int),vI (0:Int)]
abbrev vD3:V6 V0:=[vS (ByteArray.mk #[]),zU,zU]
end Go.Sx
namespace Go.Sx
open Go.RowKit
section
variable {P:Program} {c:zW} {n:Sz} {σ:Fr} {M L:V6 bF} {d:V1 Tmp} {ty:V9} {pos:String} {aft:Array Edge} {g:V1 (Nat×V4)} {α:Type} {e:iW α}
theorem KQ [eB P] {T:V9} {G H l m:Nat} {z o:V0} {j:Array Field} {E I F:String} {r:V4} {k b p:Nat} {h:TypeDesc} {x:V3} {vs:V6 V0} {v:V0} {f:Nat} (D:ev σ x=some (.agg vs.toArray))
  (y:eB.tab P T=some ⟨.struct j,G,H,z⟩) (B:j[f]?=some ⟨E,k,b,r,I,F,p⟩) (u:eB.tab P k=some ⟨h,l,m,o⟩) (A:Bh h=false) (C:vs[b]?=some v):
  Y P c n σ M L ⟨d,.field T x f,ty,pos,aft,g⟩ v:=λa w s t=>by
 have i:=(eB.ok u).run_agg w;have q:Bh (Ty.mk h l m o).desc=false:=A;rw[q]at i;simp[execOp,s.eval D,Instr.field,(eB.ok y).run_und w,B,asAgg,part,i,C]
end
def Pw {e g:Type} (f:e->g->bF) (c:V6 e) (d:V6 g):bF where
 p w S:=c.length=d.length/\∀(i:Nat) a b,c[i]?=some a->d[i]?=some b->(f a b).p w S
 mono:=fun⟨j,k⟩ h=>⟨j,λi a b l m=>(f a b).mono (k i a b l m) h⟩
section
variable {M L:V6 bF} {α β:Type} {f:α->β->bF} {la cs:V6 α} {lb ds:V6 β} {a:α} {b:β}
theorem SX:aQ M L (Pw f [] []):=λ_ _ _ _ _ _ _ _=>⟨rfl,λi a b c=>by simp at c⟩
theorem SZ (n:Nat) (h:aQ M L (f a b)):aQ M L (Pw f (List.replicate n a) (List.replicate n b)):=λw S T U c d e g=>⟨V8,λi x y j k=>by
 obtain⟨_,rfl⟩:=List.mem_replicate.1 (zAo j);obtain⟨_,rfl⟩:=List.mem_replicate.1 (zAo k);exact h w S T U c d e g⟩
theorem SV (h:aQ M L (Pw f la lb)) (k:aQ M L (Pw f cs ds)):aQ M L (Pw f (la++cs) (lb++ds)):=λw S T U j l m n=>by
 have⟨g,o⟩:=h w S T U j l m n;have⟨p,q⟩:=k w S T U j l m n;refine⟨by simp[g,p],λi x y c d=>?_⟩
 by_cases e:i<la.length
 .rw[zAe e]at c;rw[zAe V7]at d;exact o i x y c d
 .rw[zA9 V7]at c;rw[zA9 V7,<-g]at d;exact q _ x y c d
theorem SY (h:aQ M L (f a b)):aQ M L (Pw f [a] [b]):=SZ 1 h
theorem Q_ (h:aQ M L (f a b)) (k:aQ M L (Pw f la lb)):aQ M L (Pw f (a::la) (b::lb)):=SV (SY h) k
theorem fR [Inhabited α] [Inhabited β] {k:Int} (h:aQ M L (Pw f la lb)) (c:0<=k) (e:k<lb.length):aQ M L (f (at' la k) (at' lb k)):=h.mono λ{w U} hp=>by
 have⟨g,d⟩:=hp;exact d k.toNat _ _ (jI c V7) (jI c e)
theorem iQ {g:bF} (h:aQ [] L g):jG M L M (g::L):=λc w ⟨k,F,e,d⟩=>⟨k,F,e,λx hx=>by
 rcases zAi.1 hx with rfl|hx
 .exact h w (HB c F) (λ_ _=>False) (HB c F) d (λi m j=>by simp at j) (λ_ h=>h) (λ_ _ h=>h.elim)
 .exact d x hx⟩
end
section
variable {P:Program} {rd:V1 Nat} {c:zW} {n:Sz} {σ:Fr} {M L:V6 bF} {Q:Exit->Act->V2->Prop} {ops:Array V5} {rest:V6 V5} {d:V1 Tmp} {ty:V9} {pos:String} {aft:Array Edge} {g:V1 (Nat×V4)} {α:Type} {e:iW α} {r:iN α}
@[reducible] def tg {a:Type} (_:Nat) (x:a):a:=x
end
end Go.Sx
namespace Go.Sx
open Go.RowKit Go.ChangeShapes Go.WideShapes Go.ChangeAt Go.Proofs Go.Joins Go.Deep
section
variable {H:Type} {enc:V9×V0->H} {P:Program} {w:V2} {base:Nat} {spare:Nat->V4} {held:V4}
theorem JX {a:Type} (l:V6 a) (d:a):l=(List.range l.length).map λi=>l.getD i d:=by
 apply List.ext_getElem?;intro i;by_cases h:i<l.length
 .simp[h]
 .simp[h]
theorem abv {r:Reach} {x:Nat} {t:V9} {b:Array Field} {v:V0} {d:DataW H} {p:V6 MemPlace} (s:P.underlying t=some (.struct b)) (c:oneCellFields P b=true) (z:P.cellsOf t=b.size)
  (E:Value.okWide P w r x t v) (h:DataW.Trod enc P w base spare held t v d p):
  ∃(V:Nat->V0) (Y:Nat->DataW H×V6 MemPlace) (n:Nat),v = .agg ((List.range b.size).map V).toArray/\∀(i:Nat) (f:Field),b[i]?=some f->DataW.trod enc P w base spare held n f.type [V i]=some (Y i):=by
 obtain⟨a,rfl,l⟩:=okWide_struct s E;have⟨m,A⟩:=h;have⟨u,n,_,_,_,q,B⟩:=DataW.trod_struct s A;refine⟨λi=>a.toList.getD i undef,λi=>u.getD i (.nil,[]),n,?_,λi f j=>?_⟩
 .congr 1;apply Array.toList_inj.1;show a.toList=(List.range b.size).map λi=>a.toList.getD i undef;have y:b.size=a.toList.length:=by rw[<-z,<-l];rfl
  rw[y];exact JX a.toList undef
 .have D:i<b.size:=(zA8.1 j).1;have⟨o,k⟩:=hone_of c i f j;have g:=B i f j;have e:(Value.cells (.agg a)).toList=a.toList:=rfl;have C:i<a.toList.length:=by rw[Array.length_toList];omega
  rw[o,k,e,take1_drop _ _ undef C]at g;rw[g];have F:i<u.length:=V7
  simp[F]
end
end Go.Sx
namespace Go.Sx
open Go.RowKit
section
variable {P:Program} {rd:V1 Nat} {c:zW} {n:Sz} {σ:Fr} {M L:V6 bF} {d:V1 Tmp} {ty:V9} {pos:String} {aft:Array Edge} {g:V1 (Nat×V4)}
def PH (s:ByteArray) (i:Int):Int:=((s[i.toNat]?).map λb=>(b.toNat:Int)).getD 0
theorem BG [eB P] {T:V9} {f h:Nat} {z:V0} {x:V3} {s:ByteArray} (e:ev σ x=some (.string s)) (b:eB.tab P T=some ⟨.string,f,h,z⟩):
  Y P c n σ M L ⟨d,.call ⟨.builtin .len,#[x],#[T]⟩,ty,pos,aft,g⟩ (.int .i64 (s.size:Int)):=λa w t _=>by
 simp[execOp,resolve,invoke,builtin,t.eval e,Builtin.len_,(eB.ok b).run_und w,goInt]
theorem Ny [eB P] {T:V9} {l m:Nat} {z:V0} {x y:V3} {s:ByteArray} {i:Int} (j:ev σ x=some (.string s)) (k:ev σ y=some (.int .i64 i)) (e:eB.tab P T=some ⟨.string,l,m,z⟩) (h:0<=i/\i<(s.size:Int)):
  Y P c n σ M L ⟨d,.index T x y,ty,pos,aft,g⟩ (.int .u8 (PH s i)):=λa w t _=>by
 have b:i.toNat<s.size:=V7
 have f:s[i.toNat]?=some s[i.toNat]:=getElem?_pos s i.toNat b;simp[execOp,t.eval j,t.eval k,Instr.index,asIntOf,(eB.ok e).run_und w,h.1,f,PH]
variable {α:Type} {e:iW α}
theorem Ra [eB P] (j:Nat) {T E:V9} {s1 s2 s3 s4:Nat} {z z':V0} {dE:TypeDesc} {x G:V3} {v:V0} {i:Int} {k:V6 α} (h:0<=i/\i<=k.length) (hx:ev σ x=some v) (A:ev σ G=some (.int .i64 i)) (D:M[j]?=some (Ar e v k))
  (W:eB.tab P T=some ⟨.slice E,s1,s2,z⟩) (V:eB.tab P E=some ⟨dE,s3,s4,z'⟩) (h3:e.sz=s3):
  aO P c n σ M L ⟨d,.slice T x none (some G) none,ty,pos,aft,g⟩ (λO:V0=>O) (λO=>M.set j (Ar e O (k.take i.toNat))) (λ_=>L):=λa w s t=>by
 subst h3;have⟨h0,U⟩:=h;have⟨F,C⟩:=t.res D;have f:(k.take i.toNat).length=i.toNat:=by rw[zB2];omega
 have y:(cellsOf e (k.take i.toNat))=(cellsOf e k).take (i.toNat*e.sz):=by
  have:cellsOf e k=cellsOf e (k.take i.toNat)++cellsOf e (k.drop i.toNat):=by rw[<-xJ,zB0]
  have Y:(cellsOf e (k.take i.toNat)).length=i.toNat*e.sz:=by rw[gH,f]
  rw[this,<-Y,List.take_left]
 have p:(cellsOf e (k.take i.toNat)).all one=true:=by
  rw[y,zA2];intro u hu;exact zA2.1 C.2.1 u (List.mem_of_mem_take hu)
 have⟨Y,ac,I⟩:=C;rcases I with⟨rfl,rfl⟩|⟨b,B,m,T',H,rfl,ad,X,hk,hc,ht⟩
 .have J:i=0:=by simp at U;omega
  subst J;have l:(execOp a.eval ⟨d,.slice T x none (some G) none,ty,pos,aft,g⟩).run P w = .ok (.value (.slice none 0 0)) w:=by
   simp[execOp,s.eval hx,s.eval A,Instr.sliceAt,Instr.slice,(eB.ok W).run_und w,Instr.sliceBounds,Instr.sliceBound,asIntOf,(eB.ok V).run_size w]
  simp only[Oper.wp,l,Oper.upon];refine⟨.slice none 0 0,rfl,?_⟩
  have:M.set j (Ar e (.slice none 0 0) (([]:V6 α).take (0:Int).toNat))=M:=by
   apply List.ext_getElem?;intro q;by_cases S:q=j
   .subst S;rw[zAh (bM D),D];rfl
   .rw[zAu (Ne.symm S)]
  rw[this];exact t
 .have ae:i<=(k.length:Int):=U;have K:i<=(m:Int):=V7
  have l:(execOp a.eval ⟨d,.slice T x none (some G) none,ty,pos,aft,g⟩).run P w = .ok (.value (.slice (some ⟨b,B,none⟩) i.toNat m)) w:=by
   simp[execOp,s.eval hx,s.eval A,Instr.sliceAt,Instr.slice,(eB.ok W).run_und w,Instr.sliceBounds,Instr.sliceBound,asIntOf,(eB.ok V).run_size w,h0,K,gQ]
  simp only[Oper.wp,l,Oper.upon];refine⟨_,rfl,?_⟩
  refine t.upd D Z Z Z (zAf _) λF C _=>⟨λ_ _ _=>rfl,F,?_,λ_ h=>.inl h⟩
  have⟨_,_,I⟩:=C;rcases I with⟨N,_⟩|⟨b',aa,Q,ab,R,N,o,r,_⟩
  .cases N
  .cases N;rw[X]at r;cases r;refine⟨by rw[f];omega,p,.inr ⟨b,B,m,T',H,by rw[f],o,X,by rw[f];omega,hc,?_⟩⟩
   rw[f,y,<-ht,List.take_take,Nat.min_eq_left (Nat.mul_le_mul_right _ V7)]
theorem NX {w:V2} {F:Nat->Prop} {v:V0} {f:V6 α} {k:Int} {sz:Nat} (q:Hz e w F v f) (D:0<=k) (x:k<=(f.length:Int)):Hz e w F (Mw v (0:Int).toNat k.toNat sz) (f.take k.toNat):=by
 have a:(f.take k.toNat).length=k.toNat:=by rw[zB2];omega
 have l:(cellsOf e (f.take k.toNat))=(cellsOf e f).take (k.toNat*e.sz):=by
  have:cellsOf e f=cellsOf e (f.take k.toNat)++cellsOf e (f.drop k.toNat):=by rw[<-xJ,zB0]
  have r:(cellsOf e (f.take k.toNat)).length=k.toNat*e.sz:=by rw[gH,a]
  rw[this,<-r,List.take_left]
 have j:(cellsOf e (f.take k.toNat)).all one=true:=by
  rw[l,zA2];intro u C;exact zA2.1 q.2.1 u (List.mem_of_mem_take C)
 have⟨r,_,A⟩:=q;rcases A with⟨rfl,rfl⟩|⟨b,i,h,s,m,rfl,o,y,E,z,B⟩
 .have p:k=0:=by simp at x;omega
  subst p;exact⟨V8,rfl,.inl ⟨rfl,rfl⟩⟩
 .have t:Mw (.slice (some ⟨b,i,none⟩) f.length h) (0:Int).toNat k.toNat sz = .slice (some ⟨b,i,none⟩) k.toNat h:=by
   unfold Mw;simp[gQ]
  rw[t];refine⟨by rw[a];omega,j,.inr ⟨b,i,h,s,m,by rw[a],o,y,by rw[a];omega,z,?_⟩⟩
  rw[a,l,<-B,List.take_take,Nat.min_eq_left (Nat.mul_le_mul_right _ V7)]
theorem HJ (j:Nat) {v:V0} {a:V6 α} {k:Int} {sz:Nat} (f:M[j]?=some (Ar e v a)) (h:0<=(0:Int)/\0<=k/\k<=(a.length:Int)):jG M L (M.set j (Ar e (Mw v (0:Int).toNat k.toNat sz) (a.take k.toNat))) L:=λc w t=>
 t.upd f Z Z Z (zAf _) λF b _=>⟨λ_ _ _=>rfl,F,NX b h.2.1 h.2.2,λ_ h=>.inl h⟩
end
def bF.and (f g:bF):bF where
 p w S:=f.p w S/\g.p w S
 mono:=λh k=>⟨f.mono h.1 k,g.mono h.2 k⟩
def LV {a:Type} (q:iN a):iN (V6 a) where
 sz:=1
 pos:=Nat.one_pos
 R w S cs xs:=∃v,cs=[v]/\LG q w S v xs
 len:=by rintro _ _ _ _ ⟨v,rfl,_⟩;rfl
 mono:=by rintro _ _ _ _ _ _ ⟨v,rfl,h⟩ k;exact⟨v,rfl,h.mono k⟩
def iW.rep1 {a:Type} (e:iW a):iN a where
 sz:=e.sz
 pos:=e.pos
 R _ _ cs x:=cs=e.enc x/\(e.enc x).all one=true
 len h:=by rw[h.1];exact e.len _
 mono h _:=h
theorem Hz.rep1 {k:Type} {e:iW k} {w:V2} {F:Nat->Prop} {v:V0} {g:V6 k} (h:Hz e w F v g):LG e.rep1 w F v g:=by
 have m:=h;have⟨t,n,p⟩:=h;rcases p with⟨rfl,rfl⟩|⟨b,d,a,T,l,rfl,o,q,s,r,y⟩
 .exact⟨none,0,rfl,V8,.inl Z⟩
 .refine⟨_,a,rfl,V7,.inr ⟨b,d,rfl,o,λi x f=>⟨e.enc x,λj u c=>?_,rfl,?_⟩⟩⟩
  .have:=Hz.cell m f c;simp only[PE,gQ]at this;exact this
  .refine zA2.2 λu c=>zA2.1 n u ?_;simp only[cellsOf,List.mem_flatMap];exact⟨x,zAo f,c⟩
section
variable {P:Program} {rd:V1 Nat} {c:zW} {n:Sz} {σ:Fr} {M L:V6 bF} {Q:Exit->Act->V2->Prop} {ops:Array V5} {rest:V6 V5} {G:Act->V2->Prop} {GR:Act->V2->V6 (Nat×V2)->V6 (Nat×(V2->Prop))->Prop} {H Bs:V6 (Nat×V6 bF×V6 bF)}
variable {dt:V1 Tmp} {ty:V9} {pos:String} {aft:Array Edge} {g:V1 (Nat×V4)}
variable {α δ:Type} {e:iW (α×δ)} {f:α->δ->bF} {r:iN δ} {v u:V0} {us us2:V6 α} {ds ds2:V6 δ}
structure Dec (e:iW (α×δ)) (f:α->δ->bF) (r:iN δ):Prop where
 sz:r.sz=e.sz
 fwd:∀{w S a d},(f a d).p w S->r.R w S (e.enc (a,d)) d
 bwd:∀{w S cs d},r.R w S cs d->∃a,cs=e.enc (a,d)/\(f a d).p w S
 one:∀{w S a d},(f a d).p w S->(e.enc (a,d)).all one=true
def Rz (e:iW (α×δ)) (v:V0) (us:V6 α) (ds:V6 δ):bF where
 p w S:=us.length=ds.length/\LG e.rep1 w S v (us.zip ds)
 mono:=λh k=>⟨h.1,h.2.mono k⟩
def Ad (e:iW (α×δ)) (v:V0) (us:V6 α) (ds:V6 δ):bF where
 p w F:=us.length=ds.length/\Hz e w F v (us.zip ds)
 mono:=λh k=>⟨h.1,(Ar e v (us.zip ds)).mono h.2 k⟩
theorem SI {i:Nat} {a:α} {d:δ} (b:us[i]?=some a) (h:ds[i]?=some d):(us.zip ds)[i]?=some (a,d):=List.getElem?_zip_eq_some.2 ⟨b,h⟩
theorem wZ (h:us.length=ds.length):(us.zip ds).length=ds.length:=by rw[List.length_zip];omega
theorem aeR (h:us.length=ds.length):us.zip ds++us2.zip ds2=(us++us2).zip (ds++ds2):=(List.zip_append h).symm
theorem Yg (k:Nat) (a:α) (d:δ):∀(us:V6 α) (ds:V6 δ),∀k,(us.zip ds).set k (a,d)=(us.set k a).zip (ds.set k d)
 | [],_,k=>by cases k<;>simp
 |_::_,[],k=>by cases k<;>simp
 |x::us,y::ds,0=>by simp
 |x::us,y::ds,k+1=>by simp[Yg k a d us ds k]
theorem MK {α:Type} (j:Nat->α->Prop):∀m:Nat,(∀i,i<m->∃a,j i a)->∃us:V6 α,us.length=m/\∀(i:Nat) a,us[i]?=some a->j i a
 |0,_=>⟨[],rfl,λi a h=>by simp at h⟩
 | m + 1, h =>by
  have⟨us,p,q⟩:=MK j m λi k=>h i V7;have⟨a,o⟩:=h m V7;refine⟨us++[a],by simp[p],λi b d=>?_⟩
  by_cases k:i<us.length
  .rw[zAe k]at d;exact q i b d
  .rw[zA9 V7]at d;have l:i - us.length=0:=by have:=bM d;simp at this;omega
   rw[l]at d;simp at d;subst d;have:i=m:=V7
   subst this;exact o
theorem aer (t:Dec e f r) {w:V2} {S:Nat->Prop} (h:LG r w S v ds):∃us:V6 α,us.length=ds.length/\LG e.rep1 w S v (us.zip ds)/\∀(i:Nat) a d,us[i]?=some a->ds[i]?=some d->(f a d).p w S:=by
 have⟨a,l,C,z,h⟩:=h;rcases h with rfl|⟨b,s,q,F,h⟩
 .exact⟨[],rfl,⟨a,l,C,z,.inl Z⟩,λi a d h=>by simp at h⟩
 .have⟨us,y,B⟩:=MK (λi a=>∃d,ds[i]?=some d/\(∀j u,(e.enc (a,d))[j]?=some u->w.cell? ⟨b,s+(i*r.sz+j),none⟩=some u)/\(f a d).p w S) ds.length λi A=>by
   have⟨N,m,o⟩:=h i ds[i] (zA1 A);obtain⟨a,rfl,q⟩:=t.bwd o;exact⟨a,_,zA1 A,m,q⟩
  refine⟨us,y,⟨a,l,by rw[wZ y];exact C,by rw[wZ y];exact z,.inr ⟨b,s,q,F,λi x K=>?_⟩⟩,λi a d m o=>?_⟩
  .have⟨a,d⟩:=x;have⟨q,I⟩:=List.getElem?_zip_eq_some.1 K;have⟨D,k,m,o⟩:=B i a q;rw[I]at k;cases k;exact⟨_,λj u J=>by rw[show e.rep1.sz=r.sz from t.sz.symm];exact m j u J,rfl,t.one o⟩
  .have⟨D,k,_,E⟩:=B i a m;rw[o]at k;cases k;exact E
theorem St.open (hD:Dec e f r) {w:World} (h:aQ [] L (Sl r v ds)) (t:St c M L w):∃us,St c M (Rz e v us ds::Pw f us ds::L) w:=by
 obtain⟨ho,F,hF,hL⟩:=t;have hs:=h w (HB c F) (λ_ _=>False) (HB c F) hL (λi m hm=>by simp at hm) (λ_ h=>h) (λ_ _ h=>h.elim);obtain⟨us,h1,h2,h3⟩:=aer hD hs;refine⟨us,ho,F,hF,λx hx=>?_⟩
 rcases zAi.1 hx with rfl|hx
 .exact⟨h1,h2⟩
 rcases zAi.1 hx with rfl|hx
 .exact⟨h1,h3⟩
 .exact hL x hx
theorem xE (hD:Dec e f r) (h:aQ [] L (Sl r v ds)) (k:∀us,J c n σ M (Rz e v us ds::Pw f us ds::L) G):J c n σ M L G:=λa w s t=>by
 obtain⟨us,hu⟩:=St.open hD h t;exact k us a w s hu
theorem Ob (hD:Dec e f r) (h:aQ [] L (Sl r v ds)) (k:∀us,JR c n σ M (Rz e v us ds::Pw f us ds::L) H Bs GR):JR c n σ M L H Bs GR:=λa w X Y s t hX hY=>by
 obtain⟨us,hu⟩:=St.open hD h t;exact k us a w X Y s hu hX hY
theorem Oc {i:Nat} (a:M[i]?=some (Ad e v us ds)):aQ M L (Rz e v us ds):=(aQ.res i a).mono λh=>⟨h.1,Hz.rep1 h.2⟩
theorem yY {f g:bF} (h:aQ M L (f.and g)):aQ M L f:=h.mono λh=>h.1
theorem yZ {f g:bF} (h:aQ M L (f.and g)):aQ M L g:=h.mono λh=>h.2
theorem XN [Inhabited α] [Inhabited δ] {w:V2} {S:Nat->Prop} (h:(Rz e v us ds).p w S) {i:Int} (a:0<=i) (b:i<ds.length):(e.enc (at' us i,at' ds i)).all one=true/\∀j u,(e.enc (at' us i,at' ds i))[j]?=some u->w.cell? (PE v (i.toNat*e.sz+j))=some u:=by
 have⟨m,h⟩:=h;obtain⟨l,⟨rfl,d⟩,k⟩:=sl_cell h (SI (jI a (show i<us.length by omega)) (jI a b));exact⟨d,k⟩
theorem sZ [eB P] [Inhabited α] [Inhabited δ] {T:V9} {B C q o:Nat} {z:V0} {b:TypeDesc} {x:V3} {i:Int} {gv:α->V0} (A:ev σ x=some (IR v (i.toNat*q+o))) (p:aQ M L (Rz e v us ds))
  (k:eB.tab P T=some ⟨b,B,C,z⟩) (m:Bh b=false) (y:e.sz=q) (l:∀a d,(e.enc (a,d))[o]?=some (gv a)) (h:0<=i/\i<ds.length):
  Y P c n σ M L ⟨dt,.load T x,ty,pos,aft,g⟩ (gv (at' us i)):=λa w s t=>by
 have⟨S,j⟩:=p.st t;have:=(XN j h.1 h.2).2 o _ (l _ _);rw[y]at this;simp[execOp,s.eval A,IR,zQ (eB.ok k) m this]
theorem sS [eB P] [Inhabited α] [Inhabited δ] {T:V9} {D q:Nat} {z:V0} {k:TypeDesc} {x:V3} {i:Int} {cs:V6 V0} (C:ev σ x=some (IR v (i.toNat*q))) (p:aQ M L (Rz e v us ds)) (b:e.enc (at' us i,at' ds i)=cs)
  (m:eB.tab P T=some ⟨k,cs.length,D,z⟩) (o:Bh k=true) (y:e.sz=q) (h:0<=i/\i<ds.length):Y P c n σ M L ⟨dt,.load T x,ty,pos,aft,g⟩ (.agg cs.toArray):=λa w s t=>by
 have⟨S,l⟩:=p.st t;have d:=(XN l h.1 h.2).2;subst b y;have:=GB (w:=w) (A:=PE v (i.toNat*e.sz)) (cs:=e.enc (at' us i,at' ds i)) (eB.ok m) o Z (λj u B=>by rw[NF];exact d j u B);simp[execOp,s.eval C,IR,this]
theorem Eh {l g:bF} (i:Nat) (o:M[i]?=some l) (h:∀{w F},l.p w F->g.p w F):jG M L (M.set i g) L:=λc w t=>by
 have⟨s,F,a,q⟩:=t;have d:=bM o;refine⟨s,F,⟨λj m b=>?_,a.rng,a.dis⟩,q⟩
 by_cases k:i=j
 .subst k;rw[zAh d]at b;cases b;exact h (a.res i _ o)
 .rw[zAu k]at b;exact a.res j m b
theorem aO.conv {A:Type} {o:V5} {b:A->V0} {i M2 d L2:A->V6 bF} (h:aO P c n σ M L o b i d) (k:∀x,jG (i x) (d x) (M2 x) (L2 x)):aO P c n σ M L o b M2 L2:=λa w s t=>
 pG (λ_ _ ⟨x,j,l⟩=>⟨x,j,k x c _ l⟩) (h a w s t)
theorem S_ [eB P] {T E:V9} {k A B d C:Nat} {z D:V0} {l:TypeDesc} {j:V6 (Nat×V3)} (us:V6 α) (ds:V6 δ) (vs:V6 (Nat×V0))
  (y:j.map (λp=>(p.1,ev σ p.2))=vs.map (λp=>(p.1,some p.2))) (q:eB.tab P T=some ⟨.slice E,A,B,z⟩) (o:eB.tab P E=some ⟨l,d,C,D⟩) (w:Nat.ble (k*d) 16777216=true)
  (b:∀a:Array V0,a.size=k*d->Instr.fill (λi=>some (i*d,d)) a vs=some (cellsOf e (us.zip ds)).toArray)
  (s:(us.zip ds).length=k) (t:Nat.ble (us.zip ds).length 140737488355328=true) (m:(cellsOf e (us.zip ds)).all one=true) (x:us.length=ds.length):
  aO P c n σ M L ⟨dt,.buildSlice T k j.toArray,ty,pos,aft,g⟩ (λv:V0=>v) (λv=>Ad e v us ds::M) (λ_=>L):=
 (fX (us.zip ds) vs y q o w b s t m).conv λv=>Eh 0 Z λh=>⟨x,h⟩
theorem St.appendD [eB P] {w:V2} (t:St c M L w) {i:Nat} {x:V0} {T E ty:V9} {K N l:Nat} {z q:V0} {s:TypeDesc} (p:M[i]?=some (Ad e v us ds)) (k:us2.length=ds2.length) (F:Src P e.sz T x ds2.length (cellsOf e (us2.zip ds2)) w) (m:(cellsOf e (us2.zip ds2)).all one=true)
  (B:eB.tab P T=some ⟨.slice E,K,N,z⟩) (A:eB.tab P E=some ⟨s,e.sz,l,q⟩) (y:Nat.ble l 1024=true) (R:(ds.length:Int)+ds2.length<=1099511627) (J:q.cells.size=e.sz):
  ∃b d,(Builtin.append_ #[T,T] ty #[v,x]).run P w = .ok b d/\St c (M.set i (Ad e b (us++us2) (ds++ds2))) L d:=by
 have o:l<=1024:=by simpa using y
 obtain⟨_,j⟩:=t.res p;have a:=bM p;have C:((us.zip ds).length+(us2.zip ds2).length)*l<=140737488355328:=by
  rw[wZ j.1,wZ k];exact zAz (Nat.mul_le_mul (show ds.length+ds2.length<=1099511627 by omega) o) Q2
 have O:=Eh (g:=Ar e v (us.zip ds)) (L:=L) i p (λh=>h.2) c w t;obtain⟨b,d,D,I⟩:=O.append (i:=i) (ty:=ty) (xs:=us.zip ds) (ys:=us2.zip ds2) (zAh a) (by rw[wZ k];exact F) m B A C (by rw[wZ j.1,wZ k];omega) J;refine⟨b,d,D,?_⟩
 have:=Eh (g:=Ad e b (us++us2) (ds++ds2)) (L:=L) i (zAh (by simpa using a)) (λh=>⟨by simp[j.1,k],by rw[<-aeR j.1];exact h⟩) c d I;simpa [List.set_set]using this
theorem aO.appendD [eB P] (i j:Nat) {x y:V3} {T E:V9} {S U d m:Nat} {z o:V0} {p:TypeDesc} (N:ev σ x=some v) (O:ev σ y=some u) (C:M[i]?=some (Ad e v us ds)) (D:M[j]?=some (Ad e u us2 ds2))
  (l:eB.tab P T=some ⟨.slice E,S,U,z⟩) (B:eB.tab P E=some ⟨p,d,m,o⟩) (q:e.sz=d) (A:Nat.ble m 1024=true) (I:(ds.length:Int)+ds2.length<=1099511627) (R:o.cells.size=d):
  aO P c n σ M L ⟨dt,.call ⟨.builtin .append,#[x,y],#[T,T]⟩,ty,pos,aft,g⟩ (λb:V0=>b) (λb=>M.set i (Ad e b (us++us2) (ds++ds2))) (λ_=>L):=λa w s t=>by
 subst q;obtain⟨F,h,k⟩:=t.res D;obtain⟨b,V,J,K⟩:=t.appendD (ty:=ty) C h (by have:=Hz.src k l;rwa[wZ h]at this) k.2.1 l B A I R;simp only[Oper.wp,HY s N O w,J,Result.andThen_ok,Oper.upon];exact⟨b,rfl,K⟩
theorem Ta [eB P] [Inhabited α] [Inhabited δ] (j:Nat) {T:V9} {W k o q:Nat} {z:V0} {F:TypeDesc} {x y:V3} {E:V0} {cs:V6 V0} {i:Int} (b:α) (d:δ) (h:0<=i/\i<ds.length) (U:ev σ x=some (IR v (i.toNat*q+o))) (V:ev σ y=some E)
  (A:M[j]?=some (Ad e v us ds)) (O:e.sz=q) (R:E.cells=cs.toArray) (K:cs.length=k) (N:Nat.ble (o+k) q=true) (B:e.enc (b,d)=(e.enc (at' us i,at' ds i)).take o++cs++(e.enc (at' us i,at' ds i)).drop (o+k)) (p:cs.all one=true) (I:eB.tab P T=some ⟨F,k,W,z⟩):
  aO P c n σ M L ⟨none,.store T x y,ty,pos,aft,none⟩ (λ_:Unit=>undef) (λ_=>M.set j (Ad e v (us.set i.toNat b) (ds.set i.toNat d))) (λ_=>L):=λa w s t=>by
 have⟨_,m⟩:=t.res A;have l:=bM A;have S:=m.1;have X:=Eh (g:=Ar e v (us.zip ds)) (L:=L) j A (λh=>h.2) c w t;have J:at' (us.zip ds) i=(at' us i,at' ds i):=by
  have:=SI (jI h.1 (show i<us.length by omega)) (jI h.1 h.2);have D:=jI (xs:=us.zip ds) h.1 (by rw[wZ m.1];exact h.2);rw[this]at D;exact(Option.some.inj D).symm
 have C:=Ef (P:=P) (c:=c) (n:=n) (σ:=σ) (M:=M.set j (Ar e v (us.zip ds))) (L:=L) (ty:=ty) (pos:=pos) (aft:=aft) (T:=T) (xs:=us.zip ds) j (b,d) ⟨h.1,by rw[wZ m.1];exact h.2⟩ U V (zAh l) O R K N (by rw[J];exact B) p I;refine(C.conv (M2:=λ_=>M.set j (Ad e v (us.set i.toNat b) (ds.set i.toNat d))) (L2:=λ_=>L) λ_=>?_) a w s X;have:=Eh (M:=(M.set j (Ar e v (us.zip ds))).set j (Ar e v ((us.zip ds).set i.toNat (b,d)))) (g:=Ad e v (us.set i.toNat b) (ds.set i.toNat d)) (L:=L) j (zAh (by simpa using l)) (λh=>⟨by simp[m.1],by rw[<-Yg 0 b d];exact h⟩);simpa [List.set_set]using this
theorem OP {b:Type} {q:iN b} {w:V2} {S:Nat->Prop} {v:V0} {j:V6 b} (h:LG q w S v j):one v=true:=by
 have⟨a,d,i,_⟩:=h;rw[i];rfl
end
section
variable {P:Program} {c:zW} {n:Sz} {σ:Fr} {M L:V6 bF}
variable {d:V1 Tmp} {ty:V9} {pos:String} {aft:Array Edge} {g:V1 (Nat×V4)}
theorem Gl [eB P] {T E:V9} {k u v e A:Nat} {z B:V0} {j:TypeDesc} {x y:V3} {b o:Nat} {i:Int} (q:ev σ x=some (.pointer (some ⟨b,o,none⟩))) (r:ev σ y=some (.int .i64 i))
  (p:eB.tab P T=some ⟨.array k E,u,v,z⟩) (m:eB.tab P E=some ⟨j,e,A,B⟩) (l:(e==0)=false) (h:0<=i/\i<(k:Int)):
  Y P c n σ M L ⟨d,.indexAddr T x y,ty,pos,aft,g⟩ (.pointer (some ⟨b,o+i.toNat*e,none⟩)):=λa w s t=>by
 have f:e≠0:=by simpa using l
 simp[execOp,s.eval q,s.eval r,Instr.indexAt,asIntOf,(eB.ok p).run_und w,h,Instr.sureAddr,(eB.ok m).run_size w,f,gQ]
theorem TG {cs:V6 V0} (b:V6 Int) {o e j:Nat} {i:Int} (h:0<=i/\i<(b.length:Int)) (a:∀k,k<b.length->cs[o+k*e+j]?=some (.int .i64 (at' b (k:Int)))):cs[o+i.toNat*e+j]?=some (.int .i64 (at' b i)):=by
 have:=a i.toNat V7;rw[Int.toNat_of_nonneg h.1]at this;exact this
end
section
variable {P:Program} {rd:V1 Nat} {c:zW} {n:Sz} {σ:Fr} {M L:V6 bF} {G:Act->V2->Prop}
variable {d:V1 Tmp} {ty:V9} {pos:String} {aft:Array Edge} {g:V1 (Nat×V4)}
theorem St.split {w:V2} (t:St c M L w) (i:Nat) {X:Type} {m:bF} {m1 m2:X->bF} (Q:M[i]?=some m)
  (R:∀{w F},m.p w F->∃(x:X) (A B:Nat->Prop),(m1 x).p w A/\(m2 x).p w B/\(∀k,A k->F k)/\(∀k,B k->F k)/\∀k,A k->¬B k):∃x,St c (m1 x::m2 x::M.eraseIdx i) L w:=by
 have⟨S,F,o,O⟩:=t;have⟨x,A,B,K,N,v,y,E⟩:=R (o.res i _ Q);let u:Nat->Nat:=λq=>if q<i then q else q+1;have D:∀q r,u q=u r->q=r:=by intro q r;simp only[u];split<;>split<;>omega
 have s:∀q,u q≠i:=by intro q;simp only[u];split<;>omega
 refine⟨x,S,λq b=>(q=0/\A b)\/(q=1/\B b)\/∃r,q=r+2/\F (u r) b,⟨?_,?_,?_⟩,λf z=>?_⟩
 .intro q C j
  match q,j with
  |0,j=>
   obtain rfl:=Option.some.inj j;exact bF.same K (λb a=>.inl ⟨rfl,a⟩) (λ_ _ _=>rfl)
  |1,j=>
   obtain rfl:=Option.some.inj j;exact bF.same N (λb a=>.inr (.inl ⟨rfl,a⟩)) (λ_ _ _=>rfl)
  | r + 2, j =>
   have j:(M.eraseIdx i)[r]?=some C:=j;have e:M[u r]?=some C:=by
    rw[List.getElem?_eraseIdx]at j;simp only[u];split
    .rename_i h;rwa[if_pos h]at j
    .rename_i h;rwa[if_neg h]at j
   exact bF.same (o.res _ C e) (λb a=>.inr (.inr ⟨r,rfl,a⟩)) (λ_ _ _=>rfl)
 .rintro q b (⟨_,a⟩|⟨_,a⟩|⟨r,_,a⟩)
  .exact o.rng _ b (v b a)
  .exact o.rng _ b (y b a)
  .exact o.rng _ b a
 .rintro q T b (⟨H,a⟩|⟨H,a⟩|⟨r,H,a⟩) (⟨I,l⟩|⟨I,l⟩|⟨J,I,l⟩)
  .omega
  .exact absurd l (E b a)
  .exact absurd (o.dis _ _ b l (v b a)) (s J)
  .exact absurd a (E b l)
  .omega
  .exact absurd (o.dis _ _ b l (y b a)) (s J)
  .exact absurd (o.dis _ _ b a (v b l)) (s r)
  .exact absurd (o.dis _ _ b a (y b l)) (s r)
  .have:=D _ _ (o.dis _ _ b a l);omega
 .refine bF.same (O f z) (λb a=>⟨a.1,?_⟩) (λ_ _ _=>rfl);rintro q (⟨_,h⟩|⟨_,h⟩|⟨r,_,h⟩)
  .exact a.2 _ (v b h)
  .exact a.2 _ (y b h)
  .exact a.2 _ h
abbrev Zs:iW (V0×(Int×V6 Int)):=⟨2,Q2,λx=>[.int .i64 x.2.1,x.1],λ_=>rfl⟩
abbrev flp (a:V0) (d:Int×V6 Int):bF:=Sl (iN.int .i64) a d.2
abbrev Rlp:iN (Int×V6 Int):=iN.pair (iN.int .i64) (LV (iN.int .i64))
theorem Dlp:Dec Zs flp Rlp where
 sz:=rfl
 fwd:=λ{w S a d} h=>⟨[_],_,rfl,rfl,⟨_,rfl,h⟩⟩
 bwd:=by
  rintro w S j d ⟨f,k,rfl,b,e⟩;have b:f=[.int .i64 d.1]:=b;subst b;obtain⟨i,rfl,e⟩:=e;exact⟨i,rfl,e⟩
 one:=λ{w S a d} h=>cI Z (cI (OP h) Z)
abbrev Jz (a:V6 (Int×V6 Int)):V6 (V6 Int):=a.map λx=>x.2
theorem ael (a:V6 (Int×V6 Int)):(Jz a).length=a.length:=V8
theorem aem (a:V6 (Int×V6 Int)) (k:Nat) (y:Int×V6 Int):(Jz a).set k y.2=Jz (a.set k y):=by simp[List.map_set]
theorem aek (a:V6 (Int×V6 Int)) (y:Int×V6 Int):Jz a++[y.2]=Jz (a++[y]):=V8
theorem abf (a:V6 (Int×V6 Int)) (k:Nat):(Jz a).take k=Jz (a.take k):=by simp[List.map_take]
def Ns (v:V0) (j:V6 (Int×V6 Int)):bF where
 p w F:=∃(f:V6 V0) (A B:Nat->Prop),(Ad Zs v f j).p w A/\(sR (iW.int .i64) f (Jz j)).p w B/\(∀k,A k->F k)/\(∀k,B k->F k)/\∀k,A k->¬B k
 mono:=by
  rintro w t S s ⟨f,A,B,q,r,l,m,o⟩ i;exact⟨f,λk=>A k/\k<w.heap.size,λk=>B k/\k<w.heap.size,(Ad Zs v f j).mono q λk e h=>⟨⟨e,h⟩,(i k (l k e) h).2⟩,(sR _ f _).mono r λk e h=>⟨⟨e,h⟩,(i k (m k e) h).2⟩,λk e=>(i k (l k e.1) e.2).1,λk e=>(i k (m k e.1) e.2).1,λk a b=>o k a.1 b.1⟩
theorem Vi:jG M L (Ns (.slice none 0 0) []::M) L:=jG.add λw=>⟨[],λ_=>False,λ_=>False,⟨rfl,V8,rfl,.inl ⟨rfl,rfl⟩⟩,⟨rfl,λ_ _=>False,λi v b a=>by simp at a,λ_ _ h=>h,λ_ _ _ h=>h.elim⟩,λ_ h=>h,λ_ h=>h,λ_ h=>h.elim⟩
theorem Nx (i j:Nat) {v:V0} {f:V6 V0} {h:V6 (Int×V6 Int)} {a:V6 (V6 Int)} (b:Nat.beq i j=false) (p:M[i]?=some (Ad Zs v f h)) (q:M[j]?=some (sR (iW.int .i64) f a)) (o:a=Jz h):jG M L ((M.set i (Ns v h)).eraseIdx j) L:=λc w t=>
 t.merge i j (λe=>by subst e;simp at b) p q λk l m=>by subst o;exact⟨f,_,_,k,l,λ_=>.inl,λ_=>.inr,m⟩
theorem aeU (i:Nat) {v:V0} {xs:List (Int×List Int)} (hi:M[i]?=some (Ns v xs)) (k:∀us,J c n σ (Ad Zs v us xs::sR (iW.int .i64) us (Jz xs)::M.eraseIdx i) L G):J c n σ M L G:=λa w s t=>by
 obtain⟨us,hu⟩:=t.split i (m1:=λus=>Ad Zs v us xs) (m2:=λus=>sR (iW.int .i64) us (Jz xs)) hi λh=>h;exact k us a w s hu
theorem aff {z m:Type} {e:iW (z×m)} {f:z->m->bF} {r:iN m} (B:Dec e f r) {w:V2} {A U:Nat->Prop} {v:V0} {y:V6 z} {q:V6 m} (j:(Ad e v y q).p w A) (s:∀k,A k->U k) (N:∀(i:Nat) a d,y[i]?=some a->q[i]?=some d->(f a d).p w U):(Sl r v q).p w U:=by
 have⟨u,j⟩:=j;have j:=Hz.rep1 j;have⟨a,o,D,C,h⟩:=j;rw[wZ u]at D C;refine⟨a,o,D,C,?_⟩
 rcases h with h|⟨b,x,J,I,h⟩
 .refine .inl (zAl ?_);rw[<-wZ u,h];rfl
 .refine .inr ⟨b,x,J,s b I,λk d t=>?_⟩;have K:k<y.length:=by rw[u];exact bM t
  have l:=zA1 K;have⟨E,F,H,O⟩:=h k _ (SI l t);exact⟨E,by rw[B.sz];exact F,by rw[H];exact B.fwd (N k _ _ l t)⟩
theorem abE {w:V2} {B U:Nat->Prop} {b:V6 V0} {e:V6 (Int×V6 Int)} (l:(sR (iW.int .i64) b (Jz e)).p w B) (h:∀k,B k->U k) (i:Nat) (a:V0) (d:Int×V6 Int) (m:b[i]?=some a) (o:e[i]?=some d):(flp a d).p w U:=by
 have⟨_,r,f,j,_⟩:=l;exact(Hz.sl (KI .i64) (f i a d.2 m (by rw[List.getElem?_map,o];rfl))).mono λk q _=>⟨h k (j i k q),rfl⟩
theorem CX {i j:Nat} {v:V0} {f:V6 V0} {a:V6 (Int×V6 Int)} (h:M[i]?=some (Ad Zs v f a)) (k:M[j]?=some (sR (iW.int .i64) f (Jz a))):aQ M L (Sl Rlp v a):=λw S T U l b m e=>
 aff Dlp (b i _ h) (e i) (abE (b j _ k) (e j))
theorem Ag {i:Nat} {v:V0} {b:V6 (Int×V6 Int)} (o:M[i]?=some (Ns v b)):aQ M L (Sl Rlp v b):=λw S T U p m q a=>by
 have⟨r,A,B,j,l,e,f,_⟩:=m i _ o;exact aff Dlp j (λk h=>a i k (e k h)) (abE l λk h=>a i k (f k h))
abbrev kI (x:Int):V0:= .int .i64 x
abbrev fnV (f:Nat):V0:= .func (.func f) #[] #[]
def FT (q:Int->V1 Nat) (r:Nat):bF where
 p w F:=∃l,(Mp kI fnV r l).p w F/\∀k,lM k l=q k
 mono:=by
  rintro w h S f ⟨l,a,b⟩ e;exact⟨l,(Mp kI fnV r l).mono a e,b⟩
theorem sR.take {j:Type} {e:iW j} {w:V2} {B:Nat->Prop} {f:V6 V0} {xss:V6 (V6 j)} (h:(sR e f xss).p w B) (k:Nat):(sR e (f.take k) (xss.take k)).p w B:=by
 have⟨q,G,l,m,o⟩:=h;refine⟨by simp[q],G,λi v xs a b=>l i v xs ?_ ?_,m,o⟩
 .rw[zAn]at a;split at a
  .exact a
  .cases a
 .rw[zAn]at b;split at b
  .exact b
  .cases b
theorem UM {e f:Type}:∀(k:Nat) (b:V6 e) (a:V6 f),(b.zip a).take k=(b.take k).zip (a.take k)
 |0,b,a=>by simp
 |k+1,[],a=>by simp
 |k+1,u::b,[]=>by simp
 |k+1,u::b,d::a=>by simp[UM k b a]
theorem PD (j:Nat) {v:V0} {e:V6 (Int×V6 Int)} {k:Int} {sz:Nat} (q:M[j]?=some (Ns v e)) (h:0<=(0:Int)/\0<=k/\k<=(e.length:Int)):jG M L (M.set j (Ns (Mw v (0:Int).toNat k.toNat sz) (e.take k.toNat))) L:=
 Eh j q (by
  rintro w F ⟨r,A,B,⟨f,o⟩,p,i,l,m⟩;have a:=NX (sz:=sz) (k:=k) o h.2.1 (by rw[wZ f];exact h.2.2);rw[UM]at a;have b:=sR.take p k.toNat;rw[abf]at b;exact⟨r.take k.toNat,A,B,⟨by simp[f],a⟩,b,i,l,m⟩)
theorem Fp {k l:Type} {e:iW (k×l)} (i:Nat) {v:V0} {r:V6 k} {j:V6 l} (p:M[i]?=some (Ad e v r j)):∀c w,St c M L w->afR v j.length:=λc w t=>by
 have⟨_,q,_,_,o⟩:=t.res p;rw[<-wZ q];rcases o with⟨rfl,h⟩|⟨b,f,a,T,m,rfl,_⟩
 .rw[h];exact⟨none,0,rfl,.inl Z⟩
 .exact⟨_,a,rfl,.inr ⟨b,f,rfl⟩⟩
theorem Qm {i:Type} {e:iW i} (j:Nat) {f:V6 V0} {b a:V6 (V6 i)} (l:M[j]?=some (sR e f b)) (h:b=a):jG M L (M.set j (sR e f a)) L:=Eh j l λ{w F} k=>by rw[<-h];exact k
theorem Rb [eB P] (q j:Nat) {T:V9} {U:Nat} {z:V0} {H:TypeDesc} {x y:V3} {v u:V0} {l:V6 V0} {m:V6 (Int×V6 Int)} {f:V6 (V6 Int)} {i:Int} (p:Int×V6 Int) (h:0<=i/\i<m.length) (Q:ev σ x=some (IR v (i.toNat*2+1))) (R:ev σ y=some u)
  (B:M[q]?=some (Ad Zs v l m)) (N:M[j]?=some (sR (iW.int .i64) (l.set i.toNat u) f)) (K:eB.tab P T=some ⟨H,1,U,z⟩) (r:p.1=(at' m i).1):
  aO P c n σ M L ⟨none,.store T x y,ty,pos,aft,none⟩ (λ_:Unit=>undef) (λ_=>M.set q (Ad Zs v (l.set i.toNat u) (m.set i.toNat p))) (λ_=>L):=λa w s t=>by
 have A:one u=true:=by
  have⟨F,J⟩:=t.res N;have⟨_,I⟩:=t.res B;have W:=I.1;have⟨V,C⟩:=sR.row J (k:=i) h.1 (by rw[zAb];omega);have e:at' (l.set i.toNat u) i=u:=by
   have:=jI (xs:=l.set i.toNat u) (i:=i) h.1 (by rw[zAb];omega);rw[zAh V7]at this;exact(Option.some.inj this).symm
  rw[e]at C;have⟨_,_,O⟩:=C;rcases O with⟨q,_⟩|⟨b,S,D,T,E,q,_⟩<;>rw[q]<;>rfl
 refine Ta (cs:=[u]) (o:=1) (k:=1) (q:=2) q u p h Q R B Z (by rw[eW A]) Z Z ?_ (by simp[A]) K a w s t;show[Value.int .i64 p.1,u]=_;rw[r];rfl
def Cel (b o:Nat) (v:V0):bF where
 p w F:=F b/\∃a T,w.heap[b]?=some (.cells a T (0,0))/\a[o]?=some v
 mono:=fun⟨f,a,T,e,i⟩ h=>by
  have⟨j,k⟩:=h b f (zA8.1 e).1;exact⟨j,a,T,by rw[k];exact e,i⟩
theorem AE (i:Nat) {b o:Nat} {a:V6 V0} {T:V9} {v:V0} (e:M[i]?=some (bU b a T)) (f:a[o]?=some v):jG M L [Cel b o v] []:=λc w t=>by
 have j:St c [bU b a T] [] w:=t.weak (aW.cons i e aW.nil) (λ_ h=>by simp at h);exact Eh (M:=[bU b a T]) (g:=Cel b o v) 0 Z (λh=>⟨h.1,_,_,h.2,by simpa using f⟩) c w j
theorem Fh [eB P] {T:V9} {m p:Nat} {z:V0} {e:TypeDesc} {x:V3} {b o:Nat} {v:V0} (l:ev σ x=some (.pointer (some ⟨b,o,none⟩)))
  (j:eB.tab P T=some ⟨e,m,p,z⟩) (k:Bh e=false):Y P c n σ [Cel b o v] [] ⟨d,.load T x,ty,pos,aft,g⟩ v:=λa w s t=>by
 have⟨F,u,r,q,f,h⟩:=t.res (i:=0) Z;have:w.cell? ⟨b,o,none⟩=some v:=by simp[World.cell?,f,h]
 simp[execOp,s.eval l,zQ (eB.ok j) k this]
theorem jQ {b a:V6 bF} (h:aW M b) (e:jS L a):jG M L b a:=λc w t=>t.weak h e
def Hb (A:Nat->V4) (b a:V6 bF):V6 (Nat×V6 bF×V6 bF)->Prop
 | []=>True
 |h::H=>(A h.1=true\/jG h.2.1 h.2.2 b a)/\Hb A b a H
def uQ (A:Nat->V4) (M L:V6 bF):V6 (Nat×V6 bF×V6 bF)->Prop
 | []=>True
 |b::B=>(A b.1=true\/jG M L b.2.1 b.2.2)/\uQ A M L B
section
variable {A:Nat->V4} {Mx Lx:V6 bF} {j:Nat} {H:V6 (Nat×V6 bF×V6 bF)}
theorem Hb.z:Hb A Mx Lx []:=trivial
theorem uQ.z:uQ A M L []:=trivial
theorem uQ.b (h:A j=true) (k:uQ A M L H):uQ A M L ((j,Mx,Lx)::H):=⟨.inl h,k⟩
theorem uQ.h (h:jG M L Mx Lx) (k:uQ A M L H):uQ A M L ((j,Mx,Lx)::H):=⟨.inr h,k⟩
end
theorem Hb.use {A:Nat->V4} {f e:V6 bF}:∀{H:V6 (Nat×V6 bF×V6 bF)} {X:V6 (Nat×V2)},Hb A f e H->aco c H X->∀x∈X,A x.1=false->St c f e x.2
 | [],[],_,_,x,a,_=>by simp at a
 | [],_::_,_,h,_,_,_=>h.elim
 |_::_,[],_,h,_,_,_=>h.elim
 | h :: H, y :: X, ho, hi, x, a, hA =>by
  rcases zAi.1 a with rfl|a
  .rcases ho.1 with b|b
   .rw[hi.1,hA]at b;cases b
   .exact b c _ hi.2.1
  .exact Hb.use ho.2 hi.2.2 x a hA
theorem uQ.use {A:Nat->V4} {M L:V6 bF} {w:V2} (t:St c M L w):∀{B:V6 (Nat×V6 bF×V6 bF)} {X:V6 (Nat×(V2->Prop))},uQ A M L B->QU c B X->∀x∈X,A x.1=false->x.2 w
 | [],[],_,_,x,a,_=>by simp at a
 | [],_::_,_,h,_,_,_=>h.elim
 |_::_,[],_,h,_,_,_=>h.elim
 | b :: B, y :: X, ho, hi, x, a, hA =>by
  rcases zAi.1 a with rfl|a
  .rcases ho.1 with e|e
   .rw[hi.1]at hA;rw[e]at hA;cases hA
   .rw[hi.1];exact e c _ t
  .exact uQ.use t ho.2 hi.2 x a hA
section
variable {l:V6 V5} {m rs:V6 Nat} {k0:Nat} {H Bs:V6 (Nat×V6 bF×V6 bF)} {Q:Exit->Act->V2->Prop}
theorem LQ {i b:Nat} {j:Op} {v:V0} {f e:V6 bF} (p:l[i]?=some ⟨some b,j,ty,pos,aft,none⟩) (r:jG M L f e)
  (A:Y P c n σ f e ⟨some b,j,ty,pos,aft,none⟩ v) (q:Hb (before m i) f e H)
  (h:JR c n ((b,v)::σ) M L H ((i,f,e)::Bs) (RW P l.toArray Q (before m) (eK l) k0 rs))
  (y:Nat.blt i k0=true:=by exact rfl) (z:gI j=false:=by exact rfl) (x:Nat.blt b n.sz=true:=by exact rfl):JR c n σ M L H Bs (RW P l.toArray Q (before m) (eK l) k0 (i::rs)):=λa w X Y s t o u=>by
 have k:l.toArray[i]?=some ⟨some b,j,ty,pos,aft,none⟩:=by simpa using p
 simp only[RW,k];rw[if_pos (by simp[Region.wanted])];refine .inr (.inl ⟨by simpa [zAp]using y,by simp[eK,p,z],v,St c f e,⟨r c w t,q.use o,λC B=>A a C s B⟩,h _ w X _ (s.put b v x) t o ⟨rfl,u⟩⟩)
theorem ID {A:Type} {e:A->V0} {k j:A->V6 bF} {i b:Nat} {f:Op}
  (q:l[i]?=some ⟨some b,f,ty,pos,aft,none⟩) (z:Nat.blt i k0=true) (B:gI f=true) (C:aO P c n σ M L ⟨some b,f,ty,pos,aft,none⟩ e k j) (y:Nat.blt b n.sz=true)
  (u:∀x,uQ (before m i) (k x) (j x) Bs) (h:∀x,JR c n ((b,e x)::σ) (k x) (j x) ((i,M,L)::H) Bs (RW P l.toArray Q (before m) (eK l) k0 rs)):
  JR c n σ M L H Bs (RW P l.toArray Q (before m) (eK l) k0 (i::rs)):=λa w X Y s t v p=>by
 have o:l.toArray[i]?=some ⟨some b,f,ty,pos,aft,none⟩:=by simpa using q
 simp only[RW,o];rw[if_pos (by simp[Region.wanted])];refine .inr (.inr ⟨by simpa [zAp]using z,by simp[eK,q,B],pG ?_ (C a w s t)⟩);rintro E D ⟨x,rfl,r⟩;exact⟨(u x).use r p,h x _ D _ Y (s.put b _ y) r ⟨rfl,t,v⟩ p⟩
end
theorem Af [eB P] {e:Array V5} {b:V6 V5} {Q:Exit->Act->V2->Prop} {f m:Type} [DecidableEq f] {i:f->V0} {o:m->V0} (j:Nat) {T q N:V9} {I K:Nat} {z:V0} {x y v:V3} {r:Nat} {l:V6 (f×m)} (k:f) (p:m) (u:V6 (f×m)) (D:zL k p l=u) (C:Gj P q i) (F:Go.Sx.ev σ x=some (.map (some r))) (H:Go.Sx.ev σ y=some (i k)) (E:Go.Sx.ev σ v=some (o p)) (B:M[j]?=some (Mp i o r l))
  (A:eB.tab P T=some ⟨.map q N,I,K,z⟩) (h:J c n σ (M.set j (Mp i o r u)) L (wpList P e Q b)):
  J c n σ M L (wpList P e Q (⟨none,.insert T x y v,ty,pos,aft,none⟩::b)):=λa w s t=>
 (Ee (ty:=ty) (pos:=pos) (aft:=aft) j k p C F H E B A (D▸h):J c n σ M L (wpList P e Q (⟨none,.mapUpdate T x y v,ty,pos,aft,none⟩::b))) a w s t
end
end Go.Sx
namespace Go.Proofs.YtemmagadjnlajaaGreatDoor
open Go.Sx
def Jk:bN:=[0,1,28,2,29,14,24,3,30,22,20,15,25,17,4,8,31,27,13,23,21,19,16,7,26,12,18,6,11,5,10,9]
theorem _root_.Go.Sx.Y.bld5 {P:Program} {c:zW} {n:Sz} {a:Fr} {M L:V6 bF} {d:V1 Tmp} {E:V9} {k:String} {j:Array Edge} {g:V1 (Nat×V4)} {T:V9} {b e f h i:Nat} {s t u v x:V3} {l m o p q r:V0} (y:ev a s=some l) (z:ev a t=some m) (A:ev a u=some o) (B:ev a v=some p) (C:ev a x=some q) (D:∀w,(Instr.build T ([(b,l),(e,m),(f,o),(h,p),(i,q)]:V6 (Nat×V0)).toArray).run P w = .ok r w):Y P c n a M L ⟨d,.build T #[(b,s),(e,t),(f,u),(h,v),(i,x)],E,k,j,g⟩ r:=
 Fg (ps:=[(b,s),(e,t),(f,u),(h,v),(i,x)]) (vs:=[(b,l),(e,m),(f,o),(h,p),(i,q)]) (by simp[y,z,A,B,C]) D
theorem _root_.Go.Sx.Y.bld11 {P:Program} {c:zW} {n:Sz} {a:Fr} {M L:V6 bF} {d:V1 Tmp} {ty:V9} {v:String} {t:Array Edge} {g:V1 (Nat×V4)} {T:V9} {h i j k l m o p q s b:Nat} {H I J K N O Q R S U f:V3} {x y z A B C D E F G e r:V0} (V:ev a H=some x) (W:ev a I=some y) (X:ev a J=some z) (h3:ev a K=some A) (h4:ev a N=some B) (h5:ev a O=some C) (h6:ev a Q=some D) (h7:ev a R=some E) (h8:ev a S=some F) (h9:ev a U=some G) (u:ev a f=some e) (hr:∀w,(Instr.build T ([(h,x),(i,y),(j,z),(k,A),(l,B),(m,C),(o,D),(p,E),(q,F),(s,G),(b,e)]:V6 (Nat×V0)).toArray).run P w = .ok r w):Y P c n a M L ⟨d,.build T #[(h,H),(i,I),(j,J),(k,K),(l,N),(m,O),(o,Q),(p,R),(q,S),(s,U),(b,f)],ty,v,t,g⟩ r:=
 Fg (ps:=[(h,H),(i,I),(j,J),(k,K),(l,N),(m,O),(o,Q),(p,R),(q,S),(s,U),(b,f)]) (vs:=[(h,x),(i,y),(j,z),(k,A),(l,B),(m,C),(o,D),(p,E),(q,F),(s,G),(b,e)]) (by simp[V,W,X,h3,h4,h5,h6,h7,h8,h9,u]) hr
abbrev ESt:iW ByteArray:=⟨1,Nat.one_pos,λx=>[.string x],λ_=>rfl⟩
abbrev RSt:iN ByteArray:=⟨1,Nat.one_pos,λ_ _ a x=>a=[.string x],λh=>by simp[h],λh _=>h⟩
theorem FSt:ESt.Fits RSt:=⟨rfl,λh=>h,rfl,λ_=>rfl⟩
theorem aeX:RSt.Cell 0 (λx=>.string x):=λh=>by simp[show _=[_]from h]
abbrev cK:iW Int:=iW.int .i64
abbrev cQ:iN Int:=iN.int .i64
theorem fH:cK.Fits cQ:=KI .i64
theorem gC:cQ.Cell 0 (λx=>.int .i64 x):=KN .i64
abbrev JH:iW (ByteArray×Int×Int×Int×Int×Int):=iW.pair ESt (iW.pair cK (iW.pair cK (iW.pair cK (iW.pair cK (cK)))))
abbrev aN:iN (ByteArray×Int×Int×Int×Int×Int):=iN.pair RSt (iN.pair cQ (iN.pair cQ (iN.pair cQ (iN.pair cQ (cQ)))))
theorem lL:JH.Fits aN:=oJ FSt (oJ fH (oJ fH (oJ fH (oJ fH (fH)))))
theorem rO:aN.Cell 0 (λx=>.string x.1):=mT (aeX)
theorem nU:aN.Cell 1 (λx=>.int .i64 x.2.1):=gG (mT (gC))
theorem Iv:aN.Cell 2 (λx=>.int .i64 x.2.2.1):=gG (gG (mT (gC)))
theorem Iw:aN.Cell 3 (λx=>.int .i64 x.2.2.2.1):=gG (gG (gG (mT (gC))))
theorem Ix:aN.Cell 4 (λx=>.int .i64 x.2.2.2.2.1):=gG (gG (gG (gG (mT (gC)))))
theorem Iy:aN.Cell 5 (λx=>.int .i64 x.2.2.2.2.2):=gG (gG (gG (gG (gG (gC)))))
abbrev cS:iW dW:=iW.pair cK (cK)
abbrev aS:iN dW:=iN.pair cQ (cQ)
theorem dL:cS.Fits aS:=oJ fH (fH)
theorem kS:aS.Cell 0 (λx=>.int .i64 x.1):=mT (gC)
theorem HG:aS.Cell 1 (λx=>.int .i64 x.2):=gG (gC)
abbrev dZ:iN (Int×cJ):=iN.pair cQ ((LV aS))
abbrev Do:iW ((V0)×(Int×cJ)):=⟨2,Q2,λx=>[Value.int .i64 (x.2.1),x.1],λ_=>rfl⟩
abbrev lT (a:V0) (d:Int×cJ):bF:=(Sl aS a d.2)
theorem nF:Dec Do lT dZ where
 sz:=rfl
 fwd:=λ{w S a d} h=>⟨[_],_,rfl,rfl,⟨_,rfl,h⟩⟩
 bwd:=by
  rintro w S cs d ⟨e,g,rfl,b,c⟩;have b:e=[Value.int .i64 (d.1)]:=b;subst b;obtain⟨f,rfl,c⟩:=c;exact⟨(f),rfl,c⟩
 one:=λ{w S a d} h=>(cI Z (cI (OP h) Z))
theorem AD:dZ.Cell 0 (λx=>.int .i64 x.1):=mT (gC)
theorem AF (a:V0) (d:Int×cJ):(Do.enc (a,d))[1]?=some a:=rfl
abbrev aJ:iN (ByteArray×cJ×(V6 (Int×cJ))):=iN.pair RSt (iN.pair (LV aS) ((LV dZ)))
abbrev eQ:iW ((V0×V0)×(ByteArray×cJ×(V6 (Int×cJ)))):=⟨3,Q2,λx=>[Value.string (x.2.1),x.1.1,x.1.2],λ_=>rfl⟩
abbrev bJ (a:GI) (d:By):bF:=(bF.and (Sl aS a.1 d.2.1) (Sl dZ a.2 d.2.2))
theorem dN:Dec eQ bJ aJ where
 sz:=rfl
 fwd:=λ{w S a d} h=>⟨[_],_,rfl,rfl,⟨[_],_,rfl,⟨_,rfl,h.1⟩,⟨_,rfl,h.2⟩⟩⟩
 bwd:=by
  rintro w S cs d ⟨f,k,rfl,b,⟨j,l,rfl,c,e⟩⟩;have b:f=[Value.string (d.1)]:=b;subst b;obtain⟨g,rfl,c⟩:=c;obtain⟨i,rfl,e⟩:=e;exact⟨(g,i),rfl,⟨c,e⟩⟩
 one:=λ{w S a d} h=>(cI Z (cI (OP h.1) (cI (OP h.2) Z)))
theorem qA:aJ.Cell 0 (λx=>.string x.1):=mT (aeX)
theorem qB (a:GI) (d:By):(eQ.enc (a,d))[1]?=some a.1:=rfl
theorem kD (a:GI) (d:By):(eQ.enc (a,d))[2]?=some a.2:=rfl
abbrev UV:iW V4:=iW.bool
abbrev RBo:iN V4:=iN.bool
theorem FBo:UV.Fits RBo:=Pz
theorem aiG:RBo.Cell 0 (λx=>.bool x):=λh=>by simp[show _=[_]from h]
abbrev UW:iW Int:=iW.int .u8
abbrev EFn:iW Nat:=iW.fn
abbrev RFn:iN Nat:=iN.fn
theorem FFn:EFn.Fits RFn:=SO
abbrev No:iW (Int×Nat):=iW.pair cK (EFn)
abbrev acx:iN (Int×Nat):=iN.pair cQ (RFn)
theorem Gh:No.Fits acx:=oJ fH (FFn)
abbrev e_:iW kZ:=iW.pair cK (iW.pair cK (cK))
abbrev nG:iN kZ:=iN.pair cQ (iN.pair cQ (cQ))
theorem iX:e_.Fits nG:=oJ fH (oJ fH (fH))
abbrev rW:iN (Int×bN):=iN.pair cQ ((LV cQ))
abbrev LN:iW ((V0)×(Int×bN)):=⟨2,Q2,λx=>[Value.int .i64 (x.2.1),x.1],λ_=>rfl⟩
abbrev Mj (a:V0) (d:Int×bN):bF:=(Sl cQ a d.2)
theorem SN:Dec LN Mj rW where
 sz:=rfl
 fwd:=λ{w S a d} h=>⟨[_],_,rfl,rfl,⟨_,rfl,h⟩⟩
 bwd:=by
  rintro w S g d ⟨e,i,rfl,b,c⟩;have b:e=[Value.int .i64 (d.1)]:=b;subst b;obtain⟨f,rfl,c⟩:=c;exact⟨(f),rfl,c⟩
 one:=λ{w S a d} h=>(cI Z (cI (OP h) Z))
theorem Te:rW.Cell 0 (λx=>.int .i64 x.1):=mT (gC)
theorem Tu (a:V0) (d:Int×bN):(LN.enc (a,d))[1]?=some a:=rfl
abbrev Re:iN Int:=iN.int .u32
theorem ZJ:Re.Cell 0 (λx=>.int .u32 x):=KN .u32
def vBo (x:V4):V0:=Value.bool (x)
def Zb (x:Nat):V0:=Value.func (.func x) #[] #[]
def Bn (x:Int):V0:=Value.int .i64 (x)
def rM (x:dJ):V0:=Value.agg #[Value.int .i64 (x.1),Value.int .i64 (x.2)]
def Ze (x:ByteArray):V0:=Value.string (x)
theorem aa_ (x y:dJ) (m:Nat) (w:V2):(Op.equalIn (m+2) 100 (.agg #[.int .i64 x.1,.int .i64 x.2]) (.agg #[.int .i64 y.1,.int .i64 y.2])).run prog w = .ok (decide (x=y)) w:=by
 have c:∀a b:Int,(Op.equalIn (m+1) 3 (.int .i64 a) (.int .i64 b)).run prog w = .ok (a==b) w:=by
  intro a b;simp[Op.equalIn]
 unfold Op.equalIn;simp[show List.range' 0 2=[0,1]from rfl,part,isAgg,c];have⟨d,e⟩:=x;have⟨f,g⟩:=y;by_cases h:d=f<;>by_cases i:e=g<;>simp[h,i,c]
theorem zZ:Gj prog 3 Bn:=Gj.plain underlying3 (λb k w=>by
 have c:∀m:Nat,(Instr.checkKey b (m+1) 3 (Bn k)).run prog w = .ok () w:=λm=>by simp[Instr.checkKey,Bn]
 exact c 9999) (λa b=>by simp[Instr.sameNow,Bn];rfl) (λk=>by
 have c:∀m:Nat,Instr.sameBits (m+1) (Bn k) (Bn k)=true:=λm=>by simp[Instr.sameBits,Bn]
 exact c 9999)
theorem Xw:Gj prog 9 Ze:=Gj.plain underlying9 (λb k w=>by
 have c:∀m:Nat,(Instr.checkKey b (m+1) 9 (Ze k)).run prog w = .ok () w:=λm=>by simp[Instr.checkKey,Ze]
 exact c 9999) (λa b=>by simp[Instr.sameNow,Ze];exact aiM a b) (λk=>by
 have c:∀m:Nat,Instr.sameBits (m+1) (Ze k) (Ze k)=true:=λm=>by simp[Instr.sameBits,Ze,aiM]
 exact c 9999)
theorem aam (b:V4) (k:dJ) (w:V2):(Instr.checkKey b 10000 100 (rM k)).run prog w = .ok () w:=by
 have a:∀m:Nat,(Instr.checkKey b (m+2) 100 (rM k)).run prog w = .ok () w:=by
  intro m;simp[Instr.checkKey,rM,part,isAgg,show List.range' 0 2=[0,1]from rfl]
 exact a 9998
theorem RJ:Gj prog 100 rM:=Vd underlying100 aam (λ_ _=>rfl) (λa b w=>aa_ a b 9998 w) (λk=>by
 have c:∀m:Nat,Instr.sameBits (m+2) (rM k) (rM k)=true:=λm=>by simp[Instr.sameBits,rM]
 exact c 9998)
theorem vG (b:V0) (c:one b=true) (a:Array V0) (h:a.size=1*1):Instr.fill (λi=>some (i*1,1)) a [(0,b)]=some [b].toArray:=by
 have⟨l⟩:=a
 match l,h with
 | [z0],_=>simp[Instr.fill,eW c]
theorem Hi (b c:V0) (a:Array V0) (h:a.size=1*2):Instr.fill (λi=>some (i*2,2)) a [(0,.agg #[b,c])]=some [b,c].toArray:=by
 have⟨l⟩:=a
 match l,h with
 | [z0,z1],_=>simp[Instr.fill,Value.cells]
theorem aaG (b c d:V0) (a:Array V0) (h:a.size=1*3):Instr.fill (λi=>some (i*3,3)) a [(0,.agg #[b,c,d])]=some [b,c,d].toArray:=by
 have⟨l⟩:=a
 match l,h with
 | [z0,z1,z2],_=>simp[Instr.fill,Value.cells]
theorem aaH (b c:V0) (d:one b=true) (e:one c=true) (a:Array V0) (h:a.size=2*1):Instr.fill (λi=>some (i*1,1)) a [(0,b),(1,c)]=some [b,c].toArray:=by
 have⟨l⟩:=a
 match l,h with
 | [z0,z1],_=>simp[Instr.fill,eW d,eW e]
theorem TO (b c d e:V0) (a:Array V0) (h:a.size=2*2):Instr.fill (λi=>some (i*2,2)) a [(0,.agg #[b,c]),(1,.agg #[d,e])]=some [b,c,d,e].toArray:=by
 have⟨l⟩:=a
 match l,h with
 | [z0,z1,z2,z3],_=>simp[Instr.fill,Value.cells]
theorem aaI (b c d e f g:V0) (a:Array V0) (h:a.size=3*2):Instr.fill (λi=>some (i*2,2)) a [(0,.agg #[b,c]),(1,.agg #[d,e]),(2,.agg #[f,g])]=some [b,c,d,e,f,g].toArray:=by
 have⟨l⟩:=a
 match l,h with
 | [z0,z1,z2,z3,z4,z5],_=>simp[Instr.fill,Value.cells]
def Ec (a:Int) (b:V4):V1 (Int):=
 if b=true then(some (-1:Int))else(if a<=(17:Int)then(some (0:Int))else(if a<=(29:Int)then(some (1:Int))else(if a<=(42:Int)then(some (2:Int))else(some (3:Int)))))
def qF (U:Nat) (a:Int):V1 (Int):=
 if a<(1:Int)then(Ec a (true))else(Ec a (decide ((43:Int)<a)))
theorem Oi:aX prog 54:=call54
theorem CF {p0:Int} (r:Int) (h:qF U p0=some r):
  aZ prog 54 #[vI (p0)] [] (λx:Unit=>vI (r)) (λx l=>l) (λ_ l=>l):=by
 refine aZ.of func54 Z ntmps54 Z λc=>Q3 Z<|aI<|aU<|aI<|cC (λa=>Ec p0 a=some r) (λa b=>[(0,vI (p0)),(3,vB (a))]) (λa b=>[]) ?_ ?_
 .refine aL<|aA Z<|cX Z<|aA Z<|mL h Z (λ_ h=>?_) λ_ h=>?_
  .exact aD Z<|aD Z<|bO Z<|Q4 Z<|cF (true) () h SF Z
  exact bH Z<|aF Z (mA Z Z) Z<|bT Z<|Q4 Z<|cF (decide ((43:Int)<p0)) () h SF Z
 intro a b h;refine iA h Z (λ_ h=>?_) λ_ h=>?_
 .refine Q3 Z<|aP<|bB<|aG ?_;cases h;exact gM Z
 refine Q5 Z<|aC (nH Z Z) Z<|Q4 Z<|eF h Z (λh=>?_) λh=>?_
 .refine Q3 Z<|aP<|bB<|aG ?_;cases h;exact gM Z
 refine Q5 Z<|aC (nH Z Z) Z<|Q4 Z<|eF h Z (λh=>?_) λh=>?_
 .refine Q3 Z<|aP<|bB<|aG ?_;cases h;exact gM Z
 refine Q5 Z<|aC (nH Z Z) Z<|Q4 Z<|eF h Z (λh=>?_) λh=>?_
 .refine Q3 Z<|aP<|bB<|aG ?_;cases h;exact gM Z
 refine cZ<|jZ<|Q3 Z<|aP ?_;cases h;exact gM Z
def GE (a:Unit):V1 (Int):=
 some (-1:Int)
def sQ (d:cJ) (a:dJ) (c:dW->V1 (Int)):V1 (Int):=
 if a.1<(d.length:Int)then(ck (0<=a.1/\a.1<(d.length:Int)) (Option.bind (qF U ((at' d a.1).1)) λb=>(if b<(0:Int)then(some (-1:Int))else(if(wI .i64 (a.2+(wI .i64 (b - (1:Int)))))=(0:Int)then(some (wI .i64 (a.1+(1:Int))))else(c ((wI .i64 (a.1+(1:Int))),(wI .i64 (a.2+(wI .i64 (b - (1:Int)))))))))))else(GE (()))
def GD (b:cJ) (c:Int) (a:V4):V1 (Int):=
 if a=true then(some (-1:Int))else(bG (sQ U b) U (c,(1:Int)))
def De (b:cJ) (a:Int):V1 (Int):=
 if a<(0:Int)then(GD U b a (true))else(GD U b a (decide ((b.length:Int)<=a)))
theorem Vq:aX prog 50:=call50
theorem KB {g:cJ} {b:Int} (k:V0) (r:Int) (h:De U g b=some r):
  aZ prog 50 #[k,vI (b)] [Sl aS k g] (λx:Unit=>vI (r)) (λx l=>l) (λ_ l=>l):=by
 refine aZ.of func50 Z ntmps50 Z λc=>Q3 Z<|aI<|aI<|cC (λd=>GD U g b d=some r) (λd n=>[(0,k),(1,vI (b)),(14,vB (d))]) (λd n=>[]) ?_ ?_
 .refine aL<|aA Z<|cX Z<|aA Z<|mL h Z (λ_ h=>?_) λ_ h=>?_
  .exact aD Z<|aD Z<|aD Z<|aD Z<|bO Z<|aM<|cF (true) () h SF Z
  exact bH Z<|bH Z<|aF Z (dO Z (cG Z) Z) Z<|aF Z (lD Z Z) Z<|bT Z<|aM<|cF (decide ((g.length:Int)<=b)) () h SF Z
 intro d n h;refine iA h Z (λ_ h=>?_) λ_ h=>?_
 .refine Q3 Z<|aP<|aG ?_;cases h;exact gM Z
 refine bK<|aI<|cC (λj=>GE j=some r) (λj o=>[]) (λj o=>[]) ?_ ?_
 .refine Q3 Z<|aU<|eP (sQ U g) (λa e=>[(0,k),(1,vI (a.1)),(5,vI (a.2))]) (λa e=>[]) (b,(1:Int)) () h SF (aW.refl _) ?_;intro p a e h;refine aI<|Q5 Z<|aA Z<|eL (cG Z) Z<|cX Z<|aM<|eF h Z (λh=>?_) λh=>?_
  .refine bK<|aI<|aU<|Q5 Z<|aA Z<|eX h λf h=>aC (a_ Z Z (cG Z) Z Z f) Z<|aC (cB Z Z Z Z Z) Z<|aC (fW Z (cG Z) Z Z Z kS f) Z<|dG h λi m h=>aK (zB8 Oi (CF U i m) Z .nil) Z λq=>Q4 Z<|aI<|Q5 Z<|cX Z<|aM<|eF h Z (λh=>?_) λh=>?_
   .refine Q3 Z<|aP<|aG<|bB<|aG<|aG<|bB<|aG ?_;cases h;exact gM Z
   refine bK<|Q5 Z<|aA Z<|aC (kT Z Z) Z<|cP Z<|Q4 Z<|Q5 Z<|bP Z<|aM<|eF h Z (λh=>?_) λh=>?_
   .refine Q5 Z<|cP Z<|Q4 Z<|aP<|bB<|aG<|aG<|bB<|aG ?_;cases h;exact gM Z
   exact cZ<|jZ<|aL<|aA Z<|cP Z<|Q4 Z<|Ac ((wI .i64 (a.1+(1:Int))),(wI .i64 (a.2+(wI .i64 (i - (1:Int)))))) () h SF Z
  exact fK<|cF () (()) h SF Z
 intro j o h;unfold GE at h;refine Q3 Z<|aP ?_;cases h;exact gM Z
def Cj (b:Int) (a:V4):V1 (Int):=
 if a=true then(some (2:Int))else(if b=(43:Int)then(some (3:Int))else(some (-1:Int)))
def Ci (a:Int) (b:V4):V1 (Int):=
 if b=true then(some (1:Int))else(if(30:Int)<=a then(Cj a (decide (a<=(42:Int))))else(Cj a (false)))
def Ch (a:Int) (b:V4):V1 (Int):=
 if b=true then(some (0:Int))else(if(18:Int)<=a then(Ci a (decide (a<=(29:Int))))else(Ci a (false)))
def sV (U:Nat) (a:Int):V1 (Int):=
 if(1:Int)<=a then(Ch a (decide (a<=(17:Int))))else(Ch a (false))
theorem ND:aX prog 224:=call224
theorem Eb {b:Int} (r:Int) (h:sV U b=some r):
  aZ prog 224 #[vI (b)] [] (λx:Unit=>vI (r)) (λx l=>l) (λ_ l=>l):=by
 refine aZ.of func224 Z ntmps224 Z λc=>Q3 Z<|aI<|aU<|aI<|cC (λd=>Ch b d=some r) (λd g=>[(0,vI (b)),(3,vB (d))]) (λd g=>[]) ?_ ?_
 .refine aL<|aA Z<|aC (lD Z Z) Z<|aA Z<|mL h Z (λ_ h=>?_) λ_ h=>?_
  .exact bH Z<|aF Z (nH Z Z) Z<|bO Z<|Q4 Z<|cF (decide (b<=(17:Int))) () h SF Z
  exact aD Z<|aD Z<|bT Z<|Q4 Z<|cF (false) () h SF Z
 intro d g h;refine iA h Z (λ_ h=>?_) λ_ h=>?_
 .refine Q3 Z<|aP<|bB<|aG ?_;cases h;exact gM Z
 refine aI<|cC (λe=>Ci b e=some r) (λe i=>[(0,vI (b)),(10,vB (e))]) (λe i=>[]) ?_ ?_
 .refine aL<|aA Z<|aC (lD Z Z) Z<|aA Z<|mL h Z (λ_ h=>?_) λ_ h=>?_
  .exact bH Z<|aF Z (nH Z Z) Z<|bO Z<|Q4 Z<|cF (decide (b<=(29:Int))) () h SF Z
  exact aD Z<|aD Z<|bT Z<|Q4 Z<|cF (false) () h SF Z
 intro e i h;refine iA h Z (λ_ h=>?_) λ_ h=>?_
 .refine Q3 Z<|aP<|bB<|aG ?_;cases h;exact gM Z
 refine aI<|cC (λa=>Cj b a=some r) (λa f=>[(0,vI (b)),(17,vB (a))]) (λa f=>[]) ?_ ?_
 .refine aL<|aA Z<|aC (lD Z Z) Z<|aA Z<|mL h Z (λ_ h=>?_) λ_ h=>?_
  .exact bH Z<|aF Z (nH Z Z) Z<|bO Z<|Q4 Z<|cF (decide (b<=(42:Int))) () h SF Z
  exact aD Z<|aD Z<|bT Z<|Q4 Z<|cF (false) () h SF Z
 intro a f h;refine iA h Z (λ_ h=>?_) λ_ h=>?_
 .refine Q3 Z<|aP<|bB<|aG ?_;cases h;exact gM Z
 refine Q5 Z<|bP Z<|Q4 Z<|eF h Z (λh=>?_) λh=>?_
 .refine Q3 Z<|aP<|bB<|aG ?_;cases h;exact gM Z
 refine cZ<|jZ<|Q3 Z<|aP ?_;cases h;exact gM Z
def EY (a:Unit):V1 (Int):=
 some (-1:Int)
def qG (d:cJ) (a:dJ) (c:dW->V1 (Int)):V1 (Int):=
 if a.2<(d.length:Int)then(ck (0<=a.2/\a.2<(d.length:Int)) (Option.bind (sV U ((at' d a.2).1)) λb=>(if b<(0:Int)then(some (-1:Int))else(if(wI .i64 (a.1+(wI .i64 (b - (1:Int)))))=(0:Int)then(some (wI .i64 (a.2+(1:Int))))else(c ((wI .i64 (a.1+(wI .i64 (b - (1:Int))))),(wI .i64 (a.2+(1:Int)))))))))else(EY (()))
def EX (b:cJ) (c:Int) (a:V4):V1 (Int):=
 if a=true then(some (-1:Int))else(bG (qG U b) U ((1:Int),c))
def Bv (b:cJ) (a:Int):V1 (Int):=
 if a<(0:Int)then(EX U b a (true))else(EX U b a (decide ((b.length:Int)<=a)))
theorem Ru:aX prog 234:=call234
theorem Jf {g:cJ} {b:Int} (k:V0) (r:Int) (h:Bv U g b=some r):
  aZ prog 234 #[k,vI (b)] [Sl aS k g] (λx:Unit=>vI (r)) (λx l=>l) (λ_ l=>l):=by
 refine aZ.of func234 Z ntmps234 Z λc=>Q3 Z<|aI<|aI<|cC (λd=>EX U g b d=some r) (λd n=>[(0,k),(1,vI (b)),(15,vB (d))]) (λd n=>[]) ?_ ?_
 .refine aL<|aA Z<|cX Z<|aA Z<|mL h Z (λ_ h=>?_) λ_ h=>?_
  .exact aD Z<|aD Z<|aD Z<|aD Z<|bO Z<|aM<|cF (true) () h SF Z
  exact bH Z<|bH Z<|aF Z (dO Z (cG Z) Z) Z<|aF Z (lD Z Z) Z<|bT Z<|aM<|cF (decide ((g.length:Int)<=b)) () h SF Z
 intro d n h;refine iA h Z (λ_ h=>?_) λ_ h=>?_
 .refine Q3 Z<|aP<|aG ?_;cases h;exact gM Z
 refine bK<|Q3 Z<|aI<|cC (λj=>EY j=some r) (λj o=>[]) (λj o=>[]) ?_ ?_
 .refine Q5 Z<|Q4 Z<|aU<|eP (qG U g) (λa e=>[(0,k),(5,vI (a.1)),(6,vI (a.2))]) (λa e=>[]) ((1:Int),b) () h SF (aW.refl _) ?_;intro p a e h;refine aI<|Q5 Z<|aA Z<|eL (cG Z) Z<|cX Z<|aM<|eF h Z (λh=>?_) λh=>?_
  .refine bK<|aI<|aU<|Q5 Z<|aA Z<|eX h λf h=>aC (a_ Z Z (cG Z) Z Z f) Z<|aC (cB Z Z Z Z Z) Z<|aC (fW Z (cG Z) Z Z Z kS f) Z<|dG h λi m h=>aK (zB8 ND (Eb U i m) Z .nil) Z λq=>Q4 Z<|aI<|Q5 Z<|cX Z<|aM<|eF h Z (λh=>?_) λh=>?_
   .refine Q3 Z<|aP<|aG<|bB<|aG<|aG<|bB<|aG ?_;cases h;exact gM Z
   refine bK<|Q5 Z<|aA Z<|aC (kT Z Z) Z<|cP Z<|Q4 Z<|Q5 Z<|bP Z<|aM<|eF h Z (λh=>?_) λh=>?_
   .refine Q5 Z<|cP Z<|Q4 Z<|aP<|bB<|aG<|aG<|bB<|aG ?_;cases h;exact gM Z
   exact cZ<|jZ<|aL<|aA Z<|cP Z<|Q4 Z<|Ac ((wI .i64 (a.1+(wI .i64 (i - (1:Int))))),(wI .i64 (a.2+(1:Int)))) () h SF Z
  exact fK<|cF () (()) h SF Z
 intro j o h;unfold EY at h;refine Q3 Z<|aP ?_;cases h;exact gM Z
def sP (a:V4):V1 V4:=
 some (a)
def oF (U:Nat) (a:Int):V1 V4:=
 if(20:Int)<=a then(sP (decide (a<=(29:Int))))else(sP (false))
theorem Rv:aX prog 56:=call56
theorem zR {p0:Int} (r:V4) (h:oF U p0=some r):
  aZ prog 56 #[vI (p0)] [] (λx:Unit=>vB (r)) (λx l=>l) (λ_ l=>l):=by
 refine aZ.of func56 Z ntmps56 Z λc=>Q3 Z<|aI<|cC (λa=>sP a=some r) (λa b=>[(2,vB (a))]) (λa b=>[]) ?_ ?_
 .refine aL<|aA Z<|aC (lD Z Z) Z<|aA Z<|mL h Z (λ_ h=>?_) λ_ h=>?_
  .exact bH Z<|aF Z (nH Z Z) Z<|bO Z<|Q4 Z<|cF (decide (p0<=(29:Int))) () h SF Z
  exact aD Z<|aD Z<|bT Z<|Q4 Z<|cF (false) () h SF Z
 intro a b h;unfold sP at h;refine aP ?_;cases h;exact gM Z
def rE (a:V4):V1 V4:=
 some (a)
def sK (U:Nat) (a:Int):V1 V4:=
 if(20:Int)<=a then(rE (decide (a<=(29:Int))))else(rE (false))
theorem Xa:aX prog 227:=call227
theorem GC {b:Int} (r:V4) (h:sK U b=some r):
  aZ prog 227 #[vI (b)] [] (λx:Unit=>vB (r)) (λx l=>l) (λ_ l=>l):=by
 refine aZ.of func227 Z ntmps227 Z λc=>Q3 Z<|aI<|cC (λa=>rE a=some r) (λa d=>[(2,vB (a))]) (λa d=>[]) ?_ ?_
 .refine aL<|aA Z<|aC (lD Z Z) Z<|aA Z<|mL h Z (λ_ h=>?_) λ_ h=>?_
  .exact bH Z<|aF Z (nH Z Z) Z<|bO Z<|Q4 Z<|cF (decide (b<=(29:Int))) () h SF Z
  exact aD Z<|aD Z<|bT Z<|Q4 Z<|cF (false) () h SF Z
 intro a d h;unfold rE at h;refine aP ?_;cases h;exact gM Z
def uG (a:V4):V1 V4:=
 some (a)
def uH (a:V4):V1 V4:=
 some (a)
def zS (a:dJ) (c:Int) (b:V4):V1 V4:=
 if b=true then(if(0:Int)<=a.2 then(uH (decide (a.2<c)))else(uH (false)))else(some (decide (a.2=(0:Int))))
def AQ (U:Nat) (a:dJ) (b:Int):V1 V4:=
 if a.1=(1:Int)then(if(0:Int)<=a.2 then(uG (decide (a.2<=(1073741824:Int))))else(uG (false)))else(if a.1=(5:Int)then(zS a b (decide (a.1=(5:Int))))else(zS a b (decide (a.1=(12:Int)))))
theorem agq:aX prog 51:=call51
theorem Nl {a:dJ} {g:Int} (r:V4) (h:AQ U a g=some r):
  aZ prog 51 #[Value.agg #[vI (a.1),vI (a.2)],vI (g)] [] (λx:Unit=>vB (r)) (λx l=>l) (λ_ l=>l):=by
 refine aZ.of func51 Z ntmps51 Z λc=>aT<|aK (aO.box (cs:=[vI (a.1),vI (a.2)]) Z Z) Z λi=>Q4 Z<|aI<|aT<|bD Z<|bY 0 Z<|aM<|aU<|aT<|bP Z<|Q4 Z<|eF h Z (λh=>?_) λh=>?_
 .refine aI<|cC (λd=>uG d=some r) (λd j=>[(4,vB (d))]) (λd j=>[]) ?_ ?_
  .refine aL<|bD Z<|bY 0 Z<|aC (lD Z Z) Z<|aA Z<|mL h Z (λ_ h=>?_) λ_ h=>?_
   .exact aF Z (bR Z Z Z Z Z) Z<|aF Z (bX 0 Z Z Z Z Z) Z<|aF Z (nH Z Z) Z<|bO Z<|Q4 Z<|bQ (decide (a.2<=(1073741824:Int))) () h SF .nil (aE.refl _ _)
   exact aD Z<|aD Z<|aD Z<|bT Z<|Q4 Z<|bQ (false) () h SF .nil (aE.refl _ _)
  intro d j h;unfold uG at h;refine aP<|bB<|aG ?_;cases h;exact gM Z
 refine aI<|cC (λe=>zS a g e=some r) (λe k=>[(1,vI (g)),(2,vP i),(17,vB (e))]) (λe k=>[bU i [vI (a.1),vI (a.2)] 126]) ?_ ?_
 .refine aT<|bP Z<|Q4 Z<|eF h Z (λh=>?_) λh=>?_
  .exact bK<|cF (decide (a.1=(5:Int))) () h SF Z
  exact aL<|bP Z<|Q4 Z<|cF (decide (a.1=(12:Int))) () h SF Z
 intro e k h;refine iA h Z (λ_ h=>?_) λ_ h=>?_
 .refine aI<|cC (λb=>uH b=some r) (λb f=>[(4,vB (b))]) (λb f=>[]) ?_ ?_
  .refine aL<|bD Z<|bY 0 Z<|aC (lD Z Z) Z<|aA Z<|mL h Z (λ_ h=>?_) λ_ h=>?_
   .exact aF Z (bR Z Z Z Z Z) Z<|aF Z (bX 0 Z Z Z Z Z) Z<|bH Z<|aF Z (Hg Z Z) Z<|bO Z<|Q4 Z<|bQ (decide (a.2<g)) () h SF .nil (aE.refl _ _)
   exact aD Z<|aD Z<|aD Z<|aD Z<|bT Z<|Q4 Z<|bQ (false) () h SF .nil (aE.refl _ _)
  intro b f h;unfold uH at h;refine aP<|bB<|aG ?_;cases h;exact gM Z
 refine cZ<|jZ<|aT<|bD Z<|bY 0 Z<|bP Z<|Q4 Z<|aP ?_;cases h;exact mK Z
def sN (a:V4):V1 V4:=
 some (a)
def sO (a:V4):V1 V4:=
 some (a)
def wW (a:dJ) (c:Int) (b:V4):V1 V4:=
 if b=true then(if(0:Int)<=a.2 then(sO (decide (a.2<c)))else(sO (false)))else(some (decide (a.2=(0:Int))))
def zJ (U:Nat) (a:dJ) (b:Int):V1 V4:=
 if a.1=(1:Int)then(if(0:Int)<=a.2 then(sN (decide (a.2<=(1073741824:Int))))else(sN (false)))else(if a.1=(5:Int)then(wW a b (decide (a.1=(5:Int))))else(wW a b (decide (a.1=(12:Int)))))
theorem adH:aX prog 223:=call223
theorem MA {a:dJ} {g:Int} (r:V4) (h:zJ U a g=some r):
  aZ prog 223 #[Value.agg #[vI (a.1),vI (a.2)],vI (g)] [] (λx:Unit=>vB (r)) (λx l=>l) (λ_ l=>l):=by
 refine aZ.of func223 Z ntmps223 Z λc=>aT<|aK (aO.box (cs:=[vI (a.1),vI (a.2)]) Z Z) Z λi=>Q4 Z<|aI<|aT<|bD Z<|bY 0 Z<|aM<|aU<|aT<|bP Z<|Q4 Z<|eF h Z (λh=>?_) λh=>?_
 .refine aI<|cC (λd=>sN d=some r) (λd j=>[(4,vB (d))]) (λd j=>[]) ?_ ?_
  .refine aL<|bD Z<|bY 0 Z<|aC (lD Z Z) Z<|aA Z<|mL h Z (λ_ h=>?_) λ_ h=>?_
   .exact aF Z (bR Z Z Z Z Z) Z<|aF Z (bX 0 Z Z Z Z Z) Z<|aF Z (nH Z Z) Z<|bO Z<|Q4 Z<|bQ (decide (a.2<=(1073741824:Int))) () h SF .nil (aE.refl _ _)
   exact aD Z<|aD Z<|aD Z<|bT Z<|Q4 Z<|bQ (false) () h SF .nil (aE.refl _ _)
  intro d j h;unfold sN at h;refine aP<|bB<|aG ?_;cases h;exact gM Z
 refine aI<|cC (λe=>wW a g e=some r) (λe k=>[(1,vI (g)),(2,vP i),(17,vB (e))]) (λe k=>[bU i [vI (a.1),vI (a.2)] 126]) ?_ ?_
 .refine aT<|bP Z<|Q4 Z<|eF h Z (λh=>?_) λh=>?_
  .exact bK<|cF (decide (a.1=(5:Int))) () h SF Z
  exact aL<|bP Z<|Q4 Z<|cF (decide (a.1=(12:Int))) () h SF Z
 intro e k h;refine iA h Z (λ_ h=>?_) λ_ h=>?_
 .refine aI<|cC (λb=>sO b=some r) (λb f=>[(4,vB (b))]) (λb f=>[]) ?_ ?_
  .refine aL<|bD Z<|bY 0 Z<|aC (lD Z Z) Z<|aA Z<|mL h Z (λ_ h=>?_) λ_ h=>?_
   .exact aF Z (bR Z Z Z Z Z) Z<|aF Z (bX 0 Z Z Z Z Z) Z<|bH Z<|aF Z (Hg Z Z) Z<|bO Z<|Q4 Z<|bQ (decide (a.2<g)) () h SF .nil (aE.refl _ _)
   exact aD Z<|aD Z<|aD Z<|aD Z<|bT Z<|Q4 Z<|bQ (false) () h SF .nil (aE.refl _ _)
  intro b f h;unfold sO at h;refine aP<|bB<|aG ?_;cases h;exact gM Z
 refine cZ<|jZ<|aT<|bD Z<|bY 0 Z<|bP Z<|Q4 Z<|aP ?_;cases h;exact mK Z
end Go.Proofs.YtemmagadjnlajaaGreatDoor
namespace Go.Proofs.YtemmagadjnlajaaGreatDoor
open Go Go.Sx
def Tv (o:Int):Int:=if o<1\/43<o then -1 else if o<=17 then 0 else if o<=29 then 1 else if o<=42 then 2 else 3
theorem Qo {o:Int} (h:Fu o=none):Tv o = -1:=by
 unfold Fu at h;unfold Tv;split at h
 .rename_i a;rw[if_pos a]
 .split at h
  .cases h
  .split at h
   .cases h
   .split at h<;>cases h
theorem mE {o:Int} {a:Nat} (h:Fu o=some a):Tv o=(a:Int):=by
 unfold Fu at h;unfold Tv;split at h
 .cases h
 .rename_i e;rw[if_neg e];split at h
  .rename_i b;cases h;rw[if_pos b];rfl
  .rename_i b;rw[if_neg b];split at h
   .rename_i c;cases h;rw[if_pos c];rfl
   .rename_i c;rw[if_neg c];split at h
    .rename_i d;cases h;rw[if_pos d];rfl
    .rename_i d;cases h;rw[if_neg d];rfl
theorem PI (F:Nat) (o:Int):qF F o=some (Tv o):=by
 unfold qF Ec Tv;by_cases d:o<1
 .simp[d]
 .by_cases e:43<o
  .simp[d,e]
  .by_cases a:o<=17
   .simp[d,e,a]
   .by_cases b:o<=29
    .simp[d,e,a,b]
    .by_cases c:o<=42
     .simp[d,e,a,b,c]
     .simp[d,e,a,b,c]
theorem VX (F:Nat) (o:Int):sV F o=some (Tv o):=by
 unfold sV Ch Ci Cj Tv;simp only[zAa,Bool.false_eq_true,if_false]
 repeat' split
 all_goals first|rfl|(exfalso;omega)|(congr 1;omega)
theorem Up (F:Nat) (o:Int):oF F o=some (agg o):=by
 unfold oF sP agg;split
 .rename_i h;simp[h]
 .rename_i h;simp[h]
theorem ajt (F:Nat) (o:Int):sK F o=some (agg o):=by
 unfold sK rE agg;split
 .rename_i h;simp[h]
 .rename_i h;simp[h]
def EL (a:Int) (t:TM):V4:=if t.1=1 then decide (0<=t.2)&&decide (t.2<=1073741824)else if t.1=5\/t.1=12 then decide (0<=t.2)&&decide (t.2<a)else decide (t.2=0)
theorem alE (F:Nat) (t:TM) (a:Int):AQ F t a=some (EL a t):=by
 unfold AQ uG zS uH EL;by_cases b:t.1=1
 .simp only[b,if_true];split<;>rename_i h<;>simp[h]
 .by_cases c:t.1=5
  .simp[c];split<;>rename_i h<;>simp[h]
  .by_cases d:t.1=12
   .simp[d];split<;>rename_i h<;>simp[h]
   .simp[b,c,d]
theorem als (F:Nat) (t:TM) (a:Int):zJ F t a=some (EL a t):=by
 unfold zJ sN wW sO EL;by_cases b:t.1=1
 .simp only[b,if_true];split<;>rename_i h<;>simp[h]
 .by_cases c:t.1=5
  .simp[c];split<;>rename_i h<;>simp[h]
  .by_cases d:t.1=12
   .simp[d];split<;>rename_i h<;>simp[h]
   .simp[b,c,d]
theorem abM (F:Nat) (T:V6 TM):∀(l b:V6 TM) (c m:Nat),T=b++l->T.length<=900->1<=m->m+3*l.length<=3000->l.length<c->
  bG (sQ F T) c (((b.length:Nat):Int),((m:Nat):Int))=some (match rn m l with|some n=>((b.length+n:Nat):Int)|none=> -1):=by
 intro l
 induction l with
 |nil=>
  intro b c m d k w i j;obtain⟨f,rfl⟩:∃f,c=f+1:=⟨c - 1,V7⟩
  obtain⟨m,rfl⟩:∃q,m=q+1:=⟨m - 1,V7⟩
  show sQ F T _ _=_;unfold sQ GE;dsimp only;rw[if_neg (by rw[d];simp)];rfl
 | cons t r ih =>
  intro b c m d k w i j;simp only[zA3]at i j;obtain⟨f,rfl⟩:∃f,c=f+1:=⟨c - 1,V7⟩
  obtain⟨m,rfl⟩:∃q,m=q+1:=⟨m - 1,V7⟩
  have v:b.length<T.length:=by rw[d];simp
  have h:at' T ((b.length:Nat):Int)=t:=by rw[d];exact h_ b r t _ Z
  have g:=λy p s=>ih (b++[t]) f y (by rw[d];simp) k p s V7;show sQ F T _ (bG (sQ F T) f)=_;generalize bG (sQ F T) f=ag at g ⊢;unfold sQ;dsimp only;rw[Q8,Q6,h,aY (PI F t.1)];cases e:Fu t.1 with
  |none=>
   rw[Qo e,if_pos Q2,Sf e]
  | some a =>
   have u:=LW e;rw[mE e,Q0,Q7 (x:=((a:Nat):Int) - 1),wr (x:=((m+1:Nat):Int)+(((a:Nat):Int) - 1)) V7 V7,Q7 (x:=((b.length:Nat):Int)+1),HX e];by_cases o:m+a=0
   .rw[Q8,o,NT];show some _=some (((b.length+(0+1):Nat)):Int);congr 1
   .rw[Q0];have:=g (m+a) V7 V7;rw[show(((b.length:Nat):Int)+1)=(((b++[t]).length:Nat):Int) by simp,show((m+1:Nat):Int)+(((a:Nat):Int) - 1)=((m+a:Nat):Int) by omega,this];cases rn (m+a) r with
    |none=>rfl
    |some n=>simp only[Option.map_some,zA0,zA3,List.length_nil];congr 2;omega
theorem aic (F:Nat) (T:V6 TM) (k:Nat) (a:T.length<=900) (b:T.length<F):De F T (k:Int)=some (IA T k):=by
 unfold De GD;rw[Q0];simp only[zAa];by_cases h:T.length<=k
 .rw[Q8];unfold IA;rw[List.drop_of_length_le h];rfl
 .rw[Q0];have:=abM F T (T.drop k) (T.take k) F 1 (by rw[zB0]) a V7 Q1 Q1;rw[zB2,Nat.min_eq_left V7]at this;exact this
theorem aby (F:Nat) (T:V6 TM):∀(l b:V6 TM) (c m:Nat),T=b++l->T.length<=900->1<=m->m+3*l.length<=3000->l.length<c->
  bG (qG F T) c (((m:Nat):Int),((b.length:Nat):Int))=some (match rn m l with|some n=>((b.length+n:Nat):Int)|none=> -1):=by
 intro l
 induction l with
 |nil=>
  intro b c m d k w i j;obtain⟨f,rfl⟩:∃f,c=f+1:=⟨c - 1,V7⟩
  obtain⟨m,rfl⟩:∃q,m=q+1:=⟨m - 1,V7⟩
  show qG F T _ _=_;unfold qG EY;dsimp only;rw[if_neg (by rw[d];simp)];rfl
 | cons t r ih =>
  intro b c m d k w i j;simp only[zA3]at i j;obtain⟨f,rfl⟩:∃f,c=f+1:=⟨c - 1,V7⟩
  obtain⟨m,rfl⟩:∃q,m=q+1:=⟨m - 1,V7⟩
  have v:b.length<T.length:=by rw[d];simp
  have h:at' T ((b.length:Nat):Int)=t:=by rw[d];exact h_ b r t _ Z
  have g:=λy p s=>ih (b++[t]) f y (by rw[d];simp) k p s V7;show qG F T _ (bG (qG F T) f)=_;generalize bG (qG F T) f=ag at g ⊢;unfold qG;dsimp only;rw[Q8,Q6,h,aY (VX F t.1)];cases e:Fu t.1 with
  |none=>
   rw[Qo e,if_pos Q2,Sf e]
  | some a =>
   have u:=LW e;rw[mE e,Q0,Q7 (x:=((a:Nat):Int) - 1),wr (x:=((m+1:Nat):Int)+(((a:Nat):Int) - 1)) V7 V7,Q7 (x:=((b.length:Nat):Int)+1),HX e];by_cases o:m+a=0
   .rw[Q8,o,NT];show some _=some (((b.length+(0+1):Nat)):Int);congr 1
   .rw[Q0];have:=g (m+a) V7 V7;rw[show(((b.length:Nat):Int)+1)=(((b++[t]).length:Nat):Int) by simp,show((m+1:Nat):Int)+(((a:Nat):Int) - 1)=((m+a:Nat):Int) by omega,this];cases rn (m+a) r with
    |none=>rfl
    |some n=>simp only[Option.map_some,zA0,zA3,List.length_nil];congr 2;omega
theorem ahM (F:Nat) (T:V6 TM) (k:Nat) (a:T.length<=900) (b:T.length<F):Bv F T (k:Int)=some (IA T k):=by
 unfold Bv EX;rw[Q0];simp only[zAa];by_cases h:T.length<=k
 .rw[Q8];unfold IA;rw[List.drop_of_length_le h];rfl
 .rw[Q0];have:=aby F T (T.drop k) (T.take k) F 1 (by rw[zB0]) a V7 Q1 Q1;rw[zB2,Nat.min_eq_left V7]at this;exact this
end Go.Proofs.YtemmagadjnlajaaGreatDoor
namespace Go.Proofs.YtemmagadjnlajaaGreatDoor
open Go.Sx
def FV (a:bN):V1 (Int×V4):=
 ck (0<=(0:Int)/\(0:Int)<(a.length:Int)) (some ((at' a (0:Int)),true))
def CI (f:cJ) (g:Int->Int->V1 Int) (a:bN×Int) (c:EK->V1 (Int×V4)) (b e:Int):V1 (Int×V4):=
 ck (0<=(0:Int)/\(0:Int)<=(wI .i64 ((a.1.length:Int) - b))/\(wI .i64 ((a.1.length:Int) - b))<=(a.1.length:Int)) (ck (0<=a.2/\a.2<(f.length:Int)) (Option.bind (g ((at' f a.2).1) e) λd=>(ck (((List.take (Int.toNat (wI .i64 ((List.length a.1:Int) - b))) a.1).length:Int)+(List.length ([d]):Int)<=1099511627) (c (((List.take (Int.toNat (wI .i64 ((a.1.length:Int) - b))) a.1)++[d]),(wI .i64 (a.2 - (1:Int))))))))
def mY (g:cJ) (f:Int->Int->V1 Int) (a:bN×Int) (d:EK->V1 (Int×V4)) (c:Int) (b:dJ) (e:dW->V1 (Int×V4)):V1 (Int×V4):=
 if b.2<((List.drop (Int.toNat (wI .i64 ((List.length a.1:Int) - c))) (List.take (Int.toNat (List.length a.1:Int)) a.1)).length:Int)then(ck (0<=b.2/\b.2<((List.drop (Int.toNat (wI .i64 ((List.length a.1:Int) - c))) (List.take (Int.toNat ((List.length a.1:Int))) a.1)).length:Int)) (e ((max b.1 (at' (List.drop (Int.toNat (wI .i64 ((a.1.length:Int) - c))) (List.take (Int.toNat (a.1.length:Int)) a.1)) b.2)),(wI .i64 (b.2+(1:Int))))))else(CI g f a d c (b.1))
def iM (d:cJ) (e:Int->Int->V1 Int) (a:bN×Int) (c:EK->V1 (Int×V4)):V1 (Int×V4):=
 if(0:Int)<=a.2 then(ck (0<=a.2/\a.2<(d.length:Int)) (Option.bind (qF U ((at' d a.2).1)) λb=>(ck (0<=(wI .i64 ((a.1.length:Int) - b))/\(wI .i64 ((a.1.length:Int) - b))<=((a.1.length:Int))/\((a.1.length:Int))<=(a.1.length:Int)) (bG (mY d e a c b) U ((0:Int),(0:Int))))))else(FV (a.1))
def Aq (a:cJ) (b:Int->Int->V1 Int):V1 (Int×V4):=
 Option.bind (De U a (0:Int)) λc=>(if c≠(a.length:Int)then(some ((0:Int),false))else(bG (iM U a b) U (([]:bN),(wI .i64 ((a.length:Int) - (1:Int))))))
theorem WJ:aX prog 110:=call110
theorem Kg (U:Nat) {g:cJ} {q:Int->Int->Option Int} (K:FuncId) (k:oA) (A:List bF) (s:aX prog K) (t:∀(S:Int) (T:Int) (r:Int),q S T=some r->aZ prog K ([vI (S),vI (T)]++k).toArray A (λ_:Unit=>vI (r)) (λ_ l=>l) (λ_ l=>l)) (j:V0) (r:Int×Bool) (h:Aq U g q=some r):
  aZ prog 110 #[j,Value.func (.func K) #[] (k).toArray] ([Sl aS j g]++A) (λx:Unit=>Value.tuple #[vI (r.1),vB (r.2)]) (λx l=>l) (λ_ l=>l):=by
 let v:=Value.func (.func K) #[] (k).toArray;refine aZ.of func110 Z ntmps110 Z λc=>?_;refine aT<|aB Z<|aB Z<|aM<|aI<|aT<|aA Z<|dG h λW X h=>aK (zB8 Vq (KB U j W X) Z (gK [0] Z)) Z λx3=>aA Z<|eL (cG Z) Z<|lK Z<|aM ?_;refine eF h Z (λh=>?_) λh=>?_
 .refine aT<|aB Z<|aB Z<|aM<|aP<|aG ?_;cases h;exact gA () Z Z (RV.tmp Z) (RV.tmp Z) (aW.refl _) aE.nil
 refine bK<|aT<|aB Z<|aM<|aI<|xD (B:=V0) (λC=>FV C=some r) (λC D=>[(6,D)]) (λC D=>[Ar cK D C]) (λC D=>([Sl aS j g]++A)) ?_ ?_
 .refine aT<|aA Z<|eL (cG Z) Z<|aC (kT Z Z) Z<|aB Z<|aM<|aU<|jY (qL cK)<|Dp (B:=V0) (iM U g q) (λa b=>[(0,j),(1,v),(6,b),(7,vI (a.2))]) (λa b=>[Ar cK b a.1]) (λa b=>([Sl aS j g]++A)) (([]:bN),(wI .i64 ((g.length:Int) - (1:Int)))) (zU) h SF (aW.refl _) (aE.refl _ _) ?_;intro I a b h;let w:=(a.1.length:Int)
  refine aI<|aT<|aA Z<|aC (lD Z Z) Z<|aM ?_;refine eF h Z (λh=>?_) λh=>?_
  .refine bK<|aI<|aU<|aT<|aA Z<|aC (dO Z (bL (aQ.res 0 Z) fH) Z) Z<|aA Z<|aA Z<|eX h λE h=>aC (a_ Z Z (cG Z) Z Z E) Z<|aC (cB Z Z Z Z Z) Z<|aC (fW Z (cG Z) Z Z Z kS E) Z<|dG h λn O h=>let u:=(wI .i64 (w - n));let y:=(Int.toNat u);let J:=(List.drop y (List.take (Int.toNat w) a.1));aK (zB8 Oi (CF U n O) Z .nil) Z λY=>aC (kT Z Z) Z<|aB Z<|aM<|aT<|aB Z<|aM<|aI<|xD (B:=Unit) (λf=>CI g q a (bG (iM U g q) I) n f=some r) (λf o=>[(0,j),(1,v),(6,b),(7,vI (a.2)),(8,vI u),(9,vI (f))]) (λf o=>[Ar cK b a.1]) (λf o=>([Sl aS j g]++A)) ?_ ?_
   .refine aT<|aA Z<|aA Z<|eX h λm h=>aC (ZV Z Z (bL (aQ.res 0 Z) fH) Z Z m) Z<|aC (dO Z (aQ.part (bL (aQ.res 0 Z) fH) Z m) Z) Z<|aA Z<|aM<|aU<|Dp (B:=Unit) (mY g q a (bG (iM U g q) I) n) (λd p=>[(0,j),(1,v),(6,b),(7,vI (a.2)),(8,vI u),(9,vI (d.1)),(35,Mw b y (Int.toNat w) 1),(36,vI (J.length:Int)),(37,vI (d.2))]) (λd p=>[Ar cK b a.1]) (λd p=>([Sl aS j g]++A)) ((0:Int),(0:Int)) () h SF (aW.refl _) (aE.refl _ _) ?_;intro V d p h;refine aT<|cX Z<|aM<|aI ?_;refine eF h Z (λh=>?_) λh=>?_
    .refine bK<|aI<|aU<|aT<|eX h λH h=>aC (a_ Z Z (aQ.part (bL (aQ.res 0 Z) fH) Z m) Z Z H) Z<|aC (eC Z (aQ.part (bL (aQ.res 0 Z) fH) Z m) Z Z Z gC H) Z<|aB Z<|aM<|aL<|aA Z<|aA Z<|aC (Gm Z Z) Z<|aB Z<|dK<|jZ<|aL<|cP Z<|aA Z<|aM ?_;exact Ac ((max d.1 (at' J d.2)),(wI .i64 (d.2+(1:Int)))) () h SF Z
    refine fK ?_;exact cF (d.1) () h SF Z
   intro f o h;refine xP [0,0,3,0,0,0,48,112,240,0,1016,2040,4095,8191] 12 mixedOrders ?_;refine bE Z<|bE Z<|eX h λF h=>bI Z (aW.cons 0 Z .nil) .nil (II Z Z (bL (aQ.res 0 Z) fH) Z Z F) aR.z<|bE Z<|bE Z<|bE Z<|eX h λG h=>bI Z .nil (jP 0 Z) (a_ Z Z (cG Z) Z Z G) aR.z<|iD Z (cB Z Z Z Z Z)<|bI Z .nil (jP 0 Z) (fW Z (cG Z) Z Z Z kS G) aR.z<|bE Z<|dG h λi P h=>zBa Z Z Z (Bo (vs:=[vI ((at' g a.2).1),vI (f)]) (cs:=k) s Z (t ((at' g a.2).1) f i P) Z (aE.tail _) (λ_ _=>rfl)) Z (λQ=>(y_ [([0],[])] Z)) λQ=>zBa Z Z Z (fX (e:=cK) ([i]) [(0,vI (i))] Z Z Z Z (vG (vI (i)) Z) Z Z Z) Z (λM=>(y_ [([1],[])] Z)) λM=>bS 12 Z Z<|jY (HJ (sz:=1) 1 Z F)<|eX h λL h=>aK (sF 1 fH Z Z Z (bL (aQ.res 0 Z) fH) Z Z Z Z L Z) Z λN=>aB Z<|dK<|jZ<|aL<|aA Z<|aC (kT Z Z) Z<|aB Z<|aM ?_;exact fI (((List.take y a.1)++[i]),(wI .i64 (a.2 - (1:Int)))) (N) h SF (aW.ix [1] Z Z) (aE.refl _ _)
  refine fK ?_;exact cF (a.1) (b) h SF Z
 intro C D h;refine aT<|aA Z<|eX h λR h=>aC (a_ Z Z (bL (aQ.res 0 Z) fH) Z Z R) Z<|aC (eC Z (bL (aQ.res 0 Z) fH) Z Z Z gC R) Z<|aB Z<|aB Z<|aM<|aP ?_;cases h;exact gA () Z Z (RV.tmp Z) (RV.tmp Z) .nil aE.nil
def Cc (U:Nat) (b a:Int):V1 (Int):=
 some (wI .i64 (a+(1:Int)))
theorem acP:aX prog 111:=call111
theorem Ph {a b:Int} (r:Int) (h:Cc U a b=some r):
  aZ prog 111 #[vI (a),vI (b)] [] (λx:Unit=>vI (r)) (λx l=>l) (λ_ l=>l):=by
 refine aZ.of func111 Z ntmps111 Z λc=>?_;unfold Cc at h;refine Q3 Z<|Q5 Z<|cP Z<|Q4 Z<|aP ?_;cases h;exact gM Z
def EW (a:cJ):V1 (Int):=
 Option.bind (Aq U a (λc d=>Cc U c d)) λb=>(some (b.1))
theorem agr:aX prog 52:=call52
theorem Sw {b:cJ} (a:V0) (r:Int) (h:EW U b=some r):
  aZ prog 52 #[a] [Sl aS a b] (λx:Unit=>vI (r)) (λx l=>l) (λ_ l=>l):=by
 refine aZ.of func52 Z ntmps52 Z λc=>Q3 Z<|Q5 Z<|dG h λd e h=>aK (zB8 WJ (Kg U 111 [] [] acP (λg i r h=>Ph U r h) a d e) Z (gK [0] Z)) Z λf=>aA Z<|fL Z<|fL Z<|aB Z<|Q4 Z<|Q5 Z<|Q4 Z<|aP ?_;cases h;exact gM Z
def GX (b a:Int):V1 (Int):=
 Option.bind (oF U b) λc=>(if c=true then(some (wI .i64 (a+(1:Int))))else(some (a)))
theorem acQ:aX prog 112:=call112
theorem P_ {a b:Int} (r:Int) (h:GX U a b=some r):
  aZ prog 112 #[vI (a),vI (b)] [] (λx:Unit=>vI (r)) (λx l=>l) (λ_ l=>l):=by
 refine aZ.of func112 Z ntmps112 Z λc=>Q3 Z<|aI<|Q5 Z<|dG h λd e h=>aK (zB8 Rv (zR U d e) Z .nil) Z λf=>aM<|iA h Z (λ_ h=>?_) λ_ h=>?_
 .refine Q5 Z<|cP Z<|Q4 Z<|aP<|aG ?_;cases h;exact gM Z
 refine bK<|Q5 Z<|Q4 Z<|aP ?_;cases h;exact gM Z
def Gw (a:cJ):V1 (Int):=
 Option.bind (Aq U a (λc d=>GX U c d)) λb=>(some (b.1))
theorem ags:aX prog 53:=call53
theorem Uu {b:cJ} (a:V0) (r:Int) (h:Gw U b=some r):
  aZ prog 53 #[a] [Sl aS a b] (λx:Unit=>vI (r)) (λx l=>l) (λ_ l=>l):=by
 refine aZ.of func53 Z ntmps53 Z λc=>Q3 Z<|Q5 Z<|dG h λd e h=>aK (zB8 WJ (Kg U 112 [] [] acQ (λg i r h=>P_ U r h) a d e) Z (gK [0] Z)) Z λf=>aA Z<|fL Z<|fL Z<|aB Z<|Q4 Z<|Q5 Z<|Q4 Z<|aP ?_;cases h;exact gM Z
end Go.Proofs.YtemmagadjnlajaaGreatDoor
namespace Go.Proofs.YtemmagadjnlajaaGreatDoor
open Go Go.Sx
def X.num (g:Int->Int->Int):X->Int
 |lf t=>g t.1 0
 |un t x=>g t.1 (max 0 (x.num g))
 |bi t x y=>g t.1 (max (max 0 (y.num g)) (x.num g))
 |tr t x y z=>g t.1 (max (max (max 0 (z.num g)) (y.num g)) (x.num g))
theorem aeD (T:V6 TM) (G:Int->Int->V1 Int) (a:V6 Int×Int) (d:(V6 Int×Int)->V1 (Int×V4)) (D:bN) (r:Int) (g:List.drop (Int.toNat (wI .i64 ((a.1.length:Int) - r))) (List.take (Int.toNat (a.1.length:Int)) a.1)=D) (o:D.length<1000):
  ∀(l c:bN) (m:Int) (b:Nat),D=c++l->l.length<b->bG (mY T G a d r) b (m,((c.length:Nat):Int))=CI T G a d r (l.foldl max m):=by
 intro l
 induction l with
 |nil=>
  intro c m b h i;obtain⟨f,rfl⟩:∃f,b=f+1:=⟨b - 1,V7⟩
  show mY T G a d r _ _=_;unfold mY;dsimp only;rw[g,if_neg (by rw[h];simp)];rfl
 |cons x l k=>
  intro c m b h i;simp only[zA3]at i;obtain⟨f,rfl⟩:∃f,b=f+1:=⟨b - 1,V7⟩
  have j:c.length<D.length:=by rw[h];simp
  have e:=λn=>k (c++[x]) n f (by rw[h];simp) V7;show mY T G a d r _ (bG (mY T G a d r) f)=_;generalize bG (mY T G a d r) f=ag' at e ⊢;unfold mY;dsimp only;rw[g,Q8,Q6,Q7,show at' D ((c.length:Nat):Int)=x by rw[h];exact h_ c l x _ Z];have:=e (max m x);rw[show(((c.length:Nat):Int)+1)=(((c++[x]).length:Nat):Int) by simp,this];rfl
theorem Ln (F:Nat) {T:List TM} {G:Int->Int->Option Int} {g:Int->Int->Int} (i:∀o m,0<=m->m<=1000->G o m=some (g o m)) {pre post:List TM} {t:TM} (f:T=pre++t::post) (r:T.length<=900) (p:10<=F) {S D:bN} {a:Nat} (h:Fu t.1=some a) (n:D.length=a) (q:S.length<=900) (l:0<=D.foldl max 0) (e:D.foldl max 0<=1000) (b:Nat):
  bG (iM F T G) (b+1) (S++D,((pre.length:Nat):Int))=bG (iM F T G) b (S++[g t.1 (D.foldl max 0)],((pre.length:Nat):Int) - 1):=by
 have j:=LW h;have k:pre.length<T.length:=by rw[f];simp
 have d:at' T ((pre.length:Nat):Int)=t:=by rw[f];exact h_ pre post t _ Z
 show iM F T G _ (bG (iM F T G) b)=_;generalize bG (iM F T G) b=ag;unfold iM;have c:((S++D).length:Int) - (a:Int)=(S.length:Int):=by simp;omega
 dsimp only;rw[if_pos (by omega),dM (by omega),d,aY (PI F t.1),mE h,c,wr (by omega) (by omega),dM (by simp;omega)];rw[show((0:Int),(0:Int))=(0,((([]:bN).length:Nat):Int))from rfl];rw[aeD T G (S++D,((pre.length:Nat):Int)) ag D (a:Int) (by
  dsimp only;rw[c,wr (by omega) (by omega),zA7,zA7,List.take_length,List.drop_left]) (by omega) D [] 0 F (by simp) (by omega)]
 unfold CI;dsimp only;rw[c,wr (by omega) (by omega),wr (by omega) (by omega),dM (by simp;omega),dM (by omega),d,aY (i _ _ l e),zA7,List.take_left,dM (by simp;omega)]
theorem FL (F:Nat) {T:V6 TM} {G:Int->Int->V1 Int} {g:Int->Int->Int} (e:∀o m,0<=m->m<=1000->G o m=some (g o m)) (f:∀o m,0<=m->0<=g o m/\g o m<=m+1) (h:T.length<=900) (d:10<=F):∀(x:X),x.ok->x.num g<=x.ts.length/\0<=x.num g/\∀(pre post:V6 TM) (S:bN) (a:Nat),T=pre++(x.ts++post)->S.length+x.ts.length<=900->
  bG (iM F T G) (a+x.ts.length) (S,((pre.length+x.ts.length:Nat):Int) - 1)=bG (iM F T G) a (S++[x.num g],((pre.length:Nat):Int) - 1)
 | .lf t,hx=>by
  have i:=f t.1 0 V7;refine⟨by simp only[X.num,X.ts,zA3,List.length_nil];omega,i.1,λpre post S a c l=>?_⟩
  have:=Ln F e (pre:=pre) (post:=post) (t:=t) (by simpa [X.ts]using c) h d (S:=S) (D:=[]) hx Z V7 V8 V8 a;rw[List.append_nil]at this;simp only[X.ts,zA3,List.length_nil];rw[show((pre.length+(0+1):Nat):Int) - 1=((pre.length:Nat):Int) by omega,this];rfl
 | .un t x,hx=>by
  have⟨r,s,w⟩:=FL F e f h d x hx.2;have i:=f t.1 (max 0 (x.num g)) V7;refine⟨by simp only[X.num,X.ts,zA3];omega,i.1,λpre post S a c l=>?_⟩
  simp only[X.ts,zA3]at l ⊢;have b:=congrArg List.length c;simp only[X.ts,zA0,zA3]at b;have:=w (pre++[t]) post S (a+1) (by rw[c];simp[X.ts]) V7;rw[show a+(x.ts.length+1)=a+1+x.ts.length by omega,show((pre.length+(x.ts.length+1):Nat):Int) - 1=(((pre++[t]).length+x.ts.length:Nat):Int) - 1 by simp;omega,this];have:=Ln F e (pre:=pre) (post:=x.ts++post) (t:=t) (by rw[c];simp[X.ts]) h d (S:=S) (D:=[x.num g]) hx.1 Z V7 Q1 Q1 a;rw[show(((pre++[t]).length:Nat):Int) - 1=((pre.length:Nat):Int) by simp,this];rfl
 | .bi t x y, hx =>by
  have⟨r,s,j⟩:=FL F e f h d x hx.2.1;have⟨A,B,k⟩:=FL F e f h d y hx.2.2;have i:=f t.1 (max (max 0 (y.num g)) (x.num g)) V7;have v:=y.pos;refine⟨by simp only[X.num,X.ts,zA3,zA0];omega,i.1,λpre post S a c l=>?_⟩
  simp only[X.ts,zA3,zA0]at l ⊢;have b:=congrArg List.length c;simp only[X.ts,zA0,zA3]at b;have n:=k (pre++t::x.ts) post S (a+1+x.ts.length) (by rw[c];simp[X.ts]) V7;have p:=j (pre++[t]) (y.ts++post) (S++[y.num g]) (a+1) (by rw[c];simp[X.ts]) Q1;rw[show a+(x.ts.length+y.ts.length+1)=a+1+x.ts.length+y.ts.length by omega,show((pre.length+(x.ts.length+y.ts.length+1):Nat):Int) - 1=(((pre++t::x.ts).length+y.ts.length:Nat):Int) - 1 by simp;omega,n,
   show(((pre++t::x.ts).length:Nat):Int) - 1=(((pre++[t]).length+x.ts.length:Nat):Int) - 1 by simp;omega,p]
  have:=Ln F e (pre:=pre) (post:=x.ts++(y.ts++post)) (t:=t) (by rw[c];simp[X.ts]) h d (S:=S) (D:=[y.num g,x.num g]) hx.1 Z V7 Q1 Q1 a;rw[show(((pre++[t]).length:Nat):Int) - 1=((pre.length:Nat):Int) by simp,show S++[y.num g]++[x.num g]=S++[y.num g,x.num g] by simp,this];rfl
 | .tr t x y z, hx =>by
  have⟨r,s,j⟩:=FL F e f h d x hx.2.1;have⟨A,B,k⟩:=FL F e f h d y hx.2.2.1;have⟨E,H,q⟩:=FL F e f h d z hx.2.2.2;have i:=f t.1 (max (max (max 0 (z.num g)) (y.num g)) (x.num g)) V7;have v:=y.pos;have C:=z.pos;refine⟨by simp only[X.num,X.ts,zA3,zA0];omega,i.1,λpre post S a c l=>?_⟩
  simp only[X.ts,zA3,zA0]at l ⊢;have b:=congrArg List.length c;simp only[X.ts,zA0,zA3]at b;have u:=q (pre++t::(x.ts++y.ts)) post S (a+1+x.ts.length+y.ts.length) (by rw[c];simp[X.ts]) V7;have n:=k (pre++t::x.ts) (z.ts++post) (S++[z.num g]) (a+1+x.ts.length) (by rw[c];simp[X.ts]) Q1;have p:=j (pre++[t]) (y.ts++(z.ts++post)) (S++[z.num g]++[y.num g]) (a+1) (by rw[c];simp[X.ts]) Q1;rw[show a+(x.ts.length+(y.ts.length+z.ts.length)+1)=a+1+x.ts.length+y.ts.length+z.ts.length by omega,show((pre.length+(x.ts.length+(y.ts.length+z.ts.length)+1):Nat):Int) - 1=(((pre++t::(x.ts++y.ts)).length+z.ts.length:Nat):Int) - 1 by simp;omega,u,
   show(((pre++t::(x.ts++y.ts)).length:Nat):Int) - 1=(((pre++t::x.ts).length+y.ts.length:Nat):Int) - 1 by simp;omega,n,
   show(((pre++t::x.ts).length:Nat):Int) - 1=(((pre++[t]).length+x.ts.length:Nat):Int) - 1 by simp;omega,p]
  have:=Ln F e (pre:=pre) (post:=x.ts++(y.ts++(z.ts++post))) (t:=t) (by rw[c];simp[X.ts]) h d (S:=S) (D:=[z.num g,y.num g,x.num g]) hx.1 Z V7 Q1 Q1 a;rw[show(((pre++[t]).length:Nat):Int) - 1=((pre.length:Nat):Int) by simp,show S++[z.num g]++[y.num g]++[x.num g]=S++[z.num g,y.num g,x.num g] by simp,this];rfl
theorem tLv (F:Nat) {G:Int->Int->V1 Int} {g:Int->Int->Int} (c:∀o m,0<=m->m<=1000->G o m=some (g o m)) (d:∀o m,0<=m->0<=g o m/\g o m<=m+1) {x:X} (b:x.ok) (f:x.ts.length<=450) (e:460<=F):Aq F x.ts G=some (x.num g,true):=by
 have i:=x.pos;have⟨_,_,h⟩:=FL F (T:=x.ts) c d V7 V7 x b;unfold Aq;have a:=aic F x.ts 0 V7 V7;rw[show((0:Nat):Int)=0 from rfl]at a;rw[aY a,Xj b,if_neg V8,Q7];have:=h [] [] [] (F - x.ts.length - 1+1) V8 Q1;rw[show F - x.ts.length - 1+1+x.ts.length=F by omega]at this;simp only[List.length_nil,zB3,List.nil_append]at this;rw[this];show iM F x.ts G _ _=_;unfold iM FV;dsimp only;rw[if_neg Q2,dM V8];rfl
theorem X.num_depth:∀x:X,x.num (λ_ m=>m+1)=(x.depth:Int)
 |lf t=>by simp[X.num,X.depth]
 |un t x=>by have:=x.num_depth;simp only[X.num,X.depth,this];omega
 |bi t x y=>by have:=x.num_depth;have:=y.num_depth;simp only[X.num,X.depth, *];omega
 |tr t x y z=>by have:=x.num_depth;have:=y.num_depth;have:=z.num_depth;simp only[X.num,X.depth, *];omega
theorem Gn {o:Int} {a:Nat} (h:Fu o=some a) (b:a≠1):agg o=false:=by
 unfold Fu at h;unfold agg;split at h
 .cases h
 .split at h
  .simp;omega
  .split at h
   .cases h;exact absurd Z b
   .simp;omega
theorem X.num_nest:∀x:X,x.ok->x.num (λo m=>if agg o then m+1 else m)=(x.nest:Int)
 |lf t,h=>by simp[X.num,X.nest,Gn h Q2]
 |un t x,h=>by have:=x.num_nest h.2;simp only[X.num,X.nest,this];split<;>simp<;>omega
 |bi t x y,h=>by have:=x.num_nest h.2.1;have:=y.num_nest h.2.2;simp only[X.num,X.nest,Gn h.1 Q2, *];simp;omega
 |tr t x y z,h=>by have:=x.num_nest h.2.1;have:=y.num_nest h.2.2.1;have:=z.num_nest h.2.2.2;simp only[X.num,X.nest,Gn h.1 Q2, *];simp;omega
theorem aib (F:Nat) {x:X} (c:x.ok) (b:x.ts.length<=450) (a:460<=F):EW F x.ts=some (x.depth:Int):=by
 unfold EW;rw[aY (tLv F (g:=λ_ m=>m+1) (λo m d e=>by unfold Cc;rw[Q7]) (λo m h=>⟨V7,V7⟩) c b a),X.num_depth]
theorem ajM (F:Nat) {x:X} (a:x.ok) (c:x.ts.length<=450) (b:460<=F):Gw F x.ts=some (x.nest:Int):=by
 unfold Gw;rw[aY (tLv F (g:=λo m=>if agg o then m+1 else m) (λo m d e=>by
  unfold GX;rw[aY (Up F o)];split
  .rw[Q7]
  .rfl) (λo m h=>by split<;>omega) a c b),X.num_nest x a]
end Go.Proofs.YtemmagadjnlajaaGreatDoor
namespace Go.Proofs.YtemmagadjnlajaaGreatDoor
open Go.Sx
def Cm (a:V4):V1 V4:=
 some (a)
def Bw (a:cJ):V1 V4:=
 if(0:Int)<(a.length:Int)then(Option.bind (Bv U a (0:Int)) λb=>(Cm (decide (b=(a.length:Int)))))else(Cm (false))
theorem Rs:aX prog 220:=call220
theorem Jh {b:cJ} (d:V0) (r:V4) (h:Bw U b=some r):
  aZ prog 220 #[d] [Sl aS d b] (λx:Unit=>vB (r)) (λx l=>l) (λ_ l=>l):=by
 refine aZ.of func220 Z ntmps220 Z λc=>Q3 Z<|aI<|cC (λa=>Cm a=some r) (λa e=>[(2,vB (a))]) (λa e=>[]) ?_ ?_
 .refine aL<|aA Z<|eL (cG Z) Z<|aC (mA Z Z) Z<|aA Z<|mL h Z (λ_ h=>?_) λ_ h=>?_
  .exact bH Z<|dG h λf g h=>fU Z (zB8 Ru (Jf U d f g) Z (gK [0] Z)) Z λi=>bH Z<|aF Z (dO Z (cG Z) Z) Z<|aF Z (oV Z Z) Z<|bO Z<|Q4 Z<|cF (decide (f=(b.length:Int))) () h SF Z
  exact aD Z<|aD Z<|aD Z<|aD Z<|aD Z<|bT Z<|Q4 Z<|cF (false) () h SF Z
 intro a e h;unfold Cm at h;refine aP ?_;cases h;exact gM Z
def AV (a:dJ):V1 dW:=
 some (a.1,a.2)
def lB (c:QL) (b:QK->V1 dW) (a:Int×Int×bN×V6 (V4)):V1 dW:=
 b (a.1,a.2.1,a.2.2.1,a.2.2.2,(wI .i64 (c.2.2.2.2+(1:Int))))
def sC (b:QL) (d:QK->V1 dW) (g e:Int) (a:bN×V6 (V4)) (c:(bN×V6 (V4))->V1 dW) (f:V4):V1 dW:=
 if f=true then(ck (0<=(0:Int)/\(0:Int)<=(wI .i64 ((a.1.length:Int) - (1:Int)))/\(wI .i64 ((a.1.length:Int) - (1:Int)))<=(a.1.length:Int)) (ck (0<=(0:Int)/\(0:Int)<=(wI .i64 ((a.2.length:Int) - (1:Int)))/\(wI .i64 ((a.2.length:Int) - (1:Int)))<=(a.2.length:Int)) (if(0:Int)<((List.take (Int.toNat (wI .i64 ((List.length a.1:Int) - (1:Int)))) a.1).length:Int)then(ck (0<=(wI .i64 (((List.take (Int.toNat (wI .i64 ((List.length a.1:Int) - (1:Int)))) a.1).length:Int) - (1:Int)))/\(wI .i64 (((List.take (Int.toNat (wI .i64 ((List.length a.1:Int) - (1:Int)))) a.1).length:Int) - (1:Int)))<((List.take (Int.toNat (wI .i64 ((List.length a.1:Int) - (1:Int)))) a.1).length:Int)) (ck (0<=(wI .i64 (((List.take (Int.toNat (wI .i64 ((List.length a.1:Int) - (1:Int)))) a.1).length:Int) - (1:Int)))/\(wI .i64 (((List.take (Int.toNat (wI .i64 ((List.length a.1:Int) - (1:Int)))) a.1).length:Int) - (1:Int)))<((List.take (Int.toNat (wI .i64 ((List.length a.1:Int) - (1:Int)))) a.1).length:Int)) (c ((List.set (List.take (Int.toNat (wI .i64 ((a.1.length:Int) - (1:Int)))) a.1) (Int.toNat (wI .i64 (((List.take (Int.toNat (wI .i64 ((List.length a.1:Int) - (1:Int)))) a.1).length:Int) - (1:Int)))) (wI .i64 ((at' (List.take (Int.toNat (wI .i64 ((a.1.length:Int) - (1:Int)))) a.1) (wI .i64 (((List.take (Int.toNat (wI .i64 ((List.length a.1:Int) - (1:Int)))) a.1).length:Int) - (1:Int)))) - (1:Int)))),(List.take (Int.toNat (wI .i64 ((a.2.length:Int) - (1:Int)))) a.2)))))else(c ((List.take (Int.toNat (wI .i64 ((a.1.length:Int) - (1:Int)))) a.1),(List.take (Int.toNat (wI .i64 ((a.2.length:Int) - (1:Int)))) a.2))))))else(lB b d ((max b.1 ((b.2.2.1++[g]).length:Int)),(max b.2.1 e),a.1,a.2))
def fM (d:QL) (b:QK->V1 dW) (f e:Int) (a:bN×V6 (V4)) (c:(bN×V6 (V4))->V1 dW):V1 dW:=
 if(0:Int)<(a.1.length:Int)then(ck (0<=(wI .i64 ((a.1.length:Int) - (1:Int)))/\(wI .i64 ((a.1.length:Int) - (1:Int)))<(a.1.length:Int)) (sC d b f e a c (decide ((at' a.1 (wI .i64 ((a.1.length:Int) - (1:Int))))=(0:Int)))))else(sC d b f e a c (false))
def vK (a:QL) (b:QK->V1 dW) (c:Int) (e:V4) (d:Int):V1 dW:=
 bG (fM a b c d) U ((a.2.2.1++[c]),(a.2.2.2.1++[e]))
def vL (b:dJ) (a:dW->V1 dW) (c:Int):V1 dW:=
 a (c,(wI .i64 (b.2+(1:Int))))
def lC (b:QL) (e:QK->V1 dW) (f:Int) (c:V4) (a:dJ) (d:dW->V1 dW):V1 dW:=
 if a.2<((b.2.2.2.1++[c]).length:Int)then(ck (0<=a.2/\a.2<((b.2.2.2.1++[c]).length:Int)) (if(at' (b.2.2.2.1++[c]) a.2)=true then(vL a d (wI .i64 (a.1+(1:Int))))else(vL a d (a.1))))else(vK U b e f c (a.1))
def eM (c:cJ) (a:QL) (b:QK->V1 dW):V1 dW:=
 if a.2.2.2.2<(c.length:Int)then(ck (0<=a.2.2.2.2/\a.2.2.2.2<(c.length:Int)) (Option.bind (sV U ((at' c a.2.2.2.2).1)) λd=>(ck ((a.2.2.1.length:Int)+(List.length ([d]):Int)<=1099511627) (ck (0<=a.2.2.2.2/\a.2.2.2.2<(c.length:Int)) (Option.bind (sK U ((at' c a.2.2.2.2).1)) λe=>(ck ((a.2.2.2.1.length:Int)+(List.length ([e]):Int)<=1099511627) (bG (lC U a b d e) U ((0:Int),(0:Int)))))))))else(AV (a.1,a.2.1))
def tT (a:cJ):V1 dW:=
 bG (eM U a) U ((0:Int),(0:Int),([]:bN),([]:V6 V4),(0:Int))
theorem Xb:aX prog 235:=call235
theorem Jg (U:Nat) {W:cJ} (y:V0) (r:dJ) (h:tT U W=some r):
  aZ prog 235 #[y] [Sl aS y W] (λx:Unit=>Value.tuple #[vI (r.1),vI (r.2)]) (λx l=>l) (λ_ l=>l):=by
 refine aZ.of func235 Z ntmps235 Z λc=>?_;unfold tT at h;refine aT<|aB Z<|aB Z<|aM<|aT<|aB Z<|aB Z<|aM<|aT<|aB Z<|aM<|aT<|aB Z<|aM<|aI<|cC (λG=>AV G=some r) (λG b4=>[(4,vI (G.1)),(5,vI (G.2))]) (λG b4=>[]) ?_ ?_
 .refine aT<|aB Z<|aM<|aU<|jY (qL cK)<|jY (qL UV)<|eP (B:=GI) (eM U W) (λa p=>[(0,y),(4,vI (a.1)),(5,vI (a.2.1)),(6,p.1),(7,p.2),(8,vI (a.2.2.2.2))]) (λa p=>[Ar cK p.1 a.2.2.1,Ar UV p.2 a.2.2.2.1]) ((0:Int),(0:Int),([]:bN),([]:List Bool),(0:Int)) ((zU),(zU)) h SF (aW.ix [1,0] Z Z) ?_;intro aa a p h;let q:=vI (a.2.2.2.2);let n:=(bG (eM U W) aa)
  refine aI<|aT<|aA Z<|aA Z<|eL (cG Z) Z<|cX Z<|aM ?_;refine eF h Z (λh=>?_) λh=>?_
  .refine bK<|aI<|JK (B:=GI) (λg=>lB a n g=some r) (λg m=>[(0,y),(4,vI (g.1)),(5,vI (g.2.1)),(6,m.1),(7,m.2),(8,q)]) (λg m=>[Ar cK m.1 g.2.2.1,Ar UV m.2 g.2.2.2]) ?_ ?_
   .refine aU<|aI ?_;refine xP [0,0,0,6,14,30,62,126,255,0,0,0,3072,7168,15360,32255,65023,131071,262143,524287] 17 mixedOrders ?_;refine bE Z<|bE Z<|bE Z<|eX h λL h=>bI Z .nil (jP 0 Z) (a_ Z Z (cG Z) Z Z L) aR.z<|iD Z (cB Z Z Z Z Z)<|bI Z .nil (jP 0 Z) (fW Z (cG Z) Z Z Z kS L) aR.z<|dG h λf af h=>let D:=(max a.1 ((a.2.2.1++[f]).length:Int));zBa Z Z Z (zB8 ND (Eb U f af) Z .nil) Z (λah=>(y_ [] Z)) λah=>zBa Z Z Z (fX (e:=cK) ([f]) [(0,vI (f))] Z Z Z Z (vG (vI (f)) Z) Z Z Z) Z (λad=>(y_ [] Z)) λad=>eX h λX h=>zBa Z Z Z (sF 1 fH Z Z Z (bL (aQ.res 0 Z) fH) Z Z Z Z X Z) Z (λs=>(y_ [] Z)) λs=>let F:=Ar cK s (a.2.2.1++[f]);iD Z (fN Z)<|iD Z (fN Z)<|iD Z (fN Z)<|eX h λM h=>bI Z .nil (jP 0 Z) (a_ Z Z (cG Z) Z Z M) (aR.h .nil (jP 0 Z) (aR.h .nil (jP 0 Z) (aR.h .nil (jP 0 Z) aR.z)))<|iD Z (cB Z Z Z Z Z)<|bI Z .nil (jP 0 Z) (fW Z (cG Z) Z Z Z kS M) (aR.h .nil (jP 0 Z) (aR.h .nil (jP 0 Z) (aR.h .nil (jP 0 Z) aR.z)))<|dG h λk ag h=>zBa Z Z Z (zB8 Xa (GC U k ag) Z .nil) Z (λai=>(y_ [] Z)) λai=>zBa Z Z Z (fX (e:=UV) ([k]) [(0,vB (k))] Z Z Z Z (vG (vB (k)) Z) Z Z Z) Z (λae=>(y_ [] Z)) λae=>bS 17 Z Z<|eX h λY h=>aK (sF 3 FBo Z Z Z (bL (aQ.res 0 Z) FBo) Z Z Z Z Y Z) Z λu=>let E:=Ar UV u (a.2.2.2.1++[k]);aB Z<|aB Z<|aM<|aT<|aB Z<|aM<|aI<|cC (λi=>vK U a n f k i=some r) (λi H=>[(0,y),(4,vI (a.1)),(5,vI (a.2.1)),(6,s),(7,u),(8,q),(9,vI (i))]) (λi H=>[F,E]) ?_ ?_
    .refine aT<|aB Z<|aM<|aU<|eP (lC U a n f k) (λj J=>[(0,y),(4,vI (a.1)),(5,vI (a.2.1)),(6,s),(7,u),(8,q),(9,vI (j.1)),(10,vI (j.2))]) (λj J=>[F,E]) ((0:Int),(0:Int)) () h SF (aW.ix [2,3] Z Z) ?_;intro ac j J h;refine aI<|aT<|aA Z<|aA Z<|aC (dO Z (bL (aQ.res 1 Z) FBo) Z) Z<|cX Z<|aM ?_;refine eF h Z (λh=>?_) λh=>?_
     .refine bK<|aI<|cC (λo=>vL j (bG (lC U a n f k) ac) o=some r) (λo K=>[(0,y),(4,vI (a.1)),(5,vI (a.2.1)),(6,s),(7,u),(8,q),(9,vI (o)),(10,vI (j.2))]) (λo K=>[F,E]) ?_ ?_
      .refine aU<|aT<|aA Z<|aA Z<|eX h λS h=>aC (a_ Z Z (bL (aQ.res 1 Z) FBo) Z Z S) Z<|aC (eC Z (bL (aQ.res 1 Z) FBo) Z Z Z aiG S) Z<|aM ?_;refine iA h Z (λ_ h=>?_) λ_ h=>?_
       .refine aL<|aA Z<|cP Z<|aB Z<|dK<|jZ ?_;exact cF (wI .i64 (j.1+(1:Int))) () h SF Z
       refine cZ<|jZ ?_;exact cF (j.1) () h SF Z
      intro o K h;unfold vL at h;refine aL<|aA Z<|cP Z<|aB Z<|aM ?_;exact Ac (o,(wI .i64 (j.2+(1:Int)))) () h SF Z
     refine fK ?_;exact cF (j.1) () h SF Z
    intro i H h;unfold vK at h;refine aT<|aA Z<|aA Z<|aC (dO Z (bL (aQ.res 0 Z) fH) Z) Z<|aC (Gm Z Z) Z<|aA Z<|aA Z<|aC (Gm Z Z) Z<|aB Z<|aB Z<|aM<|aU<|eP (B:=GI) (fM a n f i) (λb d=>[(0,y),(4,vI D),(5,vI (max a.2.1 i)),(6,d.1),(7,d.2),(8,q)]) (λb d=>[Ar cK d.1 b.1,Ar UV d.2 b.2]) ((a.2.2.1++[f]),(a.2.2.2.1++[k])) (s,u) h SF (aW.refl _) ?_;intro ab b d h;let C:=(wI .i64 ((b.1.length:Int) - (1:Int)))
    let V:=(Mw d.1 (Int.toNat 0) (Int.toNat C) 1)
    let w:=(Int.toNat (wI .i64 ((b.2.length:Int) - (1:Int))))
    let v:=(List.take (Int.toNat C) b.1)
    let T:=(wI .i64 ((v.length:Int) - (1:Int)))
    let A:=(wI .i64 ((at' v T) - (1:Int)))
    refine aI<|aI<|cC (λt=>sC a n f i b (bG (fM a n f i) ab) t=some r) (λt I=>[(0,y),(4,vI D),(5,vI (max a.2.1 i)),(6,d.1),(7,d.2),(8,q),(65,vB (t))]) (λt I=>[Ar cK d.1 b.1,Ar UV d.2 b.2]) ?_ ?_
    .refine aL<|aA Z<|aC (dO Z (bL (aQ.res 0 Z) fH) Z) Z<|aC (mA Z Z) Z<|aA Z ?_;refine mL h Z (λ_ h=>?_) λ_ h=>?_
     .refine bH Z<|bH Z<|aF Z (dO Z (bL (aQ.res 0 Z) fH) Z) Z<|aF Z (kT Z Z) Z<|eX h λR h=>aF Z (a_ Z Z (bL (aQ.res 0 Z) fH) Z Z R) Z<|aF Z (eC Z (bL (aQ.res 0 Z) fH) Z Z Z gC R) Z<|aF Z (oV Z Z) Z<|bO Z<|aM ?_;exact cF (decide ((at' b.1 C)=(0:Int))) () h SF Z
     refine aD Z<|aD Z<|aD Z<|aD Z<|aD Z<|aD Z<|aD Z<|bT Z<|aM ?_;exact cF (false) () h SF Z
    intro t I h;refine iA h Z (λ_ h=>?_) λ_ h=>?_
    .refine bK<|aU<|aI ?_;refine xP [0,0,2,6,15,0,0,64,192,480,31,2047] 11 mixedOrders ?_;refine bE Z<|bE Z<|bI Z (aW.cons 0 Z .nil) .nil (dO Z (bL (aQ.res 0 Z) fH) Z) aR.z<|iD Z (kT Z Z)<|eX h λN h=>bI Z (aW.cons 0 Z .nil) .nil (II Z Z (bL (aQ.res 0 Z) fH) Z Z N) aR.z<|bE Z<|bE Z<|bI Z (aW.cons 1 Z .nil) .nil (dO Z (bL (aQ.res 0 Z) FBo) Z) aR.z<|iD Z (kT Z Z)<|eX h λO h=>bI Z (aW.cons 1 Z .nil) .nil (II Z Z (bL (aQ.res 0 Z) FBo) Z Z O) aR.z<|iD Z (BE Z)<|bS 11 Z Z<|aB Z<|aM<|jY (HJ (sz:=1) 0 Z N)<|jY (HJ (sz:=1) 1 Z O)<|aT<|aA Z<|aC (dO Z (bL (aQ.res 0 Z) fH) Z) Z<|aC (mA Z Z) Z<|aM ?_;refine eF h Z (λh=>?_) λh=>?_
     .refine aL<|aA Z<|aA Z<|aC (dO Z (bL (aQ.res 0 Z) fH) Z) Z<|aC (kT Z Z) Z<|eX h λP h=>aC (a_ Z Z (bL (aQ.res 0 Z) fH) Z Z P) Z<|aC (eC Z (bL (aQ.res 0 Z) fH) Z Z Z gC P) Z<|aC (kT Z Z) Z<|eX h λQ h=>aC (a_ Z Z (bL (aQ.res 0 Z) fH) Z Z Q) Z<|Hc 0 A Q Z Z Z Z Z Z Z<|dK<|jZ ?_;exact Ac ((List.set v (Int.toNat T) A),(List.take w b.2)) (V,(Mw d.2 (Int.toNat 0) w 1)) h SF Z
     refine cZ<|jZ ?_;exact Ac (v,(List.take w b.2)) (V,(Mw d.2 (Int.toNat 0) w 1)) h SF Z
    refine uS<|gY<|gY<|BC<|jZ ?_;exact cF (D,(max a.2.1 i),b.1,b.2) (d.1,d.2) h SF Z
   intro g m h;unfold lB at h;refine aL<|aA Z<|cP Z<|aB Z<|aM ?_;exact Ac (g.1,g.2.1,g.2.2.1,g.2.2.2,(wI .i64 (a.2.2.2.2+(1:Int)))) (m.1,m.2) h SF Z
  refine fK ?_;exact bQ (a.1,a.2.1) () h SF .nil (aE.refl _ _)
 intro G b4 h;unfold AV at h;refine aT<|aA Z<|aA Z<|aB Z<|aB Z<|aM<|aP ?_;cases h;exact gA () Z Z (RV.tmp Z) (RV.tmp Z) (aW.refl _) aE.nil
def DC (a:cJ):V1 (Int):=
 Option.bind (Bw U a) λb=>(if(!b)=true then(some (0:Int))else(Option.bind (tT U a) λc=>(some (c.1))))
theorem adF:aX prog 221:=call221
theorem PR {b:cJ} (a:V0) (r:Int) (h:DC U b=some r):
  aZ prog 221 #[a] [Sl aS a b] (λx:Unit=>vI (r)) (λx l=>l) (λ_ l=>l):=by
 refine aZ.of func221 Z ntmps221 Z λc=>Q3 Z<|aI<|Q5 Z<|dG h λd f h=>aK (zB8 Rs (Jh U a d f) Z (gK [0] Z)) Z λi=>aC (fF Z) Z<|aM<|iA h Z (λ_ h=>?_) λ_ h=>?_
 .refine Q3 Z<|aP<|aG ?_;cases h;exact gM Z
 refine bK<|Q5 Z<|dG h λe g h=>aK (zB8 Xb (Jg U a e g) Z (gK [0] Z)) Z λj=>aA Z<|fL Z<|fL Z<|aB Z<|Q4 Z<|Q5 Z<|Q4 Z<|aP ?_;cases h;exact gM Z
def ES (a:cJ):V1 (Int):=
 Option.bind (Bw U a) λb=>(if(!b)=true then(some (0:Int))else(Option.bind (tT U a) λc=>(some (c.2))))
theorem adG:aX prog 222:=call222
theorem Sq {b:cJ} (a:V0) (r:Int) (h:ES U b=some r):
  aZ prog 222 #[a] [Sl aS a b] (λx:Unit=>vI (r)) (λx l=>l) (λ_ l=>l):=by
 refine aZ.of func222 Z ntmps222 Z λc=>Q3 Z<|aI<|Q5 Z<|dG h λd f h=>aK (zB8 Rs (Jh U a d f) Z (gK [0] Z)) Z λi=>aC (fF Z) Z<|aM<|iA h Z (λ_ h=>?_) λ_ h=>?_
 .refine Q3 Z<|aP<|aG ?_;cases h;exact gM Z
 refine bK<|Q5 Z<|dG h λe g h=>aK (zB8 Xb (Jg U a e g) Z (gK [0] Z)) Z λj=>aA Z<|fL Z<|fL Z<|aB Z<|Q4 Z<|Q5 Z<|Q4 Z<|aP ?_;cases h;exact gM Z
def Ck (a:Unit):V1 V4:=
 some (true)
def mX (b:cJ) (e a:Int) (c:(Int)->V1 V4):V1 V4:=
 if a<(b.length:Int)then(ck (0<=a/\a<(b.length:Int)) (Option.bind (zJ U ((((at' b a).1),((at' b a).2))) e) λd=>(if(!d)=true then(some (false))else(c (wI .i64 (a+(1:Int)))))))else(Ck (()))
def pI (b:cJ) (c:Int) (a:V4):V1 V4:=
 if a=true then(some (false))else(bG (mX U b c) U (0:Int))
def qI (a:cJ) (b:Int):V1 V4:=
 if(200:Int)<(a.length:Int)then(pI U a b (true))else(Option.bind (Bw U a) λc=>(if(!c)=true then(pI U a b (true))else(Option.bind (DC U a) λd=>(if(24:Int)<d then(pI U a b (true))else(Option.bind (ES U a) λe=>(pI U a b (decide ((2:Int)<e))))))))
theorem WY:aX prog 209:=call209
theorem Kf {e:cJ} {f:Int} (b:V0) (r:V4) (h:qI U e f=some r):
  aZ prog 209 #[b,vI (f)] [Sl aS b e] (λx:Unit=>vB (r)) (λx l=>l) (λ_ l=>l):=by
 refine aZ.of func209 Z ntmps209 Z λc=>Q3 Z<|aI<|aI<|cC (λg=>pI U e f g=some r) (λg v=>[(0,b),(1,vI (f)),(23,vB (g))]) (λg v=>[]) ?_ ?_
 .refine aL<|aA Z<|eL (cG Z) Z<|aC (mA Z Z) Z<|aA Z<|mL h Z (λ_ h=>?_) λ_ h=>?_
  .exact aD Z<|aD Z<|aD Z<|bO Z<|aA Z<|aD Z<|aD Z<|aD Z<|bO Z<|aA Z<|aD Z<|aD Z<|aD Z<|bO Z<|aM<|cF (true) () h SF Z
  refine bH Z<|dG h λo s h=>fU Z (zB8 Rs (Jh U b o s) Z (gK [0] Z)) Z λA=>aF Z (fF Z) Z<|bT Z<|aA Z<|iO (by exact rfl) (by exact rfl) (λa=>?_) (λa=>?_)
  .have h:=Bt a h;exact aD Z<|aD Z<|aD Z<|bO Z<|aA Z<|aD Z<|aD Z<|aD Z<|bO Z<|aM<|cF (true) () h SF Z
  have h:=w_ a h;refine bH Z<|dG h λp t h=>fU Z (zB8 adF (PR U b p t) Z (gK [0] Z)) Z λB=>aF Z (mA Z Z) Z<|bT Z<|aA Z<|mL h Z (λ_ h=>?_) λ_ h=>?_
  .exact aD Z<|aD Z<|aD Z<|bO Z<|aM<|cF (true) () h SF Z
  exact bH Z<|dG h λk u h=>fU Z (zB8 adG (Sq U b k u) Z (gK [0] Z)) Z λC=>aF Z (mA Z Z) Z<|bT Z<|aM<|cF (decide ((2:Int)<k)) () h SF Z
 intro g v h;refine iA h Z (λ_ h=>?_) λ_ h=>?_
 .refine Q3 Z<|aP<|aG ?_;cases h;exact gM Z
 refine bK<|aI<|cC (λm=>Ck m=some r) (λm w=>[]) (λm w=>[]) ?_ ?_
 .refine Q3 Z<|aU<|eP (mX U e f) (λd i=>[(0,b),(1,vI (f)),(5,vI (d))]) (λd i=>[]) (0:Int) () h SF (aW.refl _) ?_;intro y d i h;refine aI<|Q5 Z<|aA Z<|eL (cG Z) Z<|cX Z<|aM<|eF h Z (λh=>?_) λh=>?_
  .refine bK<|aI<|aU<|Q5 Z<|aA Z<|eX h λj h=>aC (a_ Z Z (cG Z) Z Z j) Z<|aC (eO (cs:=[vI ((at' e d).1),vI ((at' e d).2)]) Z (cG Z) dL Z Z Z Z j) Z<|aA Z<|dG h λn q h=>aK (zB8 adH (MA U n q) Z .nil) Z λz=>aC (fF Z) Z<|aM<|iA h Z (λ_ h=>?_) λ_ h=>?_
   .refine Q3 Z<|aP<|bB<|aG<|aG<|bB<|aG ?_;cases h;exact gM Z
   exact cZ<|jZ<|aL<|aA Z<|cP Z<|Q4 Z<|Ac (wI .i64 (d+(1:Int))) () h SF Z
  exact fK<|cF () (()) h SF Z
 intro m w h;unfold Ck at h;refine Q3 Z<|aP ?_;cases h;exact gM Z
end Go.Proofs.YtemmagadjnlajaaGreatDoor