/- Models and proofs. Conditions: none. -/
import Derived.Test.YtgciopekomcbfaaGreatDoorZTMA1
import Derived.Maps.RangeRun
set_option linter.unusedVariables false
set_option linter.unusedSimpArgs false
set_option maxHeartbeats 4000000
set_option maxRecDepth 20000
open Go.Proofs.Tryz
section
set_option linter.unusedSectionVars false
namespace Go.Sx
open Go.RowKit
section defs
variable {κ ν:Type} [DecidableEq κ]
def FE (a:κ->V0) (b:ν->V0):Nat->V6 (κ×ν)->V6 MapEntry
 |_,[]=>[]
 |i,x::xs=>⟨a x.1,b x.2,i⟩::FE a b (i+1) xs
def nW (k:κ):V6 (κ×ν)->V1 ν
 | []=>none
 |x::xs=>if k=x.1 then some x.2 else nW k xs
def EA (k:κ) (v:ν):V6 (κ×ν)->V6 (κ×ν)
 | []=>[(k,v)]
 |x::xs=>if k=x.1 then(k,v)::xs else x::EA k v xs
def Yn (a:ν->V0) (k:κ):Nat->V6 (κ×ν)->V1 (Nat×V0)
 |_,[]=>none
 |i,x::xs=>if k=x.1 then some (i,a x.2)else Yn a k (i+1) xs
theorem Qa (a:ν->V0) (k:κ):∀(i:Nat) (l:V6 (κ×ν)),(Yn a k i l).map (·.2)=(nW k l).map a
 |_,[]=>rfl
 |i,x::xs=>by
  simp only[Yn,nW];split
  .rfl
  .exact Qa a k (i+1) xs
theorem MM (a:κ->V0) (b:ν->V0):∀(i:Nat) (l:V6 (κ×ν)) (x:κ×ν),FE a b i (l++[x])=FE a b i l++[⟨a x.1,b x.2,i+l.length⟩]
 |i,[],x=>rfl
 |i,y::ys,x=>by
  simp only[List.cons_append,FE,MM a b (i+1) ys x,zA9];rw[show i+1+ys.length=i+(ys.length+1) by omega]
theorem JH (k:κ) (v:ν):∀l:V6 (κ×ν),nW k l=none->EA k v l=l++[(k,v)]
 | [],_=>rfl
 | x :: xs, h => by
  simp only[nW]at h;split at h
  .cases h
  .rename_i a;simp only[EA,if_neg a,JH k v xs h,List.cons_append]
theorem WM (a:κ->V0) (b:ν->V0) (k:κ) (v:ν):∀(i0 i:Nat) (l:V6 (κ×ν)) (j:Nat) (u:V0),Yn b k i l=some (j,u)->
  i<=j/\((FE a b i l)[j - i]?).map (·.key)=some (a k)/\FE a b i (EA k v l)=(FE a b i l).modify (j - i) (λe=>{e with key:=a k,val:=b v})/\(EA k v l).length=l.length
 |_,i,[],j,u,h=>by simp[Yn]at h
 | i0, i, x :: xs, j, u, h => by
  simp only[Yn]at h;split at h
  .rename_i n;simp only[Option.some.injEq,Prod.mk.injEq]at h;obtain⟨rfl,_⟩:=h;simp[FE,EA,n]
  .rename_i c;obtain⟨o,f,g,m⟩:=WM a b k v i0 (i+1) xs j u h;have d:j - i=(j - (i+1))+1:=V7
   refine⟨V7,?_,?_,?_⟩
   .rw[d];simpa [FE]using f
   .simp only[EA,if_neg c,FE];rw[d,List.modify_succ_cons,g]
   .simp[EA,c,m]
end defs
structure LF (P:Program) (kt:TypeId) {κ:Type} [DecidableEq κ] (ek:κ->V0):Prop where
 chk:∀b k w,(Instr.checkKey b 10000 kt (ek k)).run P w = .ok () w
 find:∀{ν:Type} (ev:ν->V0) (k:κ) (l:List (κ×ν)) w,(Instr.findKey kt (ek k) (FE ek ev 0 l)).run P w = .ok (Yn ev k 0 l) w
 same:∀k,Instr.sameBits 10000 (ek k) (ek k)=true
def Mp {b c:Type} (d:b->V0) (e:c->V0) (r:Nat) (l:V6 (b×c)):aZ where
 p w F:=F r/\w.heap[r]? = some (.map (FE d e 0 l).toArray l.length)
 mono:=fun⟨f,a⟩ h=>by
  obtain⟨g,i⟩:=h r f (zAh.1 a).1;exact⟨g,by rw[i];exact a⟩
section
variable {P:Program} {rd:V1 Nat} {c:wJ} {n:Sz} {σ:Fr} {M L:V6 aZ} {Q:Exit->Act->V2->Prop} {ops:Array V5} {rest:V6 V5}
variable {d:V1 Tmp} {ty:V9} {pos:String} {aft:Array Edge} {g:V1 (Nat×V4)}
theorem St.push {w:V2} (t:St c M L w) (o:Obj) {m:aZ} (z:m.p (w.alloc o) (λk=>k=w.heap.size)):St c (m::M) L (w.alloc o):=by
 have e:Ph w (w.alloc o):=(Below.refl _ _).alloc (zAg _) _;obtain⟨v,F,b,x⟩:=t;have u:∀k,k<w.heap.size->(w.alloc o).heap[k]? = w.heap[k]? := e.block;refine⟨v.trans e,λi k=>match i with|0=>k=w.heap.size|i+1=>F i k,⟨?_,?_,?_⟩,λf y=> ?_⟩
 .intro i A a;cases i with
  |zero=>simp at a;subst a;exact z
  |succ i=>exact aZ.same (b.res i A (by simpa using a)) (λ_ h=>h) (λk _ s=>u k s)
 .intro i k q;cases i with
  |zero=>subst q;exact⟨.inl v.size,V8⟩
  |succ i=>exact⟨(b.rng i k q).1,zAv (b.rng i k q).2 e.size⟩
 .intro i j k l r;cases i with
  |zero=>
   cases j with
   |zero=>rfl
   |succ j=>have:=(b.rng j k r).2;simp only at l;omega
  |succ i=>
   cases j with
   |zero=>have:=(b.rng i k l).2;simp only at r;omega
   |succ j=>exact congrArg (· + 1) (b.dis i j k l r)
 .exact f.mono (x f y) λk q s=>⟨⟨q.1,λi l=>by
   cases i with
   |zero=>simp only at l;omega
   |succ i=>exact q.2 i l⟩,u k s⟩
variable {κ ν:Type} [DecidableEq κ] {ek:κ->V0} {ev:ν->V0}
theorem aN.makeMap (ek:κ->V0) (ev:ν->V0) {T:V9}:aN P c n σ M L ⟨d,.makeMap T none,ty,pos,aft,g⟩ (λr:Nat=> .map (some r)) (λr=>Mp ek ev r []::M) (λ_=>L):=λa w s t=>by
 have b:(execOp a.eval ⟨d,.makeMap T none,ty,pos,aft,g⟩).run P w = .ok (.value (.map (some w.heap.size))) (w.alloc (.map #[] 0)):=by
  simp[execOp,Instr.makeMap]
 simp only[Oper.wp,b,Oper.upon];exact⟨w.heap.size,rfl,t.push _ ⟨rfl,heap_alloc_new w _⟩⟩
theorem Vw [cO P] {T j m:V9} {C D E G:Nat} {z f:V0} {o:TypeDesc} {w:V2} {r:Nat} {l:V6 (κ×ν)} {F:Nat->Prop} (i:LF P j ek) (q:(Mp ek ev r l).p w F)
  (s:cO.tab P T=some ⟨.map j m,C,D,z⟩) (t:cO.tab P m=some ⟨o,E,G,f⟩) (k:κ) (b:V4):
  (Instr.lookup T (.map (some r)) (ek k) b).run P w = .ok (if b then .tuple #[((nW k l).map ev).getD f,.bool (nW k l).isSome]else((nW k l).map ev).getD f) w:=by
 have y:(getObj r).run P w = .ok (.map (FE ek ev 0 l).toArray l.length) w:=by
  simp[getObj,Sem.run,q.2]
 have u:=i.find ev k l w;have a:=Qa ev k 0 l;simp only[Instr.lookup];simp[(cO.ok s).run_und w,y,i.chk,u];cases e:Yn ev k 0 l with
 |none=>
  rw[e]at a;have:nW k l=none:=by cases h:nW k l<;>simp[h]at a ⊢
  simp[this,(cO.ok t).run_zero w]
 | some x =>
  rw[e]at a;obtain⟨v,A,B⟩:∃v,nW k l=some v/\ev v=x.2:=by
   cases h:nW k l with
   |none=>simp[h]at a
   |some v=>simp[h]at a;exact⟨v,rfl,a.symm⟩
  simp[A,B]
theorem R_ [cO P] (j:Nat) {T e f:V9} {D E G H:Nat} {z h:V0} {i:TypeDesc} {x y:V3} {r:Nat} {l:V6 (κ×ν)} (k:κ) {b:V4} (v:LF P e ek) (B:Go.Sx.ev σ x=some (.map (some r))) (C:Go.Sx.ev σ y=some (ek k)) (q:M[j]? = some (Mp ek ev r l))
  (o:cO.tab P T=some ⟨.map e f,D,E,z⟩) (p:cO.tab P f=some ⟨i,G,H,h⟩) {u:V0} (A:((nW k l).map ev).getD h=u):
  Y P c n σ M L ⟨d,.lookup T x y b,ty,pos,aft,g⟩ (if b then .tuple #[u,.bool (nW k l).isSome]else u):=λa w s t=>by
 obtain⟨F,m⟩:=t.res q;subst A;simp[execOp,s.eval B,s.eval C,Vw v m o p]
theorem FJ {w:V2} {r:Nat} {a:Array MapEntry} {k:Nat} (h:w.heap[r]? = some (.map a k)) (o:Obj):(setObj r o).run P w = .ok () {w with heap:=w.heap.setIfInBounds r o}:=by
 simp[setObj,Sem.run,h]
theorem St.setMap {w:V2} (t:St c M L w) {j r:Nat} {l b:V6 (κ×ν)} (f:M[j]? = some (Mp ek ev r l)) (o:Obj) (m:o = .map (FE ek ev 0 b).toArray b.length):
  St c (M.set j (Mp ek ev r b)) L {w with heap:=w.heap.setIfInBounds r o}:=
 t.upd f Z Z Z V8 λF a _=>⟨λk _ i=>by
   rw[zB2 (λe=>i (by subst e;exact a.1))],F,⟨a.1,by
    rw[zBc (zAh.1 a.2).1,m]⟩,λ_ h=> .inl h⟩
theorem Rn [cO P] (j:Nat) {T R vt:V9} {s1 s2:Nat} {z:V0} {x y v:V3} {r:Nat} {l:V6 (κ×ν)} (k:κ) (f:ν) (C:LF P R ek) (Y:Go.Sx.ev σ x=some (.map (some r))) (hy:Go.Sx.ev σ y=some (ek k)) (X:Go.Sx.ev σ v=some (ev f)) (K:M[j]? = some (Mp ek ev r l))
  (I:cO.tab P T=some ⟨.map R vt,s1,s2,z⟩) (h:J c n σ (M.set j (Mp ek ev r (EA k f l))) L (wpList P ops Q rest)):
  J c n σ M L (wpList P ops Q (⟨none,.mapUpdate T x y v,ty,pos,aft,none⟩::rest)):=λa w s t=>by
 refine mQ Z ?_;obtain⟨F,E⟩:=t.res K;have N:(getObj r).run P w = .ok (.map (FE ek ev 0 l).toArray l.length) w:=by
  simp[getObj,Sem.run,E.2]
 have b:=C.find ev k l w;have A:=Qa ev k 0 l;have B:∃o:Obj,(execOp a.eval ⟨none,.mapUpdate T x y v,ty,pos,aft,none⟩).run P w = .ok .skip {w with heap:=w.heap.setIfInBounds r o}/\o = .map (FE ek ev 0 (EA k f l)).toArray (EA k f l).length:=by
  simp only[execOp,s.eval Y,s.eval hy,s.eval X,Instr.mapUpdate];cases m:Yn ev k 0 l with
  |none=>
   rw[m]at A b;have U:nW k l=none:=by cases h:nW k l<;>simp[h]at A ⊢
   refine⟨.map (FE ek ev 0 l++[(⟨ek k,ev f,l.length⟩:MapEntry)]).toArray (l.length+1),by simp[(cO.ok I).run_und w,N,C.chk,b,FJ E.2],?_⟩
   rw[JH k f l U,MM];simp
  | some q =>
   obtain⟨i,u⟩:=q;rw[m]at b;obtain⟨_,D,H,S⟩:=WM ek ev k f 0 0 l i u m;rw[Nat.sub_zero]at D H;have O:(((FE ek ev 0 l).toArray[i]?).map (·.key)).getD (ek k)=ek k:=by
    rw[List.getElem?_toArray,D];rfl
   refine⟨.map ((FE ek ev 0 l).toArray.modify i λe=>{e with key:=ek k,val:=ev f}) l.length,?_,?_⟩
   .have G:(Instr.keyThatStays (ek k) (ek k)).run P w = .ok (ek k) w:=by simp[Instr.keyThatStays,C.same k]
    have p:(Option.map (λx=>x.key) (FE ek ev 0 l)[i]?).getD (ek k)=ek k:=by rw[D];rfl
    simp[(cO.ok I).run_und w,N,C.chk,b,p,G,FJ E.2]
   .rw[H,S];simp
 obtain⟨o,W,V⟩:=B;simp only[Oper.wp,W,Oper.upon];exact h _ _ s (t.setMap K o V)
end
end Go.Sx
end
section
set_option linter.unusedSectionVars false
namespace Go.Sx
open Go.RowKit Go.ChangeMaps
def It (b m a:Nat) (c:V6 Nat):aZ where
 p w F:=F b/\w.heap[b]? = some (.mapIter (some m) a c.toArray a)
 mono:=fun⟨e,d⟩ h=>by
  obtain⟨f,g⟩:=h b e (zAh.1 d).1;exact⟨f,by rw[g];exact d⟩
section
variable {κ ν:Type} [DecidableEq κ] {ek:κ->V0} {ev:ν->V0} {R:Type}
theorem Qw (ek:κ->V0) (ev:ν->V0):∀(k:Nat) (l:V6 (κ×ν)) (e:MapEntry),e∈FE ek ev k l->∃i a,l[i]? = some a/\e=⟨ek a.1,ev a.2,k+i⟩
 |_,[],e,h=>by simp[FE]at h
 | k, x :: xs, e, h => by
  rcases zAo.1 h with rfl|h
  .exact⟨0,x,rfl,rfl⟩
  .obtain⟨i,a,b,c⟩:=Qw ek ev (k+1) xs e h;exact⟨i+1,a,b,by rw[c,show k+1+i=k+(i+1) by omega]⟩
theorem Qs (ek:κ->V0) (ev:ν->V0):∀(k:Nat) (l:V6 (κ×ν)) (i:Nat) (a:κ×ν),l[i]? = some a->(⟨ek a.1,ev a.2,k+i⟩:MapEntry)∈FE ek ev k l
 |_,[],i,a,h=>by simp at h
 |k,x::xs,0,a,h=>by simp at h;subst h;exact zAe
 |k,x::xs,i+1,a,h=>by
  have:=Qs ek ev (k+1) xs i a (by simpa using h);rw[show k+1+i=k+(i+1) by omega]at this;exact zAk _ this
theorem SS (ek:κ->V0) (ev:ν->V0):∀(k:Nat) (l:V6 (κ×ν)),(FE ek ev k l).map (·.born)=List.range' k l.length
 |_,[]=>rfl
 |k,x::xs=>by simp[FE,SS ek ev (k+1) xs,List.range'_succ]
def NC (a:κ×ν->V1 R->V1 R) (K:V1 R) (l:V6 (κ×ν)):V1 R:=l.foldr a K
def rem (l:V6 (κ×ν)) (a:V6 Nat):V6 (κ×ν):=((List.range l.length).filter (λi=> !a.contains i)).filterMap (λi=>l[i]?)
theorem OH:∀l:V6 (κ×ν),(List.range l.length).filterMap (λi=>l[i]?)=l
 | []=>rfl
 |x::xs=>by
  rw[zA9,List.range_succ_eq_map,List.filterMap_cons];simp only[List.getElem?_cons_zero,List.filterMap_map];congr 1;have:=OH xs;simpa [Function.comp_def]using this
theorem afu (l:V6 (κ×ν)):rem l []=l:=by
 unfold rem;rw[List.filter_eq_self.2 V8,OH]
theorem acf {l:V6 (κ×ν)} {a:V6 Nat} {i:Nat} {m:κ×ν} (k:l[i]? = some m) (t:i∉a):∃n o,rem l a=n++m::o/\rem l (a++[i])=n++o:=by
 have g:=bB k;have d:i∈(List.range l.length).filter (λi=> !a.contains i):=by simp[g,t]
 obtain⟨A,B,b⟩:=List.append_of_mem d;have c:((List.range l.length).filter (λi=> !a.contains i)).Nodup:=List.Pairwise.filter _ List.nodup_range;rw[b]at c;have r:i∉A:=λh=>by
  have:=(List.nodup_append.1 c).2.2 i h i zAe;exact this Z
 have s:i∉B:=λh=>by
  have:=(zBh.1 (List.nodup_append.1 c).2.1).1;exact this h
 refine⟨A.filterMap (λi=>l[i]?),B.filterMap (λi=>l[i]?),?_,?_⟩
 .unfold rem;rw[b,List.filterMap_append,List.filterMap_cons,k]
 .unfold rem;have e:(List.range l.length).filter (λj=> !(a++[i]).contains j)=((List.range l.length).filter (λj=> !a.contains j)).filter (λj=>decide (j≠i)):=by
   rw[List.filter_filter];apply List.filter_congr;intro j _;rw[Bool.eq_iff_iff];simp[and_comm]
  rw[e,b,List.filter_append,List.filter_cons];have p:A.filter (λj=>decide (j≠i))=A:=List.filter_eq_self.2 (λj f=>by simp;rintro rfl;exact r f);have q:B.filter (λj=>decide (j≠i))=B:=List.filter_eq_self.2 (λj f=>by simp;rintro rfl;exact s f);rw[p,q,List.filterMap_append.symm];simp
theorem OE {c:κ×ν->V1 R->V1 R} (f:∀a b x,c a (c b x)=c b (c a x)) (K:V1 R) (d:κ×ν) (e:V6 (κ×ν)):∀g:V6 (κ×ν),NC c K (g++d::e)=c d (NC c K (g++e))
 | []=>rfl
 |x::xs=>by
  have:=OE f K d e xs;unfold NC at this ⊢;rw[List.cons_append,List.cons_append,List.foldr_cons,List.foldr_cons,this,f]
end
section
variable {P:Program} {rd:V1 Nat} {c:wJ} {n:Sz} {σ σ':Fr} {M L M' L':V6 aZ} {Q:Exit->Act->V2->Prop} {ops:Array V5} {rest:V6 V5}
variable {d:V1 Tmp} {ty:V9} {pos:String} {aft:Array Edge} {g:V1 (Nat×V4)}
variable {κ ν:Type} [DecidableEq κ] {ek:κ->V0} {ev:ν->V0} {R:Type}
theorem aN.range [cO P] (j:Nat) {T f h:V9} {q r:Nat} {z:V0} {x:V3} {m:Nat} {l:V6 (κ×ν)} (p:Go.Sx.ev σ x=some (.map (some m))) (o:M[j]? = some (Mp ek ev m l)) (k:cO.tab P T=some ⟨.map f h,q,r,z⟩):
  aN P c n σ M L ⟨d,.range T x,ty,pos,aft,g⟩ (λb:Nat=> .pointer (some ⟨b,0,none⟩)) (λb=>It b m l.length []::M) (λ_=>L):=λa w s t=>by
 obtain⟨F,i⟩:=t.res o;have e:(execOp a.eval ⟨d,.range T x,ty,pos,aft,g⟩).run P w = .ok (.value (.pointer (some ⟨w.heap.size,0,none⟩))) (w.alloc (.mapIter (some m) l.length #[] l.length)):=by
  simp[execOp,s.eval p,run_range_map w T f h m _ _ (cO.ok k).und i.2]
 simp only[Oper.wp,e,Oper.upon];exact⟨w.heap.size,rfl,t.push _ ⟨rfl,heap_alloc_new w _⟩⟩
def IA (ek:κ->V0) (ev:ν->V0) (l:V6 (κ×ν)):V1 Nat->V0
 |none=> .tuple #[.bool false]
 |some i=>match l[i]? with
  |some a=> .tuple #[.bool true,ek a.1,ev a.2]
  |none=>undef
def aik (b:Nat) (a:V6 Nat):V1 Nat->Prop
 |none=>∀i,i<b->i∈a
 |some i=>i<b/\i∉a
def Xd (M:V6 aZ) (f b m e:Nat) (a:V6 Nat):V1 Nat->V6 aZ
 |none=>M
 |some i=>M.set f (It b m e (a++[i]))
theorem St.pureL {w:V2} {p:Prop} (hp:p) (t:St c M L w):St c M (agK p::L) w:=by
 obtain⟨ho,F,hF,hL⟩:=t;refine⟨ho,F,hF,λf hf=> ?_⟩
 rcases zAo.1 hf with rfl|hf
 .exact hp
 .exact hL f hf
theorem aN.next (jm ji:Nat) {x:V3} {b m:Nat} {l:V6 (κ×ν)} {seen:V6 Nat} (hx:Go.Sx.ev σ x=some (.pointer (some ⟨b,0,none⟩))) (hf:M[jm]? = some (Mp ek ev m l)) (hi:M[ji]? = some (It b m l.length seen)):
  aN P c n σ M L ⟨d,.next x false,ty,pos,aft,g⟩ (IA ek ev l) (Xd M ji b m l.length seen) (λo=>agK (aik l.length seen o)::L):=λa w s t=>by
 obtain⟨F,hF⟩:=t.res hf;obtain⟨G,hG⟩:=t.res hi;have hold:∀e∈(FE ek ev 0 l).toArray.toList,e.born<l.length:=λe he=>by
  obtain⟨i,kv,h1,h2⟩:=Qw ek ev 0 l e (by simpa using he);rw[h2];have:=bB h1;simp;omega
 rcases run_next_at (P:=P) w ty b m l.length l.length seen.toArray (FE ek ev 0 l).toArray l.length hG.2 hF.2 hold (zAg _)with⟨h0,hr⟩|⟨e,he,w1,hw1,hr⟩
 .have hrun:(execOp a.eval ⟨d,.next x false,ty,pos,aft,g⟩).run P w = .ok (.value (.tuple #[.bool false])) w:=by
   simp[execOp,s.eval hx,hr]
  simp only[Oper.wp,hrun,Oper.upon];refine⟨none,rfl,t.pureL λi hi'=> ?_⟩
  obtain⟨kv,hkv⟩:∃kv,l[i]? = some kv:=⟨_,zA0 hi'⟩
  have:=all_seen _ _ h0 _ (by simpa using Qs ek ev 0 l i kv hkv);simpa using this
 .have hml:=_root_.Go.mem_left he;obtain⟨i,kv,h1,h2⟩:=Qw ek ev 0 l e (by simpa using hml.1);subst h2;rw[Nat.zero_add]at hr hml;have hrun:(execOp a.eval ⟨d,.next x false,ty,pos,aft,g⟩).run P w = .ok (.value (.tuple #[.bool true,ek kv.1,ev kv.2])) (setBlock w1 b (.mapIter (some m) l.length (seen.toArray.push i) l.length)):=by
   simp[execOp,s.eval hx,hr]
  simp only[Oper.wp,hrun,Oper.upon];have t1:St c M L w1:=by
   rcases hw1 with rfl|rfl
   .exact t
   .exact t.ext ((Below.refl _ _).drew)
  refine⟨some i,by simp[IA,h1],St.pureL ⟨bB h1,by simpa using hml.2⟩ ?_⟩
  refine t1.upd hi Z Z Z (by simp[setBlock]) λF hF _=>⟨λk _ hk=> ?_,F,⟨hF.1,?_⟩,λ_ h=> .inl h⟩
  .simp only[setBlock];rw[zB2 (λe=>hk (by subst e;exact hF.1))]
  .simp only[setBlock];rw[zBc (zAh.1 hF.2).1];simp
theorem aN.entry (A z:Nat) {x:V3} {b m i:Nat} {l:V6 (κ×ν)} {f:V6 Nat} {e:κ×ν} (j:l[i]? = some e) (y:Go.Sx.ev σ x=some (.pointer (some ⟨b,0,none⟩))) (q:M[A]? = some (Mp ek ev m l)) (r:M[z]? = some (It b m l.length (f++[i]))):
  aN P c n σ M L ⟨d,.entry x,ty,pos,aft,g⟩ (λ_:Unit=> .tuple #[ek e.1,ev e.2]) (λ_=>M) (λ_=>L):=λa w s t=>by
 obtain⟨F,o⟩:=t.res q;obtain⟨G,p⟩:=t.res r;have k:=Qs ek ev 0 l i e j;rw[Nat.zero_add]at k;have u:((FE ek ev 0 l).toArray.toList.map (·.born)).Nodup:=by
  simp only[SS];exact List.nodup_range'
 have v:=run_entry_at (P:=P) w b m l.length f.toArray (FE ek ev 0 l).toArray l.length ⟨ek e.1,ev e.2,i⟩ (by rw[p.2];simp) o.2 (by simpa using k) u;have h:(execOp a.eval ⟨d,.entry x,ty,pos,aft,g⟩).run P w = .ok (.value (.tuple #[ek e.1,ev e.2])) w:=by
  simp[execOp,s.eval y,v]
 simp only[Oper.wp,h,Oper.upon];exact⟨(),by first|rfl|trivial,t⟩
theorem adx {G:Act->V2->Prop} (σ':Fr) (M' L':V6 aZ) (f:Ba σ σ') (e:aX M M') (b:aF [] L L') (h:J c n σ' M' L' G):J c n σ M L G:=λa w s t=>h a w (s.weak f) (t.weakE e b)
theorem Uq {e:V9} {d:TypeDesc} (p:P.underlying e=some d) (m:∀b k w,(Instr.checkKey b 10000 e (ek k)).run P w = .ok () w) (o:∀a b,Instr.sameNow d (ek a) (ek b)=none)
  (r:∀a b w,(Op.equal e (ek a) (ek b)).run P w = .ok (decide (a=b)) w) (f:∀k,Instr.sameBits 10000 (ek k) (ek k)=true):LF P e ek:=by
 refine⟨m,λ{ν'} ev' k l w=> ?_,f⟩
 have j:∀(l:V6 (κ×ν')) (i:Nat),(Instr.findAsking e (ek k) (FE ek ev' i l) i).run P w = .ok (Yn ev' k i l) w:=by
  intro l
  induction l with
  |nil=>intro i;simp[FE,Yn,Instr.findAsking]
  |cons x q t=>
   intro i;simp only[FE,Yn,Instr.findAsking];simp[r];by_cases h:k=x.1
   .simp[h]
   .simp[h,t]
 unfold Instr.findKey;cases l with
 |nil=>simp[FE,Yn,Instr.findNow,run_underlying p w]
 |cons x q=>
  have s:Instr.findNow d (ek k) (FE ek ev' 0 (x::q)) 0=none:=by simp[FE,Instr.findNow,o]
  simp[run_underlying p w,s,j]
def ZB {R:Type} (c:wJ) (n:Sz) (σ:Fr) (M L:V6 aZ) (x:V1 R) (r:R) (a:Act) (w:V2):Prop:=x=some r/\Hv n σ a/\St c M L w
theorem Uo {R:Type} {x:V1 R} {r:R} (h:x=some r) (e:Ba σ' σ) (b:aX M' M) (a:aF [] L' L):J c n σ' M' L' (ZB c n σ M L x r):=λ_ _ s t=>⟨h,s.weak e,t.weakE b a⟩
theorem XM (p:κ×ν->V1 R->V1 R) {K:V1 R} {r:R} (O s:Nat) {b m:Nat} {l:V6 (κ×ν)} (hc:∀a b x,p a (p b x)=p b (p a x)) (h:NC p K l=some r)
  (hf:M[O]? = some (Mp ek ev m l)) (U:M[s]? = some (It b m l.length [])) (af:Nat.beq s O=false) {t0 S T:Tmp} (hx:lk σ t0=some (.pointer (some ⟨b,0,none⟩))) (ab:Nat.blt S n.sz=true) (E:Nat.blt T n.sz=true)
  {id ex:Nat} {y1 y2:V9} {q1 q2:String} {f1 f2:Array Edge} {y:Code}
  (C:∀(t:κ×ν) (i:Nat) (k:V6 Nat) (x:V1 R),l[i]? = some t->p t x=some r->
   J c n ((T,.bool true)::(S,.tuple #[.bool true,ek t.1,ev t.2])::σ) (M.set s (It b m l.length (k++[i]))) L (y.wpr rd P (Exit.then (ZB c n σ (M.set s (It b m l.length (k++[i]))) L x r) Q)))
  (V:∀k,K=some r->J c n ((T,.bool false)::(S,.tuple #[.bool false])::σ) (M.set s (It b m l.length k)) L (Q (.exit ex))):
  J c n σ M L ((Code.loop (Code.seq (Code.region id [⟨some S,.next (.tmp t0) false,y1,q1,f1,none⟩,⟨some T,.extract (.tmp S) 0,y2,q2,f2,none⟩].toArray false) (Code.seq (Code.cond (.tmp T) .skip (.exit ex)) y))).wpr rd P Q):=by
 have z:=bB U;have ae:O≠s:=λe=>by subst e;simp at af
 have H:M.set s (It b m l.length [])=M:=by
  apply List.ext_getElem?;intro q;by_cases eq:q=s
  .subst eq;rw[zAj z,U]
  .rw[zAq (Ne.symm eq)]
 refine Zt (X:=V6 Nat) (λk=>k.Nodup/\(∀i∈k,i<l.length)/\NC p K (rem l k)=some r) (λ_=>σ) (λk=>M.set s (It b m l.length k)) (λ_=>L) (λk=>l.length - k.length) [] ⟨List.nodup_nil,V8,by rw[afu];exact h⟩ (Ba.refl _) (by rw[H];exact aX.refl _) (λ_ h=>h) ?_;rintro k ⟨G,F,v⟩;have ac:(M.set s (It b m l.length k))[O]? = some (Mp ek ev m l):=by rw[zAq (Ne.symm ae)];exact hf
 have ad:(M.set s (It b m l.length k))[s]? = some (It b m l.length k):=zAj z;refine aK (aR (aI (aN.next O s (x:= .tmp t0) hx ac ad) ab λo=> ?_));refine agH zAe λho=>agI (M':=Xd (M.set s (It b m l.length k)) s b m l.length k o) (L':=L) ?_ (Ba.refl _) (aX.refl _) (λf hf=>zAk _ hf);cases o with
 | none =>
  refine aB (uU (vs:=[.bool false]) (by simp[IA,lk,Go.Sx.ev]) Z) E (eW (CU (aK (Gi (by simp[lk,Go.Sx.ev]) (tB (fT (fT ?_)))))));refine V k ?_;have:rem l k=[]:=by
   unfold rem;rw[List.filter_eq_nil_iff.2 (λi U=>by simpa using ho i (by simpa using U))];rfl
  rw[this]at v;exact v
 | some i =>
  obtain⟨W,Y⟩:=ho;obtain⟨t,A⟩:∃t,l[i]? = some t:=⟨_,zA0 W⟩
  have N:IA ek ev l (some i) = .tuple #[.bool true,ek t.1,ev t.2]:=by simp[IA,A]
  obtain⟨l1,l2,e1,e2⟩:=acf A Y;have B:p t (NC p K (rem l (k++[i])))=some r:=by
   rw[e2,<-OE hc K t l2 l1,<-e1];exact v
  have aa:Xd (M.set s (It b m l.length k)) s b m l.length k (some i)=M.set s (It b m l.length (k++[i])):=by simp[Xd]
  rw[N,aa];refine aB (uU (vs:=[.bool true,ek t.1,ev t.2]) (by simp[lk,Go.Sx.ev]) Z) E (eW (CU (aK (KX (by simp[lk,Go.Sx.ev]) (eP (CU ?_))))));refine Zu (C t i k _ A B) λa w hw=>Jc (λe a' w' q=> ?_) hw;cases e with
  | normal =>
   obtain⟨ai,ag,ah⟩:=q;refine⟨k++[i],⟨?_,?_,ai⟩,?_,ag,ah⟩
   .rw[List.nodup_append];exact⟨G,V8,λa ha b D=>by simp at D;subst D;rintro rfl;exact Y ha⟩
   .intro j u;rcases zBa.1 u with u|u
    .exact F j u
    .simp at u;subst u;exact W
   .have:k.length<l.length:=by
     have I:(k++[i]).length<=(List.range l.length).length:=by
      apply List.Nodup.length_le_of_subset
      .rw[List.nodup_append];exact⟨G,V8,λa ha b D=>by simp at D;subst D;rintro rfl;exact Y ha⟩
      .intro j u;rcases zBa.1 u with u|u
       .simpa using F j u
       .simp at u;subst u;simpa using W
     simp at I;omega
    simp;omega
  |exit id=>exact q
  |goto l=>exact q
  |ret=>exact q
  |panic ch=>exact q
  |outgrown=>exact q
end
end Go.Sx
end
namespace Go.Sx
open Go.RowKit
section
variable {P:Program} {rd:V1 Nat} {c:wJ} {n:Sz} {σ σ':Fr} {M L M' L':V6 aZ} {Q:Exit->Act->V2->Prop} {ops:Array V5} {rest:V6 V5} {K:Act->V2->Prop} {G:Act->V2->Prop}
variable {d:V1 Tmp} {D:Nat} {ty:V9} {pos:String} {aft:Array Edge} {g:V1 (Nat×V4)}
variable {α β:Type} {e:bI α} {r:eD α}
def FB:V0->V4
 | .slice none _ _=>true
 |_=>false
theorem NS {v:V0} {i:V6 α} (o:aG M L (Sl r v i)) (k:FB v=true->i=[]->J c n σ M L G) (l:FB v=false->J c n σ M L G):J c n σ M L G:=λa w s t=>by
 cases f:FB v with
 |false=>exact l f a w s t
 |true=>
  refine k f ?_ a w s t;obtain⟨S,u,j,p,_,h⟩:=o.st t;subst p;rcases h with h|⟨b,q,m,_⟩
  .exact h
  .subst m;cases f
theorem YN {T E:V9} {f:Ty} {w:V2} {a:V1 Addr} {l k:Nat} (j:tM P T f) (o:f.desc = .slice E):(binOp .eql T (.slice a l k) (.slice none 0 0)).run P w = .ok (.bool (FB (.slice a l k))) w:=by
 have i:=j.run_und w;have b:∀m:Nat,(Op.equalIn (m+1) T (.slice a l k) (.slice none 0 0)).run P w = .ok (FB (.slice a l k)) w:=by
  intro m;unfold Op.equalIn;rw[o]at i;cases a<;>simp[i,FB]
 have h:(Op.equal T (.slice a l k) (.slice none 0 0)).run P w = .ok (FB (.slice a l k)) w:=b 9999;simp[binOp,h]
theorem K_ [cO P] {T E:V9} {A B:Nat} {z:V0} {x:V3} {v:V0} {i:V6 α} {b:V4} {C:V9} (y:ev σ x=some v) (q:aG M L (Sl r v i)) (o:FB v=b) (m:cO.tab P T=some ⟨.slice E,A,B,z⟩):
  Y P c n σ M L ⟨d,.binOp .eql T x (.const (.slice none 0 0)) C,ty,pos,aft,g⟩ (.bool b):=λa w s t=>by
 obtain⟨S,j,f,u,_,_⟩:=q.st t;subst u;have h:=YN (w:=w) (a:=j) (l:=i.length) (k:=f) (cO.ok m) Z;have p:a.eval (.const (.slice none 0 0)) = .slice none 0 0:=rfl;rw[o]at h;simp[execOp,s.eval y,p,eqGuard,h]
def Bp (P:Program) (f:FuncId) (a:Array V0) (Min L:V6 aZ) {A:Type} (b:A->V0) (h:A->V6 aZ->V6 aZ):Prop:=
 ∀c:wJ,St c Min L c.w0->Calls P f a c.w0 λe i=>∃x:A,e = .returned (b x)/\St c (h x []) [] i
theorem Bp.of {A:Type} {b:A->V0} {q:A->V6 aZ->V6 aZ} {f:FuncId} {i:Func} {a:Code} {vs:V6 V0} {m:Nat} {Min:V6 aZ}
  (u:P.funcs[f]? = some i) (s:i.body=some a) (x:i.ntmps=m) (w:Nat.ble vs.length m=true)
  (h:∀c:wJ,J c ⟨m,[]⟩ (yZ 0 vs) Min L (a.wpr none P (iX P i (RD c b q (λ_ l=>l))))):Bp P f vs.toArray Min L b q:=λc t=>by
 have o:vs.length<=m:=by simpa using w
 refine uV u s (h c _ _ ⟨rfl,by simp[x,o],?_⟩ t);intro t v y;obtain⟨_,j⟩:=FA vs 0 t v y;rw[Nat.sub_zero]at j;have p:t<vs.length:=by
  rcases zAr t vs.length with k|k
  .exact k
  .rw[zAp k]at j;cases j
 rw[zBi (by simpa using p)];simpa using j
theorem RO {w S:V2} {l H v:V6 aZ} {F:Nat->Nat->Prop} {U:Nat->Prop} (y:DI c.O c.w0 w) (o:Own c w (l++H) F) (Y:∀f∈L,f.p w (Dk c F))
  (t:St ⟨w,U,λk=>∃i,i<l.length/\F i k⟩ v [] S):St c (v++H) L S:=by
 obtain⟨s,T,u,_⟩:=t;have C:=s.size;have x:∀k,k<w.heap.size->(∀i,i<l.length->¬F i k)->S.heap[k]? = w.heap[k]? := λk a hn=>s.block k a (fun⟨i,B,o⟩=>hn i B o);have b:∀i k,T i k->w.heap.size<=k\/∃j,j<l.length/\F j k:=λi k a=>(u.rng i k a).1;refine⟨⟨s.os.trans y.os,s.tape.trans y.tape,s.output.trans y.output,zB4 y.size C,λk a W=> ?_⟩,
  λi k=>(i<v.length/\T i k)\/(v.length<=i/\F (i - v.length+l.length) k),⟨?_,?_,?_⟩,λf hf=> ?_⟩
 .refine(x k (zAv a y.size) (λi _ I=> ?_)).trans (y.block k a W);rcases(o.rng i k I).1 with h|h
  .omega
  .exact W h
 .intro i m E;by_cases B:i<v.length
  .rw[zAc B]at E;exact aZ.same (u.res i m E) (λk a=> .inl ⟨B,a⟩) (λ_ _ _=>rfl)
  .rw[zAb V7]at E;have R:(l++H)[i - v.length+l.length]? = some m:=by
    rw[zAb V7,Nat.add_sub_cancel];exact E
   exact aZ.same (o.res _ m R) (λk a=> .inr ⟨V7,a⟩) (λk a N=>x k N (λj X J=>by have:=o.dis _ _ k J a;omega))
 .rintro i k (⟨_,a⟩|⟨_,a⟩)
  .refine⟨?_,(u.rng i k a).2⟩
   rcases b i k a with h|⟨j,_,h⟩
   .exact .inl (zB4 y.size h)
   .exact(o.rng j k h).1
  .exact⟨(o.rng _ k a).1,zAv (o.rng _ k a).2 C⟩
 .rintro i j k (⟨B,z⟩|⟨B,z⟩) (⟨X,A⟩|⟨X,A⟩)
  .exact u.dis i j k z A
  .rcases b i k z with h|⟨q,hq,h⟩
   .have:=(o.rng _ k A).2;omega
   .have:=o.dis _ _ k h A;omega
  .rcases b j k A with h|⟨q,hq,h⟩
   .have:=(o.rng _ k z).2;omega
   .have:=o.dis _ _ k h z;omega
  .have:=o.dis _ _ k z A;omega
 .refine f.mono (Y f hf) λk a N=>⟨⟨a.1,?_⟩,x k N (λi _=>a.2 i)⟩
  rintro i (⟨_,h⟩|⟨_,h⟩)
  .rcases b i k h with V|⟨q,_,V⟩
   .omega
   .exact a.2 q V
  .exact a.2 _ h
theorem St.enterM {w:V2} {a u t:V6 aZ} {F:Nat->Nat->Prop} (o:Own c w (a++u) F) (y:∀f∈L,f.p w (Dk c F)) (B:aF u L t):
  St ⟨w,λk=>∀i,i<a.length->¬F i k,λk=>∃i,i<a.length/\F i k⟩ a t w:=by
 refine⟨DI.refl _,λi k=>i<a.length/\F i k,⟨λi m s=> ?_,λi k b=>⟨.inr ⟨i,b⟩,(o.rng i k b.2).2⟩,λi j k v x=>o.dis i j k v.2 x.2⟩,λf z=> ?_⟩
 .have l:i<a.length:=by
   rcases zAr i a.length with q|q
   .exact q
   .rw[zAp q]at s;cases s
  exact aZ.same (o.res i m (by rw[zAc l];exact s)) (λk b=>⟨l,b⟩) (λ_ _ _=>rfl)
 .refine B f z w (Dk c F) (λj k=>F (j+a.length) k) _ y (λj m A=> ?_) (λk b=> ?_) (λj k b=> ?_)
  .exact o.res _ m (by rw[zAb V7,Nat.add_sub_cancel];exact A)
  .exact⟨.inl λi _=>b.2 i,λi l=>b.2 i l.2⟩
  .exact⟨.inl λi l h=>by have:=o.dis _ _ k h b;omega,λi l=>by have:=o.dis _ _ k l.2 b;omega⟩
theorem Eg {A:Type} {k:A->V0} {m:A->V6 aZ->V6 aZ} {f:FuncId} {p:V6 V3} {vs:V6 V0} {b:Array V9} {q Min Mr:V6 aZ} (z:aU P f)
  (C:Bp P f vs.toArray Min q k m) (H:p.map (ev σ)=vs.map some) (y:aX M (Min++Mr)) (v:aF Mr L q) (o:∀x l,m x l=m x []++l):
  aN P c n σ M L ⟨d,.call ⟨.value (.func f),p.toArray,b⟩,ty,pos,aft,g⟩ k (λx=>m x Mr) (λ_=>L):=λa w s t=>by
 have j:(execOp a.eval ⟨d,.call ⟨.value (.func f),p.toArray,b⟩,ty,pos,aft,g⟩).run P w = .ok (.enter f vs.toArray) w:=by
  have e:=evs s H;simp[execOp,resolve,Act.eval,Deferred.ofValue,invoke,z _ w,e]
 simp only[Oper.wp,j,Oper.upon];obtain⟨B,F,u,i⟩:=t.weak (L':=L) y (λ_ h=>h);refine(C _ (St.enterM u i v)).mono ?_;rintro e I ⟨x,rfl,E⟩;refine⟨x,rfl,?_⟩
 rw[o];exact RO B u i E
theorem Fj {A:Type} {k:A->V0} {m:A->V6 aZ->V6 aZ} {f:FuncId} {t:Tmp} {q:V6 V3} {vs cs:V6 V0} {b:Array V9} {u Min Mr:V6 aZ} (C:aU P f)
  (p:lk σ t=some (.func (.func f) #[] cs.toArray)) (H:Bp P f (vs++cs).toArray Min u k m) (I:q.map (ev σ)=vs.map some) (B:aX M (Min++Mr)) (z:aF Mr L u) (o:∀x l,m x l=m x []++l):
  aN P c n σ M L ⟨d,.call ⟨.value (.tmp t),q.toArray,b⟩,ty,pos,aft,g⟩ k (λx=>m x Mr) (λ_=>L):=λa w s J=>by
 have j:(execOp a.eval ⟨d,.call ⟨.value (.tmp t),q.toArray,b⟩,ty,pos,aft,g⟩).run P w = .ok (.enter f (vs++cs).toArray) w:=by
  have e:=evs s I;have y:a.eval (.tmp t) = .func (.func f) #[] cs.toArray:=s.eval (x:= .tmp t) p;simp[execOp,resolve,y,Deferred.ofValue,invoke,C _ w,e]
 simp only[Oper.wp,j,Oper.upon];obtain⟨E,F,v,i⟩:=J.weak (L':=L) B (λ_ h=>h);refine(H _ (St.enterM v i z)).mono ?_;rintro e N ⟨x,rfl,p⟩;refine⟨x,rfl,?_⟩
 rw[o];exact RO E v i p
def ZD {A B:Type} (c:wJ) (C:A->Prop) (a:A->B->V0) (f b:A->B->V6 aZ) (e:Ending) (w:V2):Prop:=∃x y,C x/\e = .returned (a x y)/\St c (f x y) (b x y) w
theorem Mt {j:Func} {a:V6 V0} {m:Nat} (l:j.ntmps=m) (k:Nat.ble a.length m=true):Hv ⟨m,[]⟩ (yZ 0 a) {tmps:=a.toArray++Array.replicate (j.ntmps - a.toArray.size) undef,defers:=[]}:=by
 have h:a.length<=m:=by simpa using k
 refine⟨rfl,by simp[l,h],?_⟩
 intro t v o;obtain⟨_,b⟩:=FA a 0 t v o;rw[Nat.sub_zero]at b;have i:t<a.length:=by
  rcases zAr t a.length with f|f
  .exact f
  .rw[zAp f]at b;cases b
 rw[zBi (by simpa using i)];simpa using b
structure nY (P:Program) (c:wJ) (n:Sz) (σ:Fr) (M L:List aZ) (o:Oper) (f:FuncId) (vs:List V0):Prop where
 run:∀a w,Hv n σ a->St c M L w->(execOp a.eval o).run P w = .ok (.enter f vs.toArray) w
theorem nY.fn {f:FuncId} {xs:V6 V3} {vs:V6 V0} {b:Array V9} (h:aU P f) (i:xs.map (ev σ)=vs.map some):nY P c n σ M L ⟨d,.call ⟨.value (.func f),xs.toArray,b⟩,ty,pos,aft,g⟩ f vs:=⟨λa w s _=>by
 have e:=evs s i;simp[execOp,resolve,Act.eval,Deferred.ofValue,invoke,h _ w,e]⟩
theorem NQ {f:FuncId} {t:Tmp} {h:V6 V3} {us cs vs:V6 V0} {b:Array V9} (j:aU P f) (k:lk σ t=some (.func (.func f) #[] cs.toArray)) (m:h.map (ev σ)=us.map some) (l:us++cs=vs):nY P c n σ M L ⟨d,.call ⟨.value (.tmp t),h.toArray,b⟩,ty,pos,aft,g⟩ f vs:=⟨λa w s _=>by
 have e:=evs s m;have i:a.eval (.tmp t) = .func (.func f) #[] cs.toArray:=s.eval (x:= .tmp t) k;subst l;simp[execOp,resolve,i,Deferred.ofValue,invoke,j _ w,e]⟩
def CO (P:Program) (c:wJ) (n:Sz) (σ:Fr) (M L:V6 aZ) (b:Func) (v:V0):Prop:=∀a w,Hv n σ a->St c M L w->(results b a.tmps).run P w = .ok v w
variable {fn:Func}
theorem CO.r0 (b:fn.results = #[]):CO P c n σ M L fn (.tuple #[]):=λa w _ _=>by simp[results,b]
theorem CO.r1 {f:ResultVar} {h:V0} (b:fn.results = #[f]) (i:RV P c n σ M L f h):CO P c n σ M L fn h:=λa w s t=>by
 have:=i a w s t;simp only[Cs,b];simp[this]
theorem CO.r2 {i j:ResultVar} {k l:V0} (b:fn.results = #[i,j]) (f:RV P c n σ M L i k) (h:RV P c n σ M L j l):CO P c n σ M L fn (.tuple #[k,l]):=λa w s t=>by
 have f:=f a w s t;have h:=h a w s t;simp only[Cs,b];simp[f,h]
theorem jN {A B:Type} {m:Sz} {v:V0} {f:Exit} {C:A->Prop} {b:A->B->V0} {k j:A->B->V6 aZ} (x:A) (y:B) (l:C x) (i:f = .ret\/f = .normal) (q:CO P c m σ' M L fn v) (u:v=b x y) (p:aX M (k x y)) (o:aF [] L (j x y)) (h:m.ds=[]:=by rfl):
  J c m σ' M L (iX P fn (ZD c C b k j) f):=λa w s t=>by
 exact body_end i (s.defers.trans h) (q a w s t) ⟨x,y,l,by rw[u],t.weakE p o⟩
end
section
variable {P:Program} {rd:V1 Nat} {c:wJ} {n:Sz} {σ σ':Fr} {M L M' L':V6 aZ} {Q:Exit->Act->V2->Prop} {ops:Array V5} {rest:V6 V5} {K:Act->V2->Prop} {G:Act->V2->Prop}
variable {d:V1 Tmp} {D:Nat} {ty:V9} {pos:String} {aft:Array Edge} {g:V1 (Nat×V4)}
variable {α β:Type} {e:bI α} {r:eD α}
def Im (v:V0) (m:Nat):Prop:=match v with
 | .slice _ _ cap=>m<=cap
 |_=>False
theorem Know.cap (q:Nat) {v:V0} {xs:V6 α} (f:M[q]? = some (Ar e v xs)):∀c w,St c M L w->Im v xs.length:=λc w t=>by
 obtain⟨F,_,_,h⟩:=t.res f;rcases h with⟨rfl,rfl⟩|⟨b,i,cap,T,a,rfl,_,_,h,_⟩
 .exact zAg _
 .exact h
theorem Im.slq {v:V0} {m k q:Nat} (h:Im v m):Im (slq v 0 k q) m:=by
 cases v<;>simp_all [Im,Go.Sx.slq]
theorem Ng {b f a l k q:Nat}:slq (.slice (some ⟨b,f,none⟩) l a) 0 k q = .slice (some ⟨b,f,none⟩) k a:=by
 simp[slq,eM]
theorem ZR [cO P] {T E:V9} {R U u V:Nat} {z W:V0} {A:TypeDesc} {x p o q:V3} {v:V0} {i k m:Int} {y:V6 α} (O:ev σ x=some v) (j:ev σ p=some (.int .i64 i)) (f:ev σ o=some (.int .i64 k)) (l:ev σ q=some (.int .i64 m)) (J:aG M L (Sl r v y))
  (I:cO.tab P T=some ⟨.slice E,R,U,z⟩) (H:cO.tab P E=some ⟨A,u,V,W⟩) (h:0<=i/\i<=k/\k<=m/\m<=y.length):Y P c n σ M L ⟨d,.slice T x (some p) (some o) (some q),ty,pos,aft,g⟩
   (match v with|.slice a _ _=> .slice (if m.toNat=i.toNat then a else a.map (·.add (i.toNat*u))) (k.toNat - i.toNat) (m.toNat - i.toNat)|v=>v):=λa w s t=>by
 obtain⟨S,X,b,N,hb,_⟩:=J.st t;subst N;have B:0<=m/\m<=(b:Int):=V7
 have C:0<=k/\k<=((m.toNat:Nat):Int):=V7
 have F:0<=i/\i<=((k.toNat:Nat):Int):=V7
 simp[execOp,s.eval O,s.eval j,s.eval f,s.eval l,Instr.sliceAt,Instr.slice,(cO.ok I).run_und w,Instr.sliceBounds,Instr.sliceBound,asIntOf,(cO.ok H).run_size w,B,C,F];rw[Q3,Q3]
theorem Sb [cO P] (q:Nat) {T E:V9} {V W A X:Nat} {z z':V0} {C:TypeDesc} {x y u:V3} {v:V0} {i k:Int} {xs:V6 α} (S:ev σ x=some v) (o:ev σ y=some (.int .i64 i)) (m:ev σ u=some (.int .i64 k)) (O:M[q]? = some (Ar e v xs))
  (N:cO.tab P T=some ⟨.slice E,V,W,z⟩) (J:cO.tab P E=some ⟨C,A,X,z'⟩) (j:Im v k.toNat) (h:0<=i/\i<=k):Y P c n σ M L ⟨d,.slice T x (some y) (some u) none,ty,pos,aft,g⟩ (slq v i.toNat k.toNat A):=λa w s t=>by
 obtain⟨F,_,_,R⟩:=t.res O;obtain⟨p,l,f,rfl⟩:∃p l f,v = .slice p l f:=by
  rcases R with⟨rfl,_⟩|⟨b,U,f,T',B,rfl,_⟩
  .exact⟨_,_,_,rfl⟩
  .exact⟨_,_,_,rfl⟩
 have hc:k.toNat<=f:=j;have H:0<=k/\k<=(f:Int):=V7
 have I:0<=i/\i<=((k.toNat:Nat):Int):=V7
 simp[execOp,s.eval S,s.eval o,s.eval m,Instr.sliceAt,Instr.slice,(cO.ok N).run_und w,Instr.sliceBounds,Instr.sliceBound,asIntOf,(cO.ok J).run_size w,slq,H,I];omega
theorem NN {a:Array V0} {k:Nat} {u:V0} (f:0<a.size) (h:u∈(Builtin.zeroCells a k).toList):u∈a.toList:=by
 unfold Builtin.zeroCells at h;simp only[Array.toList_map,zAs]at h;obtain⟨i,_,rfl⟩:=h;have b:i%a.size<a.size:=Nat.mod_lt _ f;rw[getElem!_pos a (i%a.size) b];simp
theorem YU (a:V6 V0) (b k o:Nat) (f:V6 V0) (i:b+k<=o) (h:o+f.length<=a.length):
  ((a.take o++f++a.drop (o+f.length)).drop b).take k=(a.drop b).take k:=by
 rw[zB6,List.drop_append_of_le_length Q1,List.drop_take,List.take_append_of_le_length Q1,List.take_take,Nat.min_eq_left V7]
theorem Rm [cO P] (q:Nat) {x:V3} {v:V0} {f:V6 α} {k m:Nat} {T E:V9} {s1 s2 S s4:Nat} {z p:V0} {dE:TypeDesc} (hx:ev σ x=some (slq v k m S)) (R:M[q]? = some (Ar e v f)) (F:k=f.length) (y:Im v m) (af:k<=m)
  (hT:cO.tab P T=some ⟨.slice E,s1,s2,z⟩) (hE:cO.tab P E=some ⟨dE,S,s4,p⟩) (h3:e.sz=S) (hz:p.cells.size=S) (ad:p.cells.toList.all one=true) (h:J c n σ M L (wpList P ops Q rest)):
  J c n σ M L (wpList P ops Q (⟨none,.call ⟨.builtin .clear,#[x],#[T]⟩,ty,pos,aft,none⟩::rest)):=λa w s t=>by
 subst h3 F;refine mQ Z ?_;have t0:=t;obtain⟨ho,FF,hO,V⟩:=t0;have hA:=hO.res q _ R;obtain⟨h0,H,hh⟩:=hA;have O:=(cO.ok hT).run_und w;rcases hh with⟨rfl,rfl⟩|⟨b,i,j,U,o,rfl,B,C,F,hc,ht⟩
 .have hm:m=0:=by have:m<=0:=y;omega
  subst hm;have l:(execOp a.eval ⟨none,.call ⟨.builtin .clear,#[x],#[T]⟩,ty,pos,aft,none⟩).run P w = .ok (.value (.tuple #[])) w:=by
   simp[execOp,resolve,invoke,s.eval hx,builtin,Builtin.clear_,O,slq]
  simp only[Oper.wp,l,Oper.upon];exact h _ w s t
 .have X:m<=j:=y;by_cases he:m=f.length
  .have l:(execOp a.eval ⟨none,.call ⟨.builtin .clear,#[x],#[T]⟩,ty,pos,aft,none⟩).run P w = .ok (.value (.tuple #[])) w:=by
    subst he;by_cases W:j=f.length<;>simp[execOp,resolve,invoke,s.eval hx,builtin,Builtin.clear_,O,slq,W]
   simp only[Oper.wp,l,Oper.upon];exact h _ w s t
  .have ag:f.length<m:=V7
   have ab:j≠f.length:=V7
   obtain⟨k,aa⟩:∃k,m - f.length=k+1:=⟨m - f.length - 1,V7⟩
   have hv:slq (.slice (some ⟨b,i,none⟩) f.length j) f.length m e.sz = .slice (some ⟨b,i+f.length*e.sz,none⟩) (k+1) (j - f.length):=by
    simp[slq,ab,eM,aa]
   have ah:(Builtin.zeroCells p.cells (k+1)).toList.length=(k+1)*e.sz:=by
    have:=size_zeroCells p.cells (k+1);rw[hz]at this;simpa using this
   have A:i+f.length*e.sz+0+(Builtin.zeroCells p.cells (k+1)).toList.length<=o.size:=by
    have h1:(f.length+(k+1))*e.sz<=j*e.sz:=zB0 _ V7;have h2:(f.length+(k+1))*e.sz=f.length*e.sz+(k+1)*e.sz:=zB3 _ _ _;omega
   have ac:∀u∈(Builtin.zeroCells p.cells (k+1)).toList,u.oneCell'=true:=λu O=>by
    refine nR (zA7.1 ad u ?_);exact NN (by rw[hz];exact e.pos) O
   have N:=run_storeCells_at P b (i+f.length*e.sz) U _ 0 o w C A ac;simp only[Nat.add_zero]at N;have ae:=(cO.ok hE).run_zero w;have l:(execOp a.eval ⟨none,.call ⟨.builtin .clear,#[x],#[T]⟩,ty,pos,aft,none⟩).run P w = .ok (.value (.tuple #[])) (w.setRow b (o.toList.take (i+f.length*e.sz)++(Builtin.zeroCells p.cells (k+1)).toList++o.toList.drop (i+f.length*e.sz+(Builtin.zeroCells p.cells (k+1)).toList.length)).toArray):=by
    simp[execOp,resolve,invoke,s.eval hx,hv,builtin,Builtin.clear_,O,ae,N]
   simp only[Oper.wp,l,Oper.upon];refine h _ _ s ?_;have I:M.set q (Ar e (.slice (some ⟨b,i,none⟩) f.length j) f)=M:=by
    have hq:q<M.length:=(List.getElem?_eq_some_iff.1 R).1;have:=(List.getElem?_eq_some_iff.1 R).2
    conv=>rhs;rw[<-List.set_getElem_self hq]
    rw[this]
   rw[<-I];refine Gp ho hO V R Z Z Z V8 (λk _ Y=>setRow_other w b k _ (λe=>Y (by subst e;exact B))) (F':=FF q) ?_ (λk F=> .inl F);refine⟨h0,H,.inr ⟨b,i,j,U,_,rfl,B,setRow_heap w b _ _ U _ C,F,?_,?_⟩⟩
   .simp only[List.size_toArray,zA5,List.length_take,List.length_drop];have:o.size=o.toList.length:=V8
    omega
   .have:=YU o.toList i (f.length*e.sz) (i+f.length*e.sz) (Builtin.zeroCells p.cells (k+1)).toList (zAg _) (by simpa using A);rw[<-ht];exact this
theorem Fq (i:Nat) {k:Int} {vs:V6 V0} {xss:V6 (V6 α)} (C:M[i]? = some (fE e vs xss)) (h:0<=k/\k<xss.length):
  eT M L (Ar e (at' vs k) (at' xss k)::M.set i (fE e (vs.set k.toNat (.slice none 0 0)) (xss.set k.toNat []))) L:=λc w t=>by
 obtain⟨W,F,p,V⟩:=t;obtain⟨z,G,T,s,N⟩:=p.res i _ C;have O:k.toNat<vs.length:=V7
 have R:i<M.length:=(List.getElem?_eq_some_iff.1 C).1;have A:=T k.toNat _ _ (cG h.1 V7) (cG h.1 h.2);refine⟨W,λj q=>match j with|0=>G k.toNat q|j+1=>(j=i/\∃j',j'≠k.toNat/\G j' q)\/(j≠i/\F j q),⟨?_,?_,?_⟩,λf C=> ?_⟩
 .intro j m x;cases j with
  |zero=>simp at x;subst x;exact A
  | succ j =>
   rw[List.getElem?_cons_succ]at x;by_cases J:j=i
   .subst J;rw[zAj R]at x;cases x;refine⟨by simp[z],λj' q=>j'≠k.toNat/\G j' q,λj' v U E H=> ?_,λj' q a=> .inl ⟨rfl,j',a⟩,λS B q b l=>N _ _ q b.2 l.2⟩
    by_cases u:j'=k.toNat
    .subst u;rw[zAj O]at E;rw[zAj V7]at H;cases E;cases H;exact⟨V8,rfl,.inl ⟨rfl,rfl⟩⟩
    .rw[zAq (Ne.symm u)]at E H;exact aZ.same (f:=Ar e v U) (T j' v U E H) (λq a=>⟨u,a⟩) (λ_ _ _=>rfl)
   .rw[zAq (Ne.symm J)]at x;exact aZ.same (p.res j m x) (λq a=> .inr ⟨J,a⟩) (λ_ _ _=>rfl)
 .intro j q a;cases j with
  |zero=>exact p.rng i q (s _ q a)
  |succ j=>
   rcases a with⟨_,j',_,a⟩|⟨_,a⟩
   .exact p.rng i q (s _ q a)
   .exact p.rng j q a
 .intro S B q b l;cases S with
  | zero =>
   cases B with
   |zero=>rfl
   |succ B=>
    rcases l with⟨_,j',o,l⟩|⟨o,l⟩
    .exact absurd (N _ _ q l b) o
    .exact absurd (p.dis _ _ q l (s _ q b)) o
  | succ S =>
   cases B with
   |zero=>
    rcases b with⟨_,j',o,b⟩|⟨o,b⟩
    .exact absurd (N _ _ q b l) o
    .exact absurd (p.dis _ _ q b (s _ q l)) o
   |succ B=>
    congr 1;rcases b with⟨I,j',_,b⟩|⟨I,b⟩<;>rcases l with⟨u,X,_,l⟩|⟨u,l⟩
    .rw[I,u]
    .exact absurd (p.dis _ _ q l (s _ q b)) u
    .exact absurd (p.dis _ _ q b (s _ q l)) I
    .exact p.dis _ _ q b l
 .refine aZ.same (V f C) (λq a=>⟨a.1,λj y=> ?_⟩) (λ_ _ _=>rfl);cases j with
  |zero=>exact a.2 i (s _ q y)
  |succ j=>
   rcases y with⟨_,j',_,y⟩|⟨_,y⟩
   .exact a.2 i (s _ q y)
   .exact a.2 j y
theorem Fp (i j:Nat) {u:V0} {k:Int} {vs:V6 V0} {xss:V6 (V6 α)} {ys:V6 α} (a:Nat.beq i j=false) (b:M[i]? = some (fE e (vs.set k.toNat (.slice none 0 0)) (xss.set k.toNat []))) (f:M[j]? = some (Ar e u ys)) (h:0<=k/\k<(xss.set k.toNat []).length):
  eT M L ((M.set i (fE e (vs.set k.toNat u) (xss.set k.toNat ys))).eraseIdx j) L:=by
 have:=Aw (L:=L) i j a b f h;rwa[List.set_set,List.set_set]at this
theorem Ob {α:Type} [Inhabited α] (l:V6 α) {j k:Int} (y:α) (h:j.toNat≠k.toNat):at' (l.set j.toNat y) k=at' l k:=by
 rw[at',at',zAa,zAa,zAq h]
theorem KF [cO P] (i:Nat) {r:eD α} (f:e.Fits r) {x y:V3} {u o:V0} {k j:Int} {vs:V6 V0} {a:V6 (V6 α)} {l b:V6 α} {T E:V9} {S U m s:Nat} {z t:V0} {v:TypeDesc} (N:ev σ x=some (at' vs k)) (O:ev σ y=some u) (H:M[i]? = some (fE e (vs.set j.toNat o) (a.set j.toNat b))) (I:aG M L (Sl r u l))
  (F:cO.tab P T=some ⟨.slice E,S,U,z⟩) (C:cO.tab P E=some ⟨v,m,s,t⟩) (A:e.sz=m) (B:Nat.ble s 1024=true) (w:0<=k/\k<a.length) (J:((at' a k).length:Int)+l.length<=1099511627) (R:t.cells.size=m) (h:j.toNat≠k.toNat):
  aN P c n σ M L ⟨d,.call ⟨.builtin .append,#[x,y],#[T,T]⟩,ty,pos,aft,g⟩ (λp:V0=>p) (λp=>M.set i (fE e ((vs.set j.toNat o).set k.toNat p) ((a.set j.toNat b).set k.toNat (at' a k++l)))) (λ_=>L):=by
 have q:at' (a.set j.toNat b) k=at' a k:=Ob _ _ h;have:=pA (P:=P) (c:=c) (n:=n) (σ:=σ) (M:=M) (L:=L) (d:=d) (ty:=ty) (pos:=pos) (aft:=aft) (g:=g) (x:=x) (y:=y) (u:=u) (k:=k) (vs:=vs.set j.toNat o) (xss:=a.set j.toNat b) (ys:=l) i f (by rw[Ob _ _ h];exact N) O H I F C A B (by simpa using w) (by rw[q];exact J) R;rwa[q]at this
theorem Pn (q:Nat) {vs:V6 V0} {a:V6 (V6 α)} {k j:Int} {u z:V0} (x:M[q]? = some (fE e ((vs.set k.toNat u).set j.toNat z) a)) (i:k.toNat≠j.toNat) (h:0<=k/\k<a.length):∀c w,St c M L w->Go.Sx.one u=true:=λc w t=>by
 obtain⟨S,v,A,p,_⟩:=t.res x;have f:k.toNat<vs.length:=by simp at v;omega
 obtain⟨_,_,s⟩:=p k.toNat u _ (by rw[zAq (Ne.symm i),zAj f]) (zA0 V7);rcases s with⟨l,_⟩|⟨b,y,m,T,o,l,_⟩<;>(rw[l];rfl)
theorem CS {A:Type} {b:A->V0} {M' L':A->V6 aZ} {f:Op} (j:aN P c n σ M L ⟨none,f,ty,pos,aft,none⟩ b M' L') (h:∀x,J c n σ (M' x) (L' x) (wpList P ops Q rest)):
  J c n σ M L (wpList P ops Q (⟨none,f,ty,pos,aft,none⟩::rest)):=λa w s t=>
 mQ Z (MP (pW (λm l ⟨x,i,k⟩=>by subst i;exact h x _ l s k) (j a w s t)))
end
section
variable {P:Program} {rd:V1 Nat} {c:wJ} {n:Sz} {σ σ':Fr} {M L M' L':V6 aZ} {Q:Exit->Act->V2->Prop} {ops:Array V5} {rest:V6 V5} {K:Act->V2->Prop} {G:Act->V2->Prop}
variable {d:V1 Tmp} {D:Nat} {ty:V9} {pos:String} {aft:Array Edge} {g:V1 (Nat×V4)}
variable {α β:Type} {e:bI α} {r:eD α}
theorem Ry [cO P] (j:Nat) {T:V9} {s2:Nat} {z:V0} {dT:TypeDesc} {x y:V3} {v u:V0} {i:Int} {m:V6 α} (yv:α) (hx:ev σ x=some (Er v (i.toNat*1))) (hy:ev σ y=some u) (hu:e.enc yv=[u]) (B:one u=true)
  (X:M[j]? = some (Ar e v m)) (hT:cO.tab P T=some ⟨dT,1,s2,z⟩) (N:e.sz=1) (h0:0<=i) (W:i<m.length):
  aN P c n σ M L ⟨none,.store T x y,ty,pos,aft,none⟩ (λ_:Unit=>undef) (λ_=>M.set j (Ar e v (m.set i.toNat yv))) (λ_=>L):=λa w s t=>by
 obtain⟨F,J⟩:=t.res X;have Y:i.toNat<m.length:=V7
 have E:m[i.toNat]? = some m[i.toNat]:=zA0 Y;have H:m≠[]:=by intro e;subst e;simp at Y
 obtain⟨p,hp⟩:∃p,e.enc m[i.toNat]=[p]:=List.length_eq_one_iff.1 ((e.len _).trans N);have f:=Bo.cell J E (j:=0) (u:=p) (by rw[hp];rfl);rw[N,Nat.add_zero,Nat.mul_one]at f;rw[Nat.mul_one]at hx;have o:=Re J H i.toNat;have I:(execOp a.eval ⟨none,.store T x y,ty,pos,aft,none⟩).run P w = .ok .skip (w.setCell (KH v i.toNat) u):=by
  simp only[execOp,s.eval hx,s.eval hy,Er];simp[EE (cO.ok hT) Z B f o]
 simp only[Oper.wp,I,Oper.upon];refine⟨(),trivial,t.upd X Z Z Z (by simp[World.setCell]) λF J _=> ?_⟩
 obtain⟨hl,W,S⟩:=J;rcases S with⟨_,S⟩|⟨b,l,A,T',O,hv,C,hb,hk,hc,ht⟩
 .exact absurd S H
 .subst hv;have ha:KH (.slice (some ⟨b,l,none⟩) m.length A) i.toNat=⟨b,l+i.toNat,none⟩:=by simp[KH,eM]
  rw[ha];refine⟨λk _ U=>Below.heap_setCell _ _ _ _ (λe=>U (by simp only at e;subst e;exact C)),F,⟨by simpa using hl,?_,.inr ⟨b,l,A,T',O.setIfInBounds (l+i.toNat) u,V8,C,?_,by simpa using hk,by simpa using hc,?_⟩⟩,λ_ h=> .inl h⟩
  .rw[yW N hu,zA7];intro q V;rcases List.mem_or_eq_of_mem_set V with R|R
   .exact zA7.1 W q R
   .rw[R];exact B
  .simp[World.setCell,Array.getElem?_modify,hb]
  .rw[yW N hu,<-ht,Array.toList_setIfInBounds,zA2,<-take_set];congr 1;rw[List.drop_set,Q0,Nat.add_sub_cancel_left]
theorem Rx [cO P] (i:Nat) {T j:V9} {C:Nat} {z:V0} {m:TypeDesc} {x y:V3} {b o:Nat} {cs:V6 V0} {v:V0} (A:ev σ x=some (.pointer (some ⟨b,o,none⟩)))
  (B:ev σ y=some v) (u:one v=true) (l:M[i]? = some (bH b cs j)) (p:cO.tab P T=some ⟨m,1,C,z⟩) (q:Nat.blt o cs.length=true):
  aN P c n σ M L ⟨none,.store T x y,ty,pos,aft,none⟩ (λ_:Unit=>undef) (λ_=>M.set i (bH b (cs.set o v) j)) (λ_=>L):=λa w s t=>by
 obtain⟨F,k⟩:=t.res l;have h:o<cs.length:=by simpa [zAy]using q
 have f:(execOp a.eval ⟨none,.store T x y,ty,pos,aft,none⟩).run P w = .ok .skip (w.setCell ⟨b,o,none⟩ v):=by
  simp[execOp,s.eval A,s.eval B,EE (cO.ok p) Z u (bH.cell k (zA0 h)) (Rf k o)]
 simp only[Oper.wp,f,Oper.upon];exact⟨(),trivial,t.store l v⟩
theorem AH [cO P] (i:Nat) {T k:V9} {J:Nat} {z:V0} {u:TypeDesc} {x y:V3} {b:Nat} {cs vs:V6 V0} (H:ev σ x=some (.pointer (some ⟨b,0,none⟩)))
  (I:ev σ y=some (.agg vs.toArray)) (E:vs.all one=true) (q:M[i]? = some (bH b cs k)) (B:cO.tab P T=some ⟨u,vs.length,J,z⟩) (C:Nat.beq vs.length cs.length=true):
  aN P c n σ M L ⟨none,.store T x y,ty,pos,aft,none⟩ (λ_:Unit=>undef) (λ_=>M.set i (bH b vs k)) (λ_=>L):=λa w s t=>by
 obtain⟨F,A⟩:=t.res q;have f:vs.length=cs.length:=zA6 C;have h:∀v∈vs,v.oneCell'=true:=λv p=>nR (by simpa using zA7.1 E v p);obtain⟨N,l,o,_,_⟩:=(cO.ok B).info;have m:=run_storeVar_row (P:=P) w b k T cs.toArray vs.toArray A.2 (by simp[l,o]) (by simp[f]) (by simpa using h);have j:(execOp a.eval ⟨none,.store T x y,ty,pos,aft,none⟩).run P w = .ok .skip (w.setRow b vs.toArray):=by
  simp[execOp,s.eval H,s.eval I,Instr.storeAt,Instr.sureAddr,m]
 simp only[Oper.wp,j,Oper.upon];exact⟨(),trivial,t.fill q⟩
theorem Ny [cO P] (j q:Nat) {T:V9} {E:Nat} {z:V0} {m:TypeDesc} {x y:V3} {v u:V0} {i:Int} {vs b:V6 V0} {f:V6 (V6 α)} (h:0<=i/\i<f.length) (B:ev σ x=some (Er v (i.toNat*1))) (C:ev σ y=some u)
  (p:M[j]? = some (Ar bI.raw v vs)) (A:M[q]? = some (fE e b f)) (F:b.length=vs.length) (k:one u=true) (o:cO.tab P T=some ⟨m,1,E,z⟩):
  aN P c n σ M L ⟨none,.store T x y,ty,pos,aft,none⟩ (λ_:Unit=>undef) (λ_=>M.set j (Ar bI.raw v (vs.set i.toNat u))) (λ_=>L):=λa w s t=>by
 have l:b.length=f.length:=by obtain⟨_,h⟩:=t.res A;exact h.1
 exact Ry j u B C Z k p o Z h.1 V7 a w s t
section
variable {l:V6 V5} {m:V6 Nat} {k0:Nat} {H Bs:V6 (Nat×V6 aZ×V6 aZ)} {rs:V6 Nat}
theorem Ce {A:Type} {j:A->V0} {M' L':A->V6 aZ} {i:Nat} {b:Op}
  (o:l[i]? = some ⟨none,b,ty,pos,aft,none⟩) (v:Nat.blt i k0=true) (y:fI b=true) (z:aN P c n σ M L ⟨none,b,ty,pos,aft,none⟩ j M' L')
  (q:∀x,uT (before m i) (M' x) (L' x) Bs) (h:∀x,JR c n σ (M' x) (L' x) ((i,M,L)::H) Bs (RW P l.toArray Q (before m) (eG l) k0 rs)):
  JR c n σ M L H Bs (RW P l.toArray Q (before m) (eG l) k0 (i::rs)):=λa w X Y s t u k=>by
 have f:l.toArray[i]? = some ⟨none,b,ty,pos,aft,none⟩:=by simpa using o
 simp only[RW,f];rw[if_pos (by simp[Region.wanted])];refine .inr (.inr ⟨by simpa [zAy]using v,by simp[eG,o,y],pW ?_ (z a w s t)⟩);rintro C B ⟨x,rfl,p⟩;exact⟨(q x).use p k,h x _ B _ Y s p ⟨rfl,t,u⟩ k⟩
end
theorem Jn {A B:Type} {f:FuncId} {j:Func} {b:Code} {k:V6 V0} {m:Nat} {q:Op} (C:A->Prop) (i:A->B->V0) (o l:A->B->V6 aZ) (E:nY P c n σ M L ⟨d,q,ty,pos,aft,g⟩ f k) (F:P.funcs[f]? = some j) (z:j.body=some b) (I:j.ntmps=m) (H:Nat.ble k.length m=true)
  (u:J c ⟨m,[]⟩ (yZ 0 k) M L (b.wpr none P (iX P j (ZD c C i o l)))):
  aN P c n σ M L ⟨d,q,ty,pos,aft,g⟩ (λx:{p:A×B // C p.1}=>i x.1.1 x.1.2) (λx=>o x.1.1 x.1.2) (λx=>l x.1.1 x.1.2):=λa w s t=>by
 have h:=E.run a w s t;simp only[Oper.wp,h,Oper.upon];refine(uV F z (u _ w (Mt I H) t)).mono ?_;rintro e O ⟨x,y,v,rfl,N⟩;exact⟨⟨(x,y),v⟩,rfl,N⟩
theorem vY {A B:Type} {f:FuncId} {j:Func} {h:Code} {vs:V6 V0} {m:Nat} {o:Op} (C:A->Prop) (i:A->B->V0) (l k:A->B->V6 aZ) (v:nY P c n σ M L ⟨some D,o,ty,pos,aft,none⟩ f vs) (w:P.funcs[f]? = some j) (u:j.body=some h) (y:j.ntmps=m) (x:Nat.ble vs.length m=true) (t:Nat.blt D n.sz=true)
  (p:J c ⟨m,[]⟩ (yZ 0 vs) M L (h.wpr none P (iX P j (ZD c C i l k)))) (q:∀a b,C a->J c n ((D,i a b)::σ) (l a b) (k a b) (wpList P ops Q rest)):J c n σ M L (wpList P ops Q (⟨some D,o,ty,pos,aft,none⟩::rest)):=
 aI (Jn C i l k v w u y x p) t fun⟨⟨a,b⟩,s⟩=>q a b s
theorem adv {A B:Type} {f:FuncId} {k:Func} {h:Code} {vs:V6 V0} {m:Nat} {q:Op} {j:Nat} {p:V4} (C:A->Prop) (i:A->B->V0) (o l:A->B->V6 aZ) (z:gv ops σ j=some p) (x:nY P c n σ M L ⟨some D,q,ty,pos,aft,some (j,p)⟩ f vs) (y:P.funcs[f]? = some k) (w:k.body=some h) (F:k.ntmps=m) (E:Nat.ble vs.length m=true) (v:Nat.blt D n.sz=true)
  (s:J c ⟨m,[]⟩ (yZ 0 vs) M L (h.wpr none P (iX P k (ZD c C i o l)))) (t:∀a b,C a->J c n ((D,i a b)::σ) (o a b) (l a b) (wpList P ops Q rest)):J c n σ M L (wpList P ops Q (⟨some D,q,ty,pos,aft,some (j,p)⟩::rest)):=
 BI z (Jn C i o l x y w F E s) v fun⟨⟨a,b⟩,u⟩=>t a b u
section
variable {l:V6 V5} {mm:V6 Nat} {k0:Nat} {H Bs:V6 (Nat×V6 aZ×V6 aZ)} {rs:V6 Nat}
theorem Gk {A B:Type} {i:Nat} {f:FuncId} {p:Func} {h:Code} {vs:V6 V0} {m:Nat} {q:Op} (C:A->Prop) (j:A->B->V0) (o k:A->B->V6 aZ) (E:l[i]? = some ⟨some D,q,ty,pos,aft,none⟩) (F:Nat.blt i k0=true) (I:fI q=true) (y:nY P c n σ M L ⟨some D,q,ty,pos,aft,none⟩ f vs) (z:P.funcs[f]? = some p) (x:p.body=some h) (O:p.ntmps=m) (N:Nat.ble vs.length m=true) (w:Nat.blt D n.sz=true)
  (u:∀a b,uT (before mm i) (o a b) (k a b) Bs) (s:J c ⟨m,[]⟩ (yZ 0 vs) M L (h.wpr none P (iX P p (ZD c C j o k)))) (t:∀a b,C a->JR c n ((D,j a b)::σ) (o a b) (k a b) ((i,M,L)::H) Bs (RW P l.toArray Q (before mm) (eG l) k0 rs)):
  JR c n σ M L H Bs (RW P l.toArray Q (before mm) (eG l) k0 (i::rs)):=
 zBl E F I (Jn C j o k y z x O N s) w (λ_=>u _ _) fun⟨⟨a,b⟩,v⟩=>t a b v
end
theorem Gq [cO P] {T E:V9} {k q u b A:Nat} {z B:V0} {f:TypeDesc} {x y:V3} {v:V0} {o:Nat} {i:Int} (m:ev σ x=some (Er v o)) (p:ev σ y=some (.int .i64 i))
  (l:cO.tab P T=some ⟨.array k E,q,u,z⟩) (j:cO.tab P E=some ⟨f,b,A,B⟩) (_h3:(b==0)=false) (h:0<=i/\i<(k:Int)):
  Y P c n σ M L ⟨d,.indexAddr T x y,ty,pos,aft,g⟩ (Er v (o+i.toNat*b)):=λa w s t=>by
 simp[execOp,s.eval m,s.eval p,Instr.indexAt,asIntOf,(cO.ok l).run_und w,h,Instr.sureAddr,Er,(cO.ok j).run_size w,Lg]
theorem bL {x:V3} {b o:Nat} (f:ev σ x=some (.pointer (some ⟨b,o,none⟩))):Y P c n σ M L ⟨d,.nilCheck x,ty,pos,aft,g⟩ (.pointer (some ⟨b,o,none⟩)):=λa w s t=>by
 simp[execOp,s.eval f]
theorem yH [cO P] [Inhabited α] (j:Nat) {T:V9} {s2 k o q:Nat} {z:V0} {dT:TypeDesc} {x y:V3} {v u:V0} {us:V6 V0} {i:Int} {p:V6 α} (J:α) (h:0<=i/\i<p.length) (hx:ev σ x=some (Er v (i.toNat*q+o))) (hy:ev σ y=some u)
  (hf:M[j]? = some (Ar e v p)) (hq:e.sz=q) (U:u.cells=us.toArray) (hk:us.length=k) (ho:Nat.ble (o+k) q=true) (I:e.enc J=(e.enc (at' p i)).take o++us++(e.enc (at' p i)).drop (o+k)) (W:us.all one=true) (hT:cO.tab P T=some ⟨dT,k,s2,z⟩):
  aN P c n σ M L ⟨none,.store T x y,ty,pos,aft,none⟩ (λ_:Unit=>undef) (λ_=>M.set j (Ar e v (p.set i.toNat J))) (λ_=>L):=λa w s t=>by
 subst hq hk;have aq:o+us.length<=e.sz:=by simpa using ho
 have hi:i.toNat<p.length:=V7
 have t0:=t;obtain⟨aj,FF,hO,af⟩:=t0;obtain⟨h0,A,hh⟩:=hO.res j _ hf;rcases hh with⟨_,rfl⟩|⟨b,m,V,T',f,rfl,X,Y,aa,hc,ht⟩
 .simp at hi
 -- the parts of the row
 obtain⟨l,B,C,H,hl⟩:∃l B C,p=l++B::C/\l.length=i.toNat:=⟨p.take i.toNat,p[i.toNat],p.drop (i.toNat+1),by rw[List.getElem_cons_drop,zBf],Q1⟩
 have ah:at' p i=B:=by
  rw[at',zAa,<-hl,H,zAb (zAg _)];simp
 rw[ah]at I;have eE:=e.len B;have eA:(cellsOf e l).length=i.toNat*e.sz:=by rw[eR,hl]
 have E:cellsOf e p=cellsOf e l++(e.enc B++cellsOf e C):=by rw[H];simp[cellsOf]
 have S:cellsOf e (p.set i.toNat J)=cellsOf e l++(e.enc J++cellsOf e C):=by
  have:p.set i.toNat J=l++J::C:=by rw[H,<-hl,List.set_append_right _ _ (zAg _)];simp
  rw[this];simp[cellsOf]
 have ao:p.length*e.sz<=V*e.sz:=zB0 _ aa;obtain⟨N,R,O,hH⟩:∃N R,f.toList=N++(cellsOf e l++(e.enc B++(cellsOf e C++R)))/\N.length=m:=by
  refine⟨f.toList.take m,(f.toList.drop m).drop (p.length*e.sz),?_,Q1⟩
  have e1:cellsOf e l++(e.enc B++(cellsOf e C++(f.toList.drop m).drop (p.length*e.sz)))=f.toList.drop m:=by
   have:cellsOf e l++(e.enc B++(cellsOf e C++(f.toList.drop m).drop (p.length*e.sz)))=cellsOf e p++(f.toList.drop m).drop (p.length*e.sz):=by rw[E];simp
   rw[this,<-ht,zBf]
  rw[e1,zBf]
 have am:f.size=f.toList.length:=V8
 have ak:f.toList.take (m+(i.toNat*e.sz+o))=N++(cellsOf e l++(e.enc B).take o):=by
  have:f.toList=(N++(cellsOf e l++(e.enc B).take o))++((e.enc B).drop o++(cellsOf e C++R)):=by
   rw[O,zB6,zB6,<-zB6 ((e.enc B).take o),zBf]
  rw[this];exact List.take_left' (by simp[hH,eA,eE];omega)
 have al:f.toList.drop (m+(i.toNat*e.sz+o)+us.length)=(e.enc B).drop (o+us.length)++(cellsOf e C++R):=by
  have:f.toList=(N++(cellsOf e l++(e.enc B).take (o+us.length)))++((e.enc B).drop (o+us.length)++(cellsOf e C++R)):=by
   rw[O,zB6,zB6,<-zB6 ((e.enc B).take (o+us.length)),zBf]
  rw[this];exact List.drop_left' (by simp[hH,eA,eE];omega)
 have ae:(i.toNat+1)*e.sz<=p.length*e.sz:=zB0 _ V7;have ap:(i.toNat+1)*e.sz=i.toNat*e.sz+e.sz:=by rw[zB3,Nat.one_mul]
 have ab:m+(i.toNat*e.sz+o)+0+us.length<=f.size:=V7
 have ad:=run_storeCells_at P b (m+(i.toNat*e.sz+o)) T' us 0 f w Y ab (λu U=>nR (zA7.1 W u U));simp only[Nat.add_zero]at ad;have ar:(cO.ok hT).run_size w=(cO.ok hT).run_size w:=rfl;have ac:(execOp a.eval ⟨none,.store T x y,ty,pos,aft,none⟩).run P w = .ok .skip (w.setRow b (f.toList.take (m+(i.toNat*e.sz+o))++us++f.toList.drop (m+(i.toNat*e.sz+o)+us.length)).toArray):=by
  simp[execOp,s.eval hx,s.eval hy,Er,KH,Instr.storeAt,Instr.sureAddr,storeVar,U,(cO.ok hT).run_size w,eM,ad]
 simp only[Oper.wp,ac,Oper.upon];refine⟨(),trivial,?_⟩
 refine Gp aj hO af hf Z Z Z V8 (λk _ ai=>setRow_other w b k _ (λe=>ai (by subst e;exact X))) (F':=FF j) ?_ (λk hk=> .inl hk);have F:(e.enc J).length=e.sz:=e.len J;refine⟨by simpa using h0,?_,.inr ⟨b,m,V,T',_,V8,X,setRow_heap w b _ _ T' _ Y,by simpa using aa,?_,?_⟩⟩
 .rw[S];rw[E]at A;simp only[List.all_append,zA4]at A ⊢;refine⟨A.1,?_,A.2.2⟩
  rw[I];simp only[List.all_append,zA4];refine⟨⟨zA7.2 λu U=>zA7.1 A.2.1 u (List.mem_of_mem_take U),W⟩,zA7.2 λu U=>zA7.1 A.2.1 u (List.mem_of_mem_drop U)⟩
 .simp only[List.size_toArray,zA5,List.length_take,List.length_drop];omega
 .show((f.toList.take _++us++f.toList.drop _).drop m).take ((p.set i.toNat J).length*e.sz)=_;rw[ak,al,S,I,zA2];have e3:(N++(cellsOf e l++(e.enc B).take o)++us++((e.enc B).drop (o+us.length)++(cellsOf e C++R)))=N++((cellsOf e l++(((e.enc B).take o++us++(e.enc B).drop (o+us.length))++cellsOf e C))++R):=V8
  rw[e3,<-hH,List.drop_left];refine List.take_left' ?_;have ag:(cellsOf e C).length=C.length*e.sz:=eR e C;have an:p.length=i.toNat+1+C.length:=by rw[H,<-hl];simp;omega
  rw[I]at F;rw[zA5,zA5,F,eA,ag,an,zB3,zB3,Nat.one_mul];omega
end
def Dfr (D:Nat):aZ where
 p w F:=F D/\w.heap[D]? = some (.deferred (some []))
 mono:=fun⟨b,a⟩ h=>by
  obtain⟨c,d⟩:=h D b (zAh.1 a).1;exact⟨c,by rw[d];exact a⟩
structure ZH where
 n:Nat
 σ:Fr
 ps:Array Tmp
 assign:Code
 body:Code
 D:Nat
def Lp (l:Nat) (R:ZH) (i:LoopState) (a:V1 Code):aZ where
 p w F:=F l/\∃(fn:FuncId) (tmps:Array V0),tmps.size=R.n/\(∀t v,lk R.σ t=some v->tmps[t]? = some v)/\
  w.heap[l]? = some (.loop {state:=i,pending:=a,fn:=fn,tmps:=tmps,params:=R.ps,assign:=R.assign,body:=R.body,defers:=R.D})
 mono:=fun⟨c,fn,tmps,d,e,b⟩ h=>by
  obtain⟨f,g⟩:=h l c (zAh.1 b).1;exact⟨f,fn,tmps,d,e,by rw[g];exact b⟩
def abA (D:Nat):Deferred:={target:= .collected D,args:= #[]}
def Ag (l:Nat):V0:= .func (.yield l) #[] #[]
section
variable {P:Program} {rd:V1 Nat} {c:wJ} {n m:Sz} {σ σ':Fr} {M L:V6 aZ} {Q:Exit->Act->V2->Prop} {K G:Act->V2->Prop}
theorem St.putLp {w:V2} {l i:Nat} {R:ZH} {y d:LoopState} {b a:V1 Code} (t:St c M L w) (v:M[i]? = some (Lp l R y b)) {r:Loop} (o:w.heap[l]? = some (.loop r)):
  St c (M.set i (Lp l R d a)) L (w.putObj l (.loop {r with state:=d,pending:=a})):=by
 refine t.upd v Z Z Z V8 λF j _=>⟨λk _ x=> ?_,F,?_,λ_ h=> .inl h⟩
 .exact World.putObj_heap_other (λe=>x (by subst e;exact j.1))
 .obtain⟨q,p,f,s,u,g⟩:=j;rw[g]at o;cases o;exact⟨q,p,f,s,u,World.putObj_heap_same (zAh.1 g).1⟩
def ZI (P:Program) (n:Sz) (σ:Fr) (l D:Nat) (Q:Exit->Act->V2->Prop) (e:Ending) (w:V2):Prop:=
 ∀a,Hv ⟨n.sz,abA D::n.ds⟩ σ a->rangePost (FR none) 0 P l Q a e w
theorem Ro {g:Operand} {ps:Array Tmp} {assign body:Code} {f:FuncId} {fn:Func} {code:Code} {cs:List V0} {k:Nat} (hb:aU P f) (hx:ev σ g=some (.func (.func f) #[] cs.toArray)) (hf:P.funcs[f]? = some fn) (hbd:fn.body=some code) (hn:fn.ntmps=k) (hm:Nat.ble (cs.length+1) k=true)
  (h:∀l D,J c ⟨k,[]⟩ (yZ 0 (Ag l::cs)) (Lp l ⟨n.sz,σ,ps,assign,body,D⟩ .ready none::Dfr D::M) L (code.wpr none P (iX P fn (ZI P n σ l D Q)))):
  J c n σ M L ((Code.rangeFunc g ps assign body).wpr none P Q):=λa w s t=>by
 refine wpIn_rangeFunc λfn' _=> ?_;have hev:a.eval g = .func (.func f) #[] cs.toArray:=s.eval hx;let W:World:=(w.alloc (.deferred (some []))).alloc (.loop {state:= .ready,pending:=none,fn:=fn',tmps:=a.tmps,params:=ps,assign:=assign,body:=body,defers:=w.heap.size});refine⟨_,_,_,{target:= .fn (.func f) cs.toArray,args:= #[Ag (w.heap.size+1)]},W,f,(Ag (w.heap.size+1)::cs).toArray,W,run_enterLoop_outer fn' a.tmps ps assign body,?_,λ_ _=>trivial,?_,(λhc=>by cases hc),?_⟩
 .have hc:∀v,a.eval (.const v)=v:=λ_=>rfl;simp[resolve,hev,hc,Deferred.ofValue,Ag,W]
 .simp[invoke,hb _ _,Ag]
 .have t1:St c (Dfr w.heap.size::M) L (w.alloc (.deferred (some []))):=t.push _ ⟨rfl,heap_alloc_new w _⟩;have t2:St c (Lp (w.heap.size+1) ⟨n.sz,σ,ps,assign,body,w.heap.size⟩ .ready none::Dfr w.heap.size::M) L ((w.alloc (.deferred (some []))).alloc (.loop {state:= .ready,pending:=none,fn:=fn',tmps:=a.tmps,params:=ps,assign:=assign,body:=body,defers:=w.heap.size})):=by
   have:=t1.push (.loop {state:= .ready,pending:=none,fn:=fn',tmps:=a.tmps,params:=ps,assign:=assign,body:=body,defers:=w.heap.size}) (m:=Lp (w.heap.size+1) ⟨n.sz,σ,ps,assign,body,w.heap.size⟩ .ready none)
    ⟨by simp,fn',a.tmps,s.size,s.slot,by rw[<-World.size_alloc w (.deferred (some []))];exact heap_alloc_new _ _⟩
   exact this
  refine WE ((uV hf hbd (h (w.heap.size+1) w.heap.size _ _ (Mt hn (by simpa using hm)) t2)).mono ?_);intro e w' he;exact he _ ⟨by simp[abA,s.defers],s.size,s.slot⟩
theorem Zw {f:Func} {b:Exit} {v:V0} {l D i:Nat} {R:ZH} (e:b = .ret\/b = .normal) (j:M[i]? = some (Lp l R .ready none)) (q:CO P c m σ' M L f v) (h:J c ⟨n.sz,abA D::n.ds⟩ σ (M.set i (Lp l R .exhausted none)) L (Q .normal)) (d:m.ds=[]:=by rfl):
  J c m σ' M L (iX P f (ZI P n σ l D Q) b):=λa w s t=>by
 refine body_end e (s.defers.trans d) (q a w s t) λo r=> ?_;obtain⟨F,u,p,k,x,y,g⟩:=t.res j;exact⟨none,_,run_endLoop g V8,h o _ r (t.putLp j g)⟩
theorem adw {f:Func} {b:Exit} {v:V0} {l D i:Nat} {R:ZH} (e:b = .ret\/b = .normal) (j:M[i]? = some (Lp l R .done (some .ret))) (q:CO P c m σ' M L f v) (h:J c ⟨n.sz,abA D::n.ds⟩ σ (M.set i (Lp l R .exhausted (some .ret))) L (Q .ret)) (d:m.ds=[]:=by rfl):
  J c m σ' M L (iX P f (ZI P n σ l D Q) b):=λa w s t=>by
 refine body_end e (s.defers.trans d) (q a w s t) λo r=> ?_;obtain⟨F,u,p,k,x,y,g⟩:=t.res j;exact⟨some .ret,_,run_endLoop g V8,wpIn_ret (h o _ r (t.putLp j g))⟩
def Zh (P:Program) (l:Nat) (G:Act->V2->Prop) (a:Act) (w:V2):Prop:=∃b,(Instr.beginRound l).run P w = .ok () b/\G a b
theorem VV {l i:Nat} {R:ZH} {b:V1 Code} (e:M[i]? = some (Lp l R .ready b)) (h:J c n σ (M.set i (Lp l R .busy b)) L G):J c n σ M L (Zh P l G):=λa w s t=>by
 obtain⟨F,j,g,f,k,o,d⟩:=t.res e;exact⟨_,run_beginRound d Z,h a _ s (t.putLp e d)⟩
def ZJ (n:Sz) (σ:Fr) (d:Nat) (K:Act->V2->Prop) (e:Ending) (w:V2):Prop:=∃v,e = .returned v/\∀a,Hv n ((d,v)::σ) a->K a w
theorem LD {l i d:Nat} {R:ZH} {b:V1 Code} (f:M[i]? = some (Lp l R .busy b)) (h:J c m ((d,.bool true)::σ') (M.set i (Lp l R .ready none)) L K):J c n σ M L (roundPost P l (ZJ m σ' d K) .normal):=λa w s t=>by
 obtain⟨F,p,k,g,q,r,e⟩:=t.res f;exact⟨_,_,run_endRound none e,_,rfl,λj o=>h j _ o (t.putLp f e)⟩
theorem Zx {l i d:Nat} {R:ZH} {b:V1 Code} (f:M[i]? = some (Lp l R .busy b)) (h:J c m ((d,.bool false)::σ') (M.set i (Lp l R .done (some .ret))) L K):J c n σ M L (roundPost P l (ZJ m σ' d K) .ret):=λa w s t=>by
 obtain⟨F,p,k,g,q,r,e⟩:=t.res f;exact⟨_,_,run_endRound (some .ret) e,_,rfl,λj o=>h j _ o (t.putLp f e)⟩
def HL:V6 Tmp->V6 V0->Fr->Fr
 |t::ts,v::vs,σ=>HL ts vs ((t,v)::σ)
 |_,_,σ=>σ
theorem Ms:∀(d:V6 Tmp) (f:V6 V0) (a:Array V0) (σ:Fr) (k:Nat),a.size=k->d.all (λt=>Nat.blt t k)=true->(∀t v,lk σ t=some v->a[t]? = some v)->
  ((d.zip f).foldl (λa (x:Tmp×V0)=>a.setIfInBounds x.1 x.2) a).size=k/\∀t v,lk (HL d f σ) t=some v->((d.zip f).foldl (λa (x:Tmp×V0)=>a.setIfInBounds x.1 x.2) a)[t]? = some v
 | [],_,a,σ,k,h1,_,h3=>by simpa [HL]using ⟨h1,h3⟩
 |_::_,[],a,σ,k,h1,_,h3=>by simpa [HL]using ⟨h1,h3⟩
 | p :: d, x :: f, a, σ, k, h1, h2, h3 => by
  simp only[List.all_cons,zA4]at h2;have g:p<k:=by simpa [zAy]using h2.1
  simp only[List.zip_cons_cons,List.foldl_cons,HL];refine Ms d f _ _ k (by simp[h1]) h2.2 λt v b=> ?_;simp only[lk]at b;by_cases e:t=p
  .subst e;simp at b;subst b;simp[h1,g]
  .rw[oC e]at b;simp only[cond_false]at b;rw[zB2 (Ne.symm e)];exact h3 t v b
theorem ady {f:Array V5} {b:V6 V5} {t:Tmp} {z:V6 V3} {g:V6 V0} {o:Array V9} {d:Nat} {B:V9} {y:String} {k:Array Edge} {l i:Nat} {R:ZH} {j:V6 Tmp} (U:lk σ t=some (Ag l)) (W:z.map (ev σ)=g.map some) (T:M[i]? = some (Lp l R .ready none)) (r:R.ps=j.toArray) (q:g.length=j.length) (p:j.all (λt=>Nat.blt t R.n)=true) (S:Nat.blt d n.sz=true)
  (h:J c ⟨R.n,[]⟩ (HL j g R.σ) M L (R.assign.wpr (some l) P (Exit.then (Zh P l (R.body.wpr (some l) P (roundPost P l (ZJ n σ d (wpList P f Q b))))) (λ_ _ _=>False)))):
  J c n σ M L (wpList P f Q (⟨some d,.call ⟨.value (.tmp t),z.toArray,o⟩,B,y,k,none⟩::b)):=λa w s A=>by
 obtain⟨F,h1,H,tmps,I,N,O⟩:=A.res T;have e:=evs s W;have C:a.eval (.tmp t)=Ag l:=s.eval (x:= .tmp t) U;have X:=run_yield (P:=P) (args:=g.toArray) O (by simp[r,q]);have u:(execOp a.eval ⟨some d,.call ⟨.value (.tmp t),z.toArray,o⟩,B,y,k,none⟩).run P w=(Instr.yield l g.toArray).run P w:=by
  simp[execOp,resolve,C,Ag,Deferred.ofValue,invoke,e]
 unfold wpList;rw[if_pos (show Region.wanted _ _=true from rfl)];refine .inr ⟨_,_,_,_,_,_,u.trans X,?_⟩;refine RoundIn.mono (R:=ZJ n σ d (wpList P f Q b)) (roundIn_of_wpIn (F:=FR none) trivial ?_) ?_
 .obtain⟨D,E⟩:=Ms j g tmps R.σ R.n I p N;have:=h {tmps:=(j.zip g).foldl (λtmps (x:Tmp×V0)=>tmps.setIfInBounds x.1 x.2) tmps,defers:=[]} w ⟨rfl,D,E⟩ A;simp only[r,List.zip_toArray,List.foldl_toArray];exact this
 .rintro e Y ⟨v,rfl,V⟩;exact⟨v,rfl,V _ (s.put d v S)⟩
theorem Pm {g:Operand} {ps:Array Tmp} {assign body:Code} {f:FuncId} {fn:Func} {code:Code} {cs:List V0} {k:Nat} (hb:aU P f) (hx:ev σ g=some (.func (.func f) #[] cs.toArray)) (hf:P.funcs[f]? = some fn) (hbd:fn.body=some code) (hn:fn.ntmps=k) (hm:Nat.ble (cs.length+1) k=true)
  (h:∀(l D:Nat) (R:ZH),R.n=n.sz/\R.σ=σ/\R.ps=ps/\R.assign=assign/\R.body=body->J c ⟨k,[]⟩ (yZ 0 (Ag l::cs)) (Lp l R .ready none::Dfr D::M) L (code.wpr none P (iX P fn (ZI P n σ l D Q)))):
  J c n σ M L ((Code.rangeFunc g ps assign body).wpr none P Q):=Ro hb hx hf hbd hn hm λl D=>h l D _ ⟨rfl,rfl,rfl,rfl,rfl⟩
theorem Rq {j:Array V5} {e:V6 V5} {t:Tmp} {u:V6 V3} {us:V6 V0} {r:Array V9} {d:Nat} {B:V9} {s:String} {q:Array Edge} {l i k:Nat} {R:ZH} {p:V6 Tmp} {o:Fr} {a b:Code} (w:R.n=k/\R.σ=o/\R.ps=p.toArray/\R.assign=a/\R.body=b) (z:lk σ t=some (Ag l)) (A:u.map (ev σ)=us.map some) (y:M[i]? = some (Lp l R .ready none)) (g:us.length=p.length) (f:p.all (λt=>Nat.blt t k)=true) (x:Nat.blt d n.sz=true)
  (h:J c ⟨k,[]⟩ (HL p us o) M L (a.wpr (some l) P (Exit.then (Zh P l (b.wpr (some l) P (roundPost P l (ZJ n σ d (wpList P j Q e))))) (λ_ _ _=>False)))):
  J c n σ M L (wpList P j Q (⟨some d,.call ⟨.value (.tmp t),u.toArray,r⟩,B,s,q,none⟩::e)):=by
 obtain⟨rfl,rfl,v,rfl,rfl⟩:=w;exact ady z A y v g f x h
end
def MH (Ds:V6 Nat):V6 Deferred:=Ds.map abA
def Pf (Ds:V6 Nat):aZ where
 p w F:=Ds.Nodup/\∀D∈Ds,F D/\w.heap[D]? = some (.deferred (some []))
 mono:=fun⟨c,a⟩ h=>⟨c,λD b=>by
  obtain⟨d,e⟩:=h D (a D b).1 (zAh.1 (a D b).2).1;exact⟨d,by rw[e];exact(a D b).2⟩⟩
section
variable {P:Program} {rd:V1 Nat} {c:wJ} {n m:Sz} {σ σ':Fr} {M L:V6 aZ} {Q:Exit->Act->V2->Prop} {K G:Act->V2->Prop}
theorem RQ:eT M L (Pf []::M) L:=eT.add λ_=>⟨List.nodup_nil,V8⟩
theorem RR (i j:Nat) {D:Nat} {e:V6 Nat} (d:i≠j) (l:M[i]? = some (Pf e)) (o:M[j]? = some (Dfr D)):eT M L ((M.set i (Pf (D::e))).eraseIdx j) L:=λc w t=>
 t.merge i j d l o (by
  rintro w q r ⟨g,b⟩ ⟨f,h⟩ k;refine⟨zBh.2 ⟨λp=>k D (b D p).1 f,g⟩,λE a=> ?_⟩
  rcases zAo.1 a with rfl|a
  .exact⟨.inr f,h⟩
  .exact⟨.inl (b E a).1,(b E a).2⟩)
theorem HY {g:Operand} {ps:Array Tmp} {assign body:Code} {f:FuncId} {fn:Func} {code:Code} {cs:List V0} {k i s:Nat} (Ds:List Nat) (hi:M[i]? = some (Pf Ds)) (hb:aU P f) (hx:ev σ g=some (.func (.func f) #[] cs.toArray)) (hf:P.funcs[f]? = some fn) (hbd:fn.body=some code) (hn:fn.ntmps=k) (hm:Nat.ble (cs.length+1) k=true)
  (h:∀(l D:Nat) (R:ZH),R.n=s/\R.σ=σ/\R.ps=ps/\R.assign=assign/\R.body=body->J c ⟨k,[]⟩ (yZ 0 (Ag l::cs)) (Lp l R .ready none::M.set i (Pf (D::Ds))) L (code.wpr none P (iX P fn (ZI P ⟨s,MH Ds⟩ σ l D Q)))):
  J c ⟨s,MH Ds⟩ σ M L ((Code.rangeFunc g ps assign body).wpr none P Q):=Pm hb hx hf hbd hn hm λl D R hR=>
 cF (RR (i+2) 1 (by omega) hi Z) (h l D R hR)
theorem tV {o:Func} {R:Ending->V2->Prop} {f:Exit} {i k:Nat} (b:f = .ret\/f = .normal):∀{Ds:V6 Nat} {M:V6 aZ},M[i]? = some (Pf Ds)->J c ⟨k,[]⟩ σ (M.set i (Pf [])) L (iX P o R f)->J c ⟨k,MH Ds⟩ σ M L (iX P o R f)
 | [], M, hi, h => by
  have:M.set i (Pf [])=M:=by
   apply List.ext_getElem?;intro j;by_cases e:i=j
   .subst e;rw[hi];simp[(List.getElem?_eq_some_iff.1 hi).1]
   .simp[zAq e]
  rw[this]at h;exact h
 | D :: Ds, M, hi, h => λa w s t => by
  obtain⟨F,v,q⟩:=t.res hi;have u:St c (M.set i (Pf Ds)) L (w.putObj D (.deferred none)):=by
   refine t.upd hi Z Z Z V8 λF d _=>⟨λk _ r=> ?_,F,?_,λ_ h=> .inl h⟩
   .exact World.putObj_heap_other (λe=>r (e▸(d.2 D V8).1))
   .obtain⟨p,d⟩:=d;refine⟨(zBh.1 p).2,λE g=>⟨(d E (by simp[g])).1,?_⟩⟩
    rw[World.putObj_heap_other (λe=>(zBh.1 p).1 (by subst e;exact g))];exact(d E (by simp[g])).2
  refine XX b s.defers (q D V8).2 ?_;have l:(M.set i (Pf Ds))[i]? = some (Pf Ds):=by simp[(List.getElem?_eq_some_iff.1 hi).1]
  have:=tV b l (by rw[List.set_set];exact h) {tmps:=a.tmps,defers:=MH Ds} _ ⟨rfl,s.size,s.slot⟩ u;rcases b with rfl|rfl<;>exact this
def aiW {A B:Type} (c:wJ) (f:A->B->Sz) (C:A->Prop) (b:A->B->Fr) (e d:A->B->V6 aZ) (a:Act) (w:V2):Prop:=∃x y,C x/\Hv (f x y) (b x y) a/\St c (e x y) (d x y) w
theorem Up {A B:Type} {x:Code} (h:A->B->Sz) (C:A->Prop) (d:A->B->Fr) (g f:A->B->V6 aZ) (j:J c n σ M L (x.wpr rd P (Exit.then (aiW c h C d g f) Q))) (k:∀a b,C a->J c (h a b) (d a b) (g a b) (f a b) K):
  J c n σ M L (x.wpr rd P (Exit.then K Q)):=λa w s t=>Jc (λe i u q=>by
 cases e with
 |normal=>obtain⟨z,y,o,p,r⟩:=q;exact k z y o i u p r
 |exit id=>exact q
 |goto l=>exact q
 |ret=>exact q
 |panic v=>exact q
 |outgrown=>exact q) (j a w s t)
theorem KY {A B:Type} {e:A->B->Sz} {C:A->Prop} {a:A->B->Fr} {d b:A->B->V6 aZ} (x:A) (y:B) (i:n=e x y) (f:C x) (j:Ba σ (a x y)) (h:aX M (d x y)) (g:aF [] L (b x y)):J c n σ M L (aiW c e C a d b):=
 λ_ _ s t=>⟨x,y,f,i▸s.weak j,t.weakE h g⟩
end
def Gb (b:Nat) (cs:V6 V0):aZ where
 p w S:=S b/\∃T,w.heap[b]? = some (.cells cs.toArray T (0,0))
 mono:=fun⟨c,T,a⟩ h=>by
  obtain⟨d,e⟩:=h b c (zAh.1 a).1;exact⟨d,T,by rw[e];exact a⟩
section
variable {P:Program} {c:wJ} {n:Sz} {σ:Fr} {M L:V6 aZ} {d:V1 Tmp} {ty:V9} {pos:String} {aft:Array Edge} {g:V1 (Nat×V4)} {α:Type} {e:bI α}
theorem RZ [cO P] {T E:V9} {u:IntKind} {k v A f B:Nat} {z C:V0} {l:TypeDesc} {x y:V3} {b:Nat} {i:Int} (q:ev σ x=some (.pointer (some ⟨b,0,none⟩))) (r:ev σ y=some (.int u i))
  (p:cO.tab P T=some ⟨.array k E,v,A,z⟩) (o:cO.tab P E=some ⟨l,f,B,C⟩) (m:(f==0)=false) (h:0<=i/\i<(k:Int)):
  Y P c n σ M L ⟨d,.indexAddr T x y,ty,pos,aft,g⟩ (.pointer (some ⟨b,i.toNat*f,none⟩)):=λa w s t=>by
 have j:f≠0:=by simpa using m
 simp[execOp,s.eval q,s.eval r,Instr.indexAt,asIntOf,(cO.ok p).run_und w,h,Instr.sureAddr,(cO.ok o).run_size w,j,eM]
theorem XR [cO P] [Inhabited α] {T:V9} {E:Nat} {z:V0} {o:TypeDesc} {x:V3} {b k:Nat} {i:Int} {f:V6 α} {u:V0} (q:ev σ x=some (.pointer (some ⟨b,i.toNat*1,none⟩)))
  (y:aG M L (Gb b (cellsOf e f))) (A:cO.tab P T=some ⟨o,1,E,z⟩) (B:yA o=false) (C:e.sz=1) (D:(e.enc (at' f i))=[u]) (h:(0<=i/\i<(k:Int))/\f.length=k):
  Y P c n σ M L ⟨d,.load T x,ty,pos,aft,g⟩ u:=λa w s t=>by
 obtain⟨F,j,r,l⟩:=y.st t;have v:(bH b (cellsOf e f) r).p w F:=⟨j,l⟩
 have m:=yK e f i.toNat (at' f i) (cG h.1.1 V7) 0 u (by rw[D];rfl);rw[C,Nat.add_zero]at m;rw[Nat.mul_one]at q m;simp[execOp,s.eval q,AE (cO.ok A) B (bH.cell v m)]
end
end Go.Sx
namespace Go.Sx
section
variable {P:Program} {M L:V6 aZ} {α β γ:Type} {r:eD α} {s:eD γ} {q:eD β}
def eD.Deep (r:eD α) (q:eD β) (f:α->V0×V6 β):Prop:=∀{w S es x},r.R w S es x->Fc q w S (f x).1 (f x).2
theorem Fo (q:eD β):(eD.sl q).Deep q (λx=>x):=λh=>h.2
theorem XP {f:α->V0×V6 β} (h:r.Deep q f):(r.pair s).Deep q (λx=>f x.1):=by
 rintro w S d x ⟨b,c,rfl,a,_⟩;exact h a
theorem Gn {f:α->V0×V6 β} (h:r.Deep q f):(s.pair r).Deep q (λx=>f x.2):=by
 rintro w S d x ⟨b,c,rfl,_,a⟩;exact h a
theorem yG [Inhabited α] {v:V0} {a:V6 α} {i:Int} {f:α->V0×V6 β} (h:aG M L (Sl r v a)) (d:r.Deep q f) (b:0<=i) (c:i<a.length):aG M L (Sl q (f (at' a i)).1 (f (at' a i)).2):=h.mono λ{w U} hs=>by
 obtain⟨g,e,_⟩:=sl_cell hs (cG b c);exact d e
def Md (s:ByteArray):V6 Int:=s.data.toList.map λb=>(b.toNat:Int)
theorem Em [cO P] {c:wJ} {n:Sz} {l:Fr} {d:V1 Tmp} {H:V9} {e:String} {b:Array Edge} {g:V1 (Nat×V4)} {T:V9} {F G:Nat} {z:V0} {x y:V3} {s:ByteArray} {f:V6 Int} {k:IntKind} {i:Int} (D:ev l x=some (.string s)) (E:ev l y=some (.int k i)) (u:cO.tab P T=some ⟨.string,F,G,z⟩) (A:Md s=f) (h:0<=i/\i<f.length):
  Y P c n l M L ⟨d,.index T x y,H,e,b,g⟩ (.int .u8 (at' f i)):=λa w p t=>by
 subst A;obtain⟨I,m⟩:=h;obtain⟨j,rfl⟩:∃j:Nat,i=(j:Int):=⟨i.toNat,V7⟩
 have o:j<s.data.toList.length:=by unfold Md at m;simp at m ⊢;omega
 have C:j<s.size:=by have:=Lib.size_eq s;simp at o;omega
 have B:s[j]? = some (s.data.toList[j]):=by
  rw[getElem?_pos s j C];rfl
 have v:at' (Md s) (j:Int)=((s.data.toList[j]).toNat:Int):=by
  unfold at' Md;simp[zAa,zA0 o]
 rw[v];simp[execOp,p.eval D,p.eval E,Instr.index,asIntOf,(cO.ok u).run_und w,B]
theorem UA [cO P] {c:wJ} {n:Sz} {j:Fr} {d:V1 Tmp} {F:V9} {i:String} {e:Array Edge} {g:V1 (Nat×V4)} {T E:V9} {A B C D m b:Nat} {z G:V0} {o:TypeDesc} {x l:V3} {k:Int} (y:ev j x=some (.pointer (some ⟨b,0,none⟩))) (f:ev j l=some (.int .i64 k))
  (v:cO.tab P T=some ⟨.array m E,A,B,z⟩) (u:cO.tab P E=some ⟨o,C,D,G⟩) {q:Int} (h:0<=k/\k<=((m:Nat):Int)/\k<=q):Y P c n j M L ⟨d,.slice T x none (some l) none,F,i,e,g⟩ (.slice (some ⟨b,0,none⟩) k.toNat m):=λa w s t=>by
 have p:0<=k/\k<=(m:Int):=⟨h.1,h.2.1⟩
 simp[execOp,s.eval y,s.eval f,Instr.sliceAt,Instr.slice,(cO.ok v).run_und w,Instr.sliceBounds,Instr.sliceBound,asIntOf,(cO.ok u).run_size w,p,asAddr,Addr.add,Instr.sureAddr]
theorem Zz {e:bI α} {i b T m:Nat} {k:Int} {a:List α} (t:M[i]? = some (bH b (cellsOf e a) T)) (c:e.Fits r) (h:0<=k/\k<=((m:Nat):Int)/\k<=(a.length:Int)) (p:m<=9223372036854775807):aG M L (Sl r (.slice (some ⟨b,0,none⟩) k.toNat m) (a.take k.toNat)):=λw S T U B f C v=>by
 have n:=f i _ t;have o:(a.take k.toNat).length=k.toNat:=by simp;omega
 refine⟨some ⟨b,0,none⟩,m,by rw[o],by rw[o];omega,.inr ⟨b,0,rfl,v _ _ n.1,λj x d=> ?_⟩⟩
 have l:a[j]? = some x:=by
  rw[zAt]at d;split at d
  .exact d
  .cases d
 obtain⟨g,D,z,_⟩:=c;refine⟨e.enc x,λq u A=> ?_,z⟩
 have y:=yK e a _ _ l _ _ A;rw[g,Nat.zero_add];exact bH.cell n y
def eD.All (r:eD α) (n:Nat) (g:α->V6 V0):Prop:=r.sz=n/\∀{w S es x},r.R w S es x->es=g x
theorem Uv {e:bI α} (h:e.Fits r):r.All e.sz e.enc:=⟨h.1,h.2.1⟩
theorem Uw (q:eD β):(eD.sl q).All 1 (λx=>[x.1]):=⟨rfl,λh=>h.1⟩
theorem Pr {n m:Nat} {f:α->V6 V0} {g:γ->V6 V0} (h:r.All n f) (k:s.All m g):(r.pair s).All (n+m) (λx=>f x.1++g x.2):=⟨by show r.sz+s.sz=_;rw[h.1,k.1],by
 rintro w S e x ⟨c,d,rfl,a,b⟩;rw[h.2 a,k.2 b]⟩
theorem Uz [cO P] [Inhabited α] {c:wJ} {n:Sz} {B:Fr} {d:V1 Tmp} {O:V9} {o:String} {k:Array Edge} {g:V1 (Nat×V4)} {T:V9} {N q m:Nat} {z:V0} {p:TypeDesc} {x:V3} {v:V0} {i:Int} {e:V6 α} {cs:V6 V0} {f:α->V6 V0} (K:ev B x=some (Er v (i.toNat*q))) (G:aG M L (Sl r v e)) (y:r.All m f) (l:f (at' e i)=cs)
  (E:cO.tab P T=some ⟨p,cs.length,N,z⟩) (F:yA p=true) (H:m=q) (h:0<=i/\i<e.length):Y P c n B M L ⟨d,.load T x,O,o,k,g⟩ (.agg cs.toArray):=λa w s t=>by
 obtain⟨C,D⟩:=h;obtain⟨S,h⟩:=G.st t;obtain⟨Q,I,b⟩:=sl_cell h (cG C D);have:=y.2 I;subst this l;rw[y.1,H]at b;have:=Bi (w:=w) (A:=KH v (i.toNat*q)) (cs:=f (at' e i)) (cO.ok E) F Z (λj u J=>by rw[Lg];exact b j u J);simp[execOp,s.eval K,Er,this]
end
end Go.Sx
namespace Go.Sx
open Go.RowKit
section
variable {P:Program} {c:wJ} {n:Sz} {σ:Fr} {M L:V6 aZ} {d:V1 Tmp} {ty:V9} {pos:String} {aft:Array Edge} {g:V1 (Nat×V4)}
def agO (v:V0) (m:Nat):Prop:=∃a e,v = .slice a m e/\(m=0\/∃b f,a=some ⟨b,f,none⟩)
theorem Know.len {f:Type} {r:eD f} {v:V0} {xs:V6 f} (j:aG M L (Sl r v xs)):∀c w,St c M L w->agO v xs.length:=λc w t=>by
 obtain⟨S,i,cap,k,_,h⟩:=j.st t;exact⟨i,cap,k,h.imp (λh=>by simp[h]) fun⟨b,a,e,_⟩=>⟨b,a,e⟩⟩
theorem mI [cO P] {T E:V9} {B C k D m:Nat} {z F:V0} {o:TypeDesc} {x y:V3} {v:V0} {i:Int} (u:ev σ x=some v) (A:ev σ y=some (.int .i64 i)) (f:agO v m)
  (s:cO.tab P T=some ⟨.slice E,B,C,z⟩) (r:cO.tab P E=some ⟨o,k,D,F⟩) (h:0<=i/\i<(m:Int)):Y P c n σ M L ⟨d,.indexAddr T x y,ty,pos,aft,g⟩ (Er v (i.toNat*k)):=λa w l t=>by
 obtain⟨G,e,rfl,f⟩:=f;obtain⟨p,q⟩:=h;rcases f with rfl|⟨b,j,rfl⟩
 .omega
 .simp[execOp,l.eval u,l.eval A,JP w (cO.ok s) Z (cO.ok r) b j _ e i p q]
theorem LK [cO P] (i:Nat) {T j:V9} {H m o b:Nat} {z:V0} {q:TypeDesc} {x y:V3} {cs e us:V6 V0} {u:V0} (E:ev σ x=some (.pointer (some ⟨b,o,none⟩))) (G:ev σ y=some u) (l:u.cells=us.toArray) (B:us.length=m)
  (r:us.all one=true) (p:M[i]? = some (bH b cs j)) (A:cO.tab P T=some ⟨q,m,H,z⟩) (C:Nat.ble (o+m) cs.length=true) (k:cs.take o++us++cs.drop (o+m)=e):
  aN P c n σ M L ⟨none,.store T x y,ty,pos,aft,none⟩ (λ_:Unit=>undef) (λ_=>M.set i (bH b e j)) (λ_=>L):=λa w s t=>by
 subst B k;obtain⟨F,v⟩:=t.res p;have D:o+us.length<=cs.length:=by simpa using C
 have h:=run_storeCells_at P b o j us 0 cs.toArray w v.2 Q1 (λu l=>nR (zA7.1 r u l));simp only[Nat.add_zero]at h;have f:(execOp a.eval ⟨none,.store T x y,ty,pos,aft,none⟩).run P w = .ok .skip (w.setRow b (cs.take o++us++cs.drop (o+us.length)).toArray):=by
  simp[execOp,s.eval E,s.eval G,Instr.storeAt,Instr.sureAddr,storeVar,l,(cO.ok A).run_size w,h]
 simp only[Oper.wp,f,Oper.upon];exact⟨(),trivial,t.fill p⟩
theorem LS [cO P] (i:Nat) {T k:V9} {B m o b:Nat} {z:V0} {h:TypeDesc} {x:V3} {cs us:V6 V0} (y:ev σ x=some (.pointer (some ⟨b,o,none⟩))) (p:M[i]? = some (bH b cs k)) (q:cO.tab P T=some ⟨h,m,B,z⟩) (r:yA h=true)
  (f:(cs.drop o).take m=us) (v:us.length=m):Y P c n σ M L ⟨d,.load T x,ty,pos,aft,g⟩ (.agg us.toArray):=λa w s t=>by
 subst v;obtain⟨F,l⟩:=t.res p;have:=Bi (w:=w) (A:=⟨b,o,none⟩) (cs:=us) (cO.ok q) r Z (λj u e=>by
  have:cs[o+j]? = some u:=by
   rw[<-f,zAt]at e;split at e
   .rwa[zAu]at e
   .cases e
  rw[eM];exact bH.cell l this)
 simp[execOp,s.eval y,this]
theorem Cv {a:Type} [Inhabited a] (l:V6 a) (k:Int) (h:k.toNat<l.length) (b:0<=k):l.set k.toNat (at' l k)=l:=by
 have:=cG (xs:=l) b V7;refine List.ext_getElem? λi=> ?_;by_cases e:k.toNat=i
 .subst e;rw[zAj h,this]
 .rw[zAq e]
theorem Cf [cO P] {l:Type} [Inhabited l] {e:bI l} (j:Nat) {T:V9} {Q m o q:Nat} {z:V0} {C:TypeDesc} {x y:V3} {u:V0} {us:V6 V0} {i k:Int} {vs:V6 V0} {b:V6 (V6 l)} (f:l) (A:0<=k/\k<b.length) (h:0<=i/\i<(at' b k).length) (N:ev σ x=some (Er (at' vs k) (i.toNat*q+o))) (O:ev σ y=some u)
  (v:M[j]? = some (fE e vs b)) (I:e.sz=q) (K:u.cells=us.toArray) (G:us.length=m) (H:Nat.ble (o+m) q=true) (B:e.enc f=(e.enc (at' (at' b k) i)).take o++us++(e.enc (at' (at' b k) i)).drop (o+m)) (p:us.all one=true) (D:cO.tab P T=some ⟨C,m,Q,z⟩):
  aN P c n σ M L ⟨none,.store T x y,ty,pos,aft,none⟩ (λ_:Unit=>undef) (λ_=>M.set j (fE e vs (b.set k.toNat ((at' b k).set i.toNat f)))) (λ_=>L):=λa w s t=>by
 have U:=dQ j v c w t;have F:j<M.length:=(List.getElem?_eq_some_iff.1 v).1;refine pW (λS R ⟨x,E,J⟩=>⟨x,E,?_⟩) (yH 0 f h N O Z I K G H B p D a w s (Fq j v A c w t));have r:=Fp (j+1) 0 (u:=at' vs k) (k:=k) (vs:=vs) (xss:=b) (ys:=(at' b k).set i.toNat f) (e:=e) Z (by simp[F]) Z (by simpa using A) c R J;simp only[List.set_cons_zero,List.set_cons_succ,List.eraseIdx_cons_zero,List.set_set]at r;rw[Cv vs k V7 A.1]at r;exact r
end
theorem aX.ix {M a:V6 aZ} (l:V6 Nat) (c:decide l.Nodup=true) (h:l.map (λi=>M[i]?)=a.map some):aX M a:=by
 have c:l.Nodup:=zB5 c;have k:l.length=a.length:=by simpa using congrArg List.length h
 refine⟨λi=>l.getD i 0,λi j b n e=> ?_,λi m d=> ?_⟩
 .have f:i<l.length:=V7
  have g:j<l.length:=V7
  simp only[zAa,zA0 f,zA0 g,Option.getD_some]at e;exact(List.getElem_inj c).1 e
 .have b:i<l.length:=by rw[k];exact(List.getElem?_eq_some_iff.1 d).1
  have:=congrArg (λq=>q[i]?) h;simp only[List.getElem?_map,zA0 b,d,Option.map_some,Option.some.injEq]at this;simpa [zAa,zA0 b]using this
def bI.fn:bI Nat:=⟨1,Nat.one_pos,λf=>[.func (.func f) #[] #[]],λ_=>rfl⟩
def eD.fn:eD Nat:=⟨1,Nat.one_pos,λ_ _ cs x=>cs=[.func (.func x) #[] #[]],λh=>by simp[h],λh _=>h⟩
theorem Ri:bI.fn.Fits eD.fn:=⟨rfl,λh=>h,rfl,λ_=>rfl⟩
section
variable {P:Program} {rd:V1 Nat} {c:wJ} {n:Sz} {σ:Fr} {M L:V6 aZ} {Q:Exit->Act->V2->Prop} {ops:Array V5} {rest:V6 V5} {d:Nat} {ty:V9} {pos:String} {aft:Array Edge} {x y:V3} {v:V0} {K:Act->V2->Prop}
abbrev vS (x:ByteArray):V0:= .string x
abbrev vB (x:V4):V0:= .bool x
theorem dV {a:Type} {p G:Prop} {_:Decidable p} {u:V1 a} {r:a} (h:ck p u=some r) (k:p->u=some r->G):G:=k (WG h).1 (WG h).2
theorem fP {a b:Type} {G:Prop} {u:V1 a} {f:a->V1 b} {r:b} (h:u.bind f=some r) (k:∀y,u=some y->f y=some r->G):G:=by
  obtain⟨y,e,g⟩:=bnd h;exact k y e g
theorem jS (l:V6 Nat) {a:V6 aZ} (h:l.map (L[·]?)=a.map some):aF M L a:=λf b=>by
  have g:some f∈l.map (L[·]?):=h▸List.mem_map_of_mem b;obtain⟨j,_,e⟩:=zAs.1 g;exact aG.fact j e
theorem mD.ix (l:V6 Nat) {a:V6 aZ} (h:l.map (L[·]?)=a.map some):mD L a:=λf b=>by
  have g:some f∈l.map (L[·]?):=h▸List.mem_map_of_mem b;obtain⟨j,_,e⟩:=zAs.1 g;exact zA3 e
theorem nD {f:aZ} (i:Nat) (h:L[i]? = some f):mD L [f]:=mD.cons (zA3 h) mD.nil
/-- which of the early loads must still hold,with the numbers of what they have read -/
def bsW (A:Nat->V4):V6 (V6 Nat×V6 Nat)->V6 (Nat×V6 aZ×V6 aZ)->V6 (V6 Nat×V6 Nat×V6 aZ×V6 aZ)
  |_,[]=>[]
  |q,(j,Mx,Lx)::B=>bif A j||(Mx.isEmpty&&Lx.isEmpty)then bsW A q B else((q.headD ([],[])).1,(q.headD ([],[])).2,Mx,Lx)::bsW A q.tail B
theorem pB {A:Nat->V4} (q:V6 (V6 Nat×V6 Nat)) {B:V6 (Nat×V6 aZ×V6 aZ)} (h:(bsW A q B).map (λz=>(decide z.1.Nodup,z.1.map (M[·]?),z.2.1.map (L[·]?)))=(bsW A q B).map (λz=>(true,z.2.2.1.map some,z.2.2.2.map some))):uT A M L B:=by
  induction B generalizing q with
  |nil=>exact uT.z
  | cons b B ih =>
    obtain⟨j,k,i⟩:=b;cases a:A j with
    |true=>exact uT.b a (ih q (by simpa [bsW,a]using h))
    | false =>
      cases g:(k.isEmpty&&i.isEmpty)with
      | true =>
        obtain⟨e,f⟩:=Bool.and_eq_true_iff.1 g;rw[List.isEmpty_iff]at e f;subst e;subst f;exact uT.h aX.nil mD.nil (ih q (by simpa [bsW,a]using h))
      | false =>
        simp only[bsW,a,g,Bool.or_self,cond_false,zBd,List.cons.injEq,Prod.mk.injEq]at h;exact uT.h (aX.ix _ h.1.1 h.1.2.1) (mD.ix _ h.1.2.2) (ih q.tail h.2)
def hkB (A:Nat->V4):V6 (Nat×V6 aZ×V6 aZ)->V4
  | []=>true
  |(j,_,_)::H=>bif A j then hkB A H else false
theorem Ow {A:Nat->V4} {f e:V6 aZ} {H:V6 (Nat×V6 aZ×V6 aZ)} (h:hkB A H=true):aO A f e H:=by
  induction H with
  |nil=>exact aO.z
  | cons b B ih =>
    obtain⟨j,_,_⟩:=b;cases a:A j with
    |false=>simp[hkB,a]at h
    |true=>exact aO.b a (ih (by simpa [hkB,a]using h))
theorem UZ {A:Nat->V4} {H:V6 (Nat×V6 aZ×V6 aZ)}:aO A [] [] H:=by
  induction H with
  |nil=>exact aO.z
  |cons b B a=>exact aO.h aX.nil mD.nil a
theorem gE {T:V3} (h:(ev σ T,ev σ x,Nat.blt d n.sz)=(some (.bool true),some v,true)) (k:J c n ((d,v)::σ) M L (wpList P ops Q rest)):J c n σ M L (wpList P ops Q (⟨some d,.pick T x y,ty,pos,aft,none⟩::rest)):=by
  simp only[Prod.mk.injEq]at h;exact aB (La h.1 h.2.1) h.2.2 k
theorem jD {T:V3} (h:(ev σ T,ev σ y,Nat.blt d n.sz)=(some (.bool false),some v,true)) (k:J c n ((d,v)::σ) M L (wpList P ops Q rest)):J c n σ M L (wpList P ops Q (⟨some d,.pick T x y,ty,pos,aft,none⟩::rest)):=by
  simp only[Prod.mk.injEq]at h;exact aB (Pu h.1 h.2.1) h.2.2 k
theorem kF {vs:V6 V0} {i:Nat} (h:(ev σ x,vs[i]?,Nat.blt d n.sz)=(some (.tuple vs.toArray),some v,true)) (k:J c n ((d,v)::σ) M L (wpList P ops Q rest)):J c n σ M L (wpList P ops Q (⟨some d,.extract x i,ty,pos,aft,none⟩::rest)):=by
  simp only[Prod.mk.injEq]at h;exact aB (uU h.1 h.2.1) h.2.2 k
theorem oZ {t a:V9} {i:IntKind} {p q:Int} (h:(ev σ x,ev σ y,Nat.blt d n.sz)=(some (.int i p),some (.int i q),true)) (k:J c n ((d,.bool (decide (p≠q)))::σ) M L (wpList P ops Q rest)):J c n σ M L (wpList P ops Q (⟨some d,.binOp .neq t x y a,ty,pos,aft,none⟩::rest)):=by
  simp only[Prod.mk.injEq]at h;exact aB (Kl h.1 h.2.1) h.2.2 k
theorem BG {t a:V9} {i:IntKind} {p q:Int} (h:(ev σ x,ev σ y,Nat.blt d n.sz)=(some (.int i p),some (.int i q),true)) (k:J c n ((d,.int i (fF i p q))::σ) M L (wpList P ops Q rest)):J c n σ M L (wpList P ops Q (⟨some d,.binOp .and t x y a,ty,pos,aft,none⟩::rest)):=by
  simp only[Prod.mk.injEq]at h;exact aB (VX h.1 h.2.1) h.2.2 k
theorem kG [cO P] {b:Type} {r:eD b} {T E:V9} {f g:Nat} {z:V0} {a:V6 b} (e:aG M L (Sl r v a)) (h:(ev σ x,cO.tab P T,Nat.blt d n.sz)=(some v,some ⟨.slice E,f,g,z⟩,true)) (k:J c n ((d,.int .i64 a.length)::σ) M L (wpList P ops Q rest)):J c n σ M L (wpList P ops Q (⟨some d,.call ⟨.builtin .len,#[x],#[T]⟩,ty,pos,aft,none⟩::rest)):=by
  simp only[Prod.mk.injEq]at h;exact aB (iN h.1 e h.2.1) h.2.2 k
theorem AA {a b:Type} {r:eD a} {e:a->b} {v:V0} {g:V6 a} {f:V6 b} (h:aG M L (Sn r e v g f)):∀c w,St c M L w->one v=true:=Know.one (aG.sl h)
variable {l:V6 V5} {m:V6 Nat} {k0:Nat} {H Bs:V6 (Nat×V6 aZ×V6 aZ)} {rs:V6 Nat}
theorem yP {id:Nat} {r:V6 Nat} (m:V6 Nat) (k0:Nat) (f:P.follows .mixedOrders=true) (h:JR c n σ M L [] [] (RW P l.toArray Q (before m) (eG l) k0 r)) (a:chk l m k0=true:=by decide +kernel) (e:List.range l.length=r:=by exact rfl) (b:l.all kD=true:=by rfl):J c n σ M L ((Code.region id l.toArray true).wpr rd P Q):=JR.start m k0 f a (JR.open e h) b
theorem jL {i a:Nat} {b:Op} (f:l[i]? = some ⟨some a,b,ty,pos,aft,none⟩) (k:Y P c n σ [] [] ⟨some a,b,ty,pos,aft,none⟩ v)
    (h:JR c n ((a,v)::σ) M L H ((i,[],[])::Bs) (RW P l.toArray Q (before m) (eG l) k0 rs))
    (g:Nat.blt i k0=true:=by exact rfl) (j:fI b=false:=by exact rfl) (e:Nat.blt a n.sz=true:=by exact rfl):JR c n σ M L H Bs (RW P l.toArray Q (before m) (eG l) k0 (i::rs)):=bK f aX.nil mD.nil k UZ h g j e
theorem dH {f:aZ} (h:L[0]? =some f):aG M L f:=aG.fact 0 h
theorem yQ {f:aZ} (h:L[1]? =some f):aG M L f:=aG.fact 1 h
theorem DU {f:aZ} (h:L[2]? =some f):aG M L f:=aG.fact 2 h
theorem Dw {f:aZ} (h:L[3]? =some f):aG M L f:=aG.fact 3 h
theorem CN {f:aZ} (h:L[4]? =some f):aG M L f:=aG.fact 4 h
theorem Jf {f:aZ} (h:L[5]? =some f):aG M L f:=aG.fact 5 h
theorem JB {f:aZ} (h:L[6]? =some f):aG M L f:=aG.fact 6 h
theorem GT {f:aZ} (h:L[7]? =some f):aG M L f:=aG.fact 7 h
theorem WY {f:aZ} (h:L[8]? =some f):aG M L f:=aG.fact 8 h
theorem Vk {f:aZ} (h:L[9]? =some f):aG M L f:=aG.fact 9 h
end
end Go.Sx
namespace Go.Sx
abbrev aW:=V6 Int
abbrev gV:=V6 (Int×Int)
abbrev bE:=V6 aW
abbrev fY:=V6 gV
abbrev nM:=ByteArray×(V6 (ByteArray×Int×Int×Int×Int×Int))×(V6 (ByteArray×(V0×gV)×(V0×V6 (Int×(V0×gV)))))
abbrev Kc:=(ByteArray×(V6 (ByteArray×Int×Int×Int×Int×Int))×(V6 (ByteArray×(V0×gV)×(V0×V6 (Int×(V0×gV))))))×((ByteArray×(V6 (ByteArray×Int×Int×Int×Int×Int))×(V6 (ByteArray×(V0×gV)×(V0×V6 (Int×(V0×gV))))))×(aW×fY)×Int×bE)×fY
abbrev Q_:=((ByteArray×(V6 (ByteArray×Int×Int×Int×Int×Int))×(V6 (ByteArray×(V0×gV)×(V0×V6 (Int×(V0×gV))))))×(aW×fY)×Int×bE)×bE×Int×gV
abbrev tQ:=bE×V6 bE×V6 (V6 bE)
abbrev Ed:=(fY×Int×bE×bE×V6 bE×V6 (V6 bE))
abbrev dM:=aW×fY
abbrev EJ:=((aW×aW×bE×(Int×Int×Int×Int×Int))×Int)
abbrev CK:=((bE×V6 bE×V6 (V6 bE))×Int)
abbrev mS:=V6 (V0×gV)
abbrev YW:=(ByteArray×(V6 (ByteArray×Int×Int×Int×Int×Int))×(V6 (ByteArray×(V0×gV)×(V0×V6 (Int×(V0×gV))))))×(aW×fY)×Int×bE
abbrev lI:=V6 (V0×aW)
abbrev Xu:=(((ByteArray×(V6 (ByteArray×Int×Int×Int×Int×Int))×(V6 (ByteArray×(V0×gV)×(V0×V6 (Int×(V0×gV))))))×(aW×fY)×Int×bE)×bE×Int×gV)
abbrev An:=Int×aW×aW×aW×V4×V4
abbrev Gd:=fY×Int×bE×bE×V6 bE×V6 (V6 bE)
abbrev e_:=V6 V0
abbrev Ec:=Int×bE×V6 bE×V6 (V6 bE)
abbrev EV:=(Int×bE×V6 bE×V6 (V6 bE))
abbrev Ao:=((V6 (Int×Int×Int)))
abbrev jF:=(Int×Int)
abbrev TH:=ByteArray×V6 (ByteArray×Int×Int×Int×Int×Int)×V6 (gV×V6 (Int×gV))
abbrev Ge:=ByteArray×Int×Int×Int×Int×Int
abbrev Af:=V6 (Int×Int×Int)
abbrev IX:=V6 (ByteArray×Int×Int×Int×Int×Int)
abbrev Xv:=V0×V6 V0×V6 (V6 V0)×V0×V6 V0×V6 (V6 V0)×V6 (V6 (V6 V0))
abbrev gO:=Int×Int
abbrev acG:=V0×(V6 (V0×aW))×V0×(V6 (V0×V6 (V0×aW)))×V0×(V6 (V0×V6 (V0×V6 (V0×aW))))
abbrev Xw:=(ByteArray×V6 (ByteArray×Int×Int×Int×Int×Int)×V6 (gV×V6 (Int×gV)))
abbrev IY:=Int×V6 bE×V6 (V6 bE)
abbrev vW:=((aW×fY))
abbrev OP:=V6 (V0×V6 (V0×V6 (V0×aW)))
abbrev IZ:=Int×(V6 (Int×Int×Int))
abbrev Nq:=(Int×V6 bE×V6 (V6 bE))
abbrev KB:=Int×(V6 ((Int×Int)×Int))
abbrev KC:=(Int×(V6 (Int×Int×Int)))
abbrev Ho:=Int×Int×Int×Int×Int
abbrev EW:=V6 (V6 V0)
abbrev OQ:=V6 (V0×V6 (V0×aW))
abbrev OS:=(Int×(V6 ((Int×Int)×Int)))
abbrev rR:=V6 Nat
abbrev OT:=V6 (gV×V6 (Int×gV))
abbrev Gf:=V6 (V6 bE)
abbrev Hp:=V0×V6 V0
abbrev Dh:=(aW×fY)
abbrev Hr:=(Int×Int×bE)
abbrev Xx:=(ByteArray×Int×Int×Int×Int×Int)
abbrev I_:=V6 (Nat×Nat)
abbrev Bm:=V6 bE
abbrev TI:=(Int×V4×V4×Int×Int)
abbrev acH:=Int×Int×Int×Int×Int×Int×aW×aW×bE
abbrev TJ:=V6 (V6 (V6 V0))
abbrev acI:=((V6 (ByteArray×Int×Int×Int×Int×Int)))
abbrev acJ:=(V6 (ByteArray×Int×Int×Int×Int×Int))
abbrev Di:=Int×aW
abbrev Dj:=Int×bE
abbrev eV:V0:=Value.slice none 0 0
abbrev KD:V6 V0:=[eV,eV,eV,vI (0:Int),vI (0:Int),vI (0:Int),vI (0:Int),vU (0:Int)]
abbrev vD1:V6 V0:=[vI (0:Int),vI (0:Int),vI (0:Int),vI (0:Int),vU (0:Int)]
abbrev vD2:V6 V0:=[Value.pointer none,eV,vI (0:Int),vU (0:Int),Value.nilFunc]
abbrev Uj:V6 V0:=[vI (0:Int),vI (0:Int)]
abbrev vD4:V6 V0:=[vS (ByteArray.mk #[]),vI (0:Int),vI (0:Int),vI (0:Int),vI (0:Int),vI (0:Int)]
abbrev vD5:V6 V0:=[vI (0:Int),vB (false),vB (false),vI (0:Int),vI (0:Int)]
end Go.Sx
namespace Go.Sx
open Go.RowKit
section
variable {P:Program} {c:wJ} {n:Sz} {σ:Fr} {M L:V6 aZ} {d:V1 Tmp} {ty:V9} {pos:String} {aft:Array Edge} {g:V1 (Nat×V4)} {α:Type} {e:bI α} {r:eD α}
def Cfg {α:Type} (e:bI α) (v:V0) (l:V6 V0) (i:V6 (V6 α)):aZ where
 p w F:=∃A B:Nat->Prop,Bo bI.raw w A v l/\(fE e l i).p w B/\(∀k,A k->F k)/\(∀k,B k->F k)/\∀k,A k->¬B k
 mono:=by
  rintro w x S u ⟨A,B,s,t,m,o,q⟩ j;exact⟨λk=>A k/\k<w.heap.size,λk=>B k/\k<w.heap.size,(Ar bI.raw v l).mono s λk f h=>⟨⟨f,h⟩,(j k (m k f) h).2⟩,(fE e l i).mono t λk f h=>⟨⟨f,h⟩,(j k (o k f) h).2⟩,λk f=>(j k (m k f.1) f.2).1,λk f=>(j k (o k f.1) f.2).1,λk a b=>q k a.1 b.1⟩
def AJ {α:Type} (e:bI α) (vs:V6 V0) (wss:V6 (V6 V0)) (xsss:V6 (V6 (V6 α))):aZ where
 p w F:=(vs.length=xsss.length/\wss.length=xsss.length)/\∃G:Nat->Nat->Prop,(∀i v h a,vs[i]? = some v->wss[i]? = some h->xsss[i]? = some a->(Cfg e v h a).p w (G i))/\(∀i k,G i k->F k)/\∀i j k,G i k->G j k->i=j
 mono:=by
  rintro w B S A ⟨u,G,o,l,q⟩ m;exact⟨u,λi k=>G i k/\k<w.heap.size,λi v h a x y z=>(Cfg e v h a).mono (o i v h a x y z) λk b f=>⟨⟨b,f⟩,(m k (l i k b) f).2⟩,λi k b=>(m k (l i k b.1) b.2).1,λi j k s t=>q i j k s.1 t.1⟩
theorem Av (e:bI α):eT M L (AJ e [] [] []::M) L:=eT.add λw=>⟨⟨rfl,rfl⟩,λ_ _=>False,λi v f b a=>by simp at a,λ_ _ h=>h,λ_ _ _ h=>h.elim⟩
theorem Ic (i j:Nat) {v:V0} {f:V6 V0} {a:V6 (V6 α)} (b:Nat.beq i j=false) (m:M[i]? = some (Ar bI.raw v f)) (o:M[j]? = some (fE e f a)):eT M L ((M.set i (Cfg e v f a)).eraseIdx j) L:=λc w t=>
 t.merge i j (λe=>by subst e;simp at b) m o λh k l=>⟨_,_,h,k,λ_=> .inl,λ_=> .inr,l⟩
theorem Ei (i j:Nat) {u:V0} {F:V6 V0} {p:V6 (V6 α)} {vs:V6 V0} {l:V6 (V6 V0)} {b:V6 (V6 (V6 α))} (x:Nat.beq i j=false) (Q:M[i]? = some (AJ e vs l b)) (R:M[j]? = some (Cfg e u F p)):eT M L ((M.set i (AJ e (vs++[u]) (l++[F]) (b++[p]))).eraseIdx j) L:=λc w t=>
 t.merge i j (λe=>by subst e;simp at x) Q R (by
  rintro w T H ⟨⟨y,z⟩,G,I,s,J⟩ O C;refine⟨⟨by simp[y],by simp[z]⟩,λq k=>(q<vs.length/\G q k)\/(q=vs.length/\H k),?_,?_,?_⟩
  .intro q v S B h m o;by_cases D:q<vs.length
   .rw[zAc D]at h;rw[zAc V7]at m o;exact aZ.same (I q v S B h m o) (λk a=> .inl ⟨D,a⟩) (λ_ _ _=>rfl)
   .rw[zAb V7]at h m o;have A:q - vs.length=0:=by have:=bB h;simp at this;omega
    rw[A]at h;rw[show q - l.length=0 by omega]at m;rw[show q - b.length=0 by omega]at o;simp at h m o;subst h;subst m;subst o;exact aZ.same O (λk a=> .inr ⟨V7,a⟩) (λ_ _ _=>rfl)
  .rintro q k (⟨_,a⟩|⟨_,a⟩)
   .exact .inl (s q k a)
   .exact .inr a
  .rintro q E k (⟨K,a⟩|⟨K,a⟩) (⟨N,f⟩|⟨N,f⟩)
   .exact J q E k a f
   .exact absurd f (C k (s q k a))
   .exact absurd a (C k (s E k f))
   .omega)
theorem Hu (i j:Nat) {K vs:V6 V0} {s m:V6 (V6 V0)} {h f:V6 (V6 (V6 α))} (B:Nat.beq i j=false) (U:M[i]? = some (AJ e vs m f)) (V:M[j]? = some (AJ e K s h)):eT M L ((M.set i (AJ e (vs++K) (m++s) (f++h))).eraseIdx j) L:=λc w t=>
 t.merge i j (λe=>by subst e;simp at B) U V (by
  rintro w W X ⟨⟨C,D⟩,G,Q,z,R⟩ ⟨⟨E,F⟩,O,y,l,A⟩ H;refine⟨⟨by simp[C,E],by simp[D,F]⟩,λq k=>(q<vs.length/\G q k)\/(vs.length<=q/\O (q - vs.length) k),?_,?_,?_⟩
  .intro q v N u x o p;by_cases I:q<vs.length
   .rw[zAc I]at x;rw[zAc V7]at o p;exact aZ.same (Q q v N u x o p) (λk a=> .inl ⟨I,a⟩) (λ_ _ _=>rfl)
   .rw[zAb V7]at x o p;rw[show q - m.length=q - vs.length by omega]at o;rw[show q - f.length=q - vs.length by omega]at p;exact aZ.same (y _ v N u x o p) (λk a=> .inr ⟨V7,a⟩) (λ_ _ _=>rfl)
  .rintro q k (⟨_,a⟩|⟨_,a⟩)
   .exact .inl (z q k a)
   .exact .inr (l _ k a)
  .rintro q J k (⟨S,a⟩|⟨S,a⟩) (⟨T,b⟩|⟨T,b⟩)
   .exact R q J k a b
   .exact absurd (l _ k b) (H k (z q k a))
   .exact absurd (l _ k a) (H k (z J k b))
   .have:=A _ _ k a b;omega)
theorem wK (q:Nat) {vs:V6 V0} {wss:V6 (V6 V0)} {xsss:V6 (V6 (V6 α))} (a:M[q]? = some (AJ e vs wss xsss)):∀c w,St c M L w->vs.length=xsss.length:=λc w t=>by
 obtain⟨_,h⟩:=t.res a;exact h.1.1
end
section
variable {P:Program} {c:wJ} {n:Sz} {σ:Fr} {M L:V6 aZ} {d:V1 Tmp} {ty:V9} {pos:String} {aft:Array Edge} {g:V1 (Nat×V4)} {α:Type} {e:bI α}
theorem ZM [cO P] {T:V9} {G H l m:Nat} {z o:V0} {j:Array Field} {E I F:String} {r:V4} {k b p:Nat} {h:TypeDesc} {x:V3} {vs:V6 V0} {v:V0} {f:Nat} (D:ev σ x=some (.agg vs.toArray))
  (y:cO.tab P T=some ⟨.struct j,G,H,z⟩) (B:j[f]? = some ⟨E,k,b,r,I,F,p⟩) (u:cO.tab P k=some ⟨h,l,m,o⟩) (A:yA h=false) (C:vs[b]? = some v):
  Y P c n σ M L ⟨d,.field T x f,ty,pos,aft,g⟩ v:=λa w s t=>by
 have i:=(cO.ok u).run_agg w;have q:yA (Ty.mk h l m o).desc=false:=A;rw[q]at i;simp[execOp,s.eval D,Instr.field,(cO.ok y).run_und w,B,asAgg,part,i,C]
end
def Pw {e g:Type} (f:e->g->aZ) (c:V6 e) (d:V6 g):aZ where
 p w S:=c.length=d.length/\∀(i:Nat) a b,c[i]? = some a->d[i]? = some b->(f a b).p w S
 mono:=fun⟨j,k⟩ h=>⟨j,λi a b l m=>(f a b).mono (k i a b l m) h⟩
abbrev sW {a:Type} (r:eD a):e_->V6 (V6 a)->aZ:=Pw (Sl r)
abbrev Dl {a:Type} (r:eD a):EW->V6 (V6 (V6 a))->aZ:=Pw (sW r)
abbrev Gm {a:Type} (r:eD a):TJ->V6 (V6 (V6 (V6 a)))->aZ:=Pw (Dl r)
def eD.raw:eD V0:=⟨1,Nat.one_pos,λ_ _ cs x=>cs=[x],λh=>by simp[h],λh _=>h⟩
theorem Ji {w:V2} {F:Nat->Prop} {v:V0} {d:e_} (h:Bo bI.raw w F v d):Fc eD.raw w F v d:=by
 have f:=h;obtain⟨q,_,k⟩:=h;rcases k with⟨rfl,rfl⟩|⟨b,c,a,T,e,rfl,g,n,p,o,r⟩
 .exact⟨none,0,rfl,V8,.inl Z⟩
 .refine⟨_,a,rfl,V7,.inr ⟨b,c,rfl,g,λi x m=>⟨[x],λj u l=> ?_,rfl⟩⟩⟩
  have:=Bo.cell f m (j:=j) (u:=u) l;simp only[KH,eM]at this;exact this
theorem pQ:eD.raw.Cell 0 (λx=>x):=λh=>by simp[show _=[_]from h]
section
variable {M L:V6 aZ} {α β:Type} {f:α->β->aZ} {la cs:V6 α} {lb ds:V6 β} {a:α} {b:β}
theorem fJ:aG M L (Pw f [] []):=λ_ _ _ _ _ _ _ _=>⟨rfl,λi a b c=>by simp at c⟩
theorem Ru (n:Nat) (h:aG M L (f a b)):aG M L (Pw f (List.replicate n a) (List.replicate n b)):=λw S T U c d e g=>⟨V8,λi x y j k=>by
 obtain⟨_,rfl⟩:=List.mem_replicate.1 (zA3 j);obtain⟨_,rfl⟩:=List.mem_replicate.1 (zA3 k);exact h w S T U c d e g⟩
theorem iW (h:aG M L (Pw f la lb)) (k:aG M L (Pw f cs ds)):aG M L (Pw f (la++cs) (lb++ds)):=λw S T U j l m n=>by
 obtain⟨g,o⟩:=h w S T U j l m n;obtain⟨p,q⟩:=k w S T U j l m n;refine⟨by simp[g,p],λi x y c d=> ?_⟩
 by_cases e:i<la.length
 .rw[zAc e]at c;rw[zAc V7]at d;exact o i x y c d
 .rw[zAb V7]at c;rw[zAb V7,<-g]at d;exact q _ x y c d
theorem Rt (h:aG M L (f a b)):aG M L (Pw f [a] [b]):=Ru 1 h
theorem kA (h:aG M L (f a b)) (k:aG M L (Pw f la lb)):aG M L (Pw f (a::la) (b::lb)):=iW (Rt h) k
theorem pO (k:Nat) (h:aG M L (Pw f la lb)) (g:aG M L (f a b)):aG M L (Pw f (la.set k a) (lb.set k b)):=λw S T U j l m n=>by
 obtain⟨o,p⟩:=h w S T U j l m n;refine⟨by simp[o],λi x y c d=> ?_⟩
 by_cases e:k=i
 .subst e;have q:=bB c;have r:=bB d;rw[zAj (by simpa using q)]at c;rw[zAj (by simpa using r)]at d;cases c;cases d;exact g w S T U j l m n
 .rw[zAq e]at c d;exact p i x y c d
theorem cH [Inhabited α] [Inhabited β] {k:Int} (h:aG M L (Pw f la lb)) (c:0<=k) (e:k<lb.length):aG M L (f (at' la k) (at' lb k)):=h.mono λ{w U} hp=>by
 obtain⟨g,d⟩:=hp;exact d k.toNat _ _ (cG c V7) (cG c e)
theorem Pq (m:Nat) (h:aG M L (Pw f la lb)):aG M L (Pw f (la.take m) (lb.take m)):=h.mono λ{w U} hp=>by
 obtain⟨e,g⟩:=hp;refine⟨by simp[e],λi x y c d=> ?_⟩
 rw[zAt]at c d;split at c
 .rename_i h;rw[if_pos h]at d;exact g i x y c d
 .cases c
theorem Pp (m:Nat) (h:aG M L (Pw f la lb)):aG M L (Pw f (la.drop m) (lb.drop m)):=h.mono λ{w U} hp=>by
 obtain⟨e,g⟩:=hp;refine⟨by simp[e],λi x y c d=> ?_⟩
 rw[zAu]at c d;exact g _ x y c d
theorem bM (h:aG M L (Pw f la lb)):∀c w,St c M L w->la.length=lb.length:=λc w t=>by
 obtain⟨S,d⟩:=h.st t;exact d.1
theorem rV {r:eD α} {e:bI α} {j:Nat} {vs:V6 V0} {d:V6 (V6 α)} (m:M[j]? = some (fE e vs d)) (c:e.Fits r):aG M L (sW r vs d):=λw S T U u k x l=>by
 obtain⟨n,G,g,h,_⟩:=k j _ m;exact⟨n,λi v t p s=>(Bo.sl c (g i v t p s)).mono λq o _=>⟨l j q (h _ q o),rfl⟩⟩
theorem dJ {g:aZ} (h:aG [] L g):eT M L M (g::L):=λc w ⟨k,F,e,d⟩=>⟨k,F,e,λx hx=>by
 rcases zAo.1 hx with rfl|hx
 .exact h w (Dk c F) (λ_ _=>False) (Dk c F) d (λi m j=>by simp at j) (λ_ h=>h) (λ_ _ h=>h.elim)
 .exact d x hx⟩
theorem BZ (n q:V6 aZ) {g:aZ} (u:aX M (n++q)) (h:aG n L g):eT M L q (g::L):=λc w t=>by
 obtain⟨v,F,o,s⟩:=t.weak u (λ_ h=>h);refine⟨v,λi k=>i<q.length/\F (i+n.length) k,⟨λi m p=> ?_,λi k d=>o.rng _ k d.2,λi j k e r=>by have:=o.dis _ _ k e.2 r.2;omega⟩,λx hx=> ?_⟩
 .have e:=bB p;exact aZ.same (o.res (i+n.length) m (by rw[zAb V7,Nat.add_sub_cancel];exact p)) (λk d=>⟨e,d⟩) (λ_ _ _=>rfl)
 .have l:∀k,Dk c F k->Dk c (λi k=>i<q.length/\F (i+n.length) k) k:=λk d=>⟨d.1,λi e=>d.2 _ e.2⟩
  rcases zAo.1 hx with rfl|hx
  .refine h w (Dk c F) (λi k=>i<n.length/\F i k) _ s (λi m p=> ?_) l (λi k d=> ?_)
   .have e:=bB p;exact aZ.same (o.res i m (by rw[zAc e];exact p)) (λk d=>⟨e,d⟩) (λ_ _ _=>rfl)
   .refine⟨.inr (o.rng i k d.2).1,λj r=> ?_⟩
    have:=o.dis _ _ k d.2 r.2;omega
  .exact aZ.same (s x hx) l (λ_ _ _=>rfl)
end
section
variable {M L:V6 aZ} {α β γ:Type} {e:bI α} {r:eD α}
abbrev S3 (r:eD α) (v:V0) (a:V6 (V0×V6 (V0×V6 α))) (x:V6 (V6 (V6 α))):aZ:=Sn (eD.sl (eD.sl r)) (λz=>z.2.map λy=>y.2) v a x
abbrev S4 (r:eD α) (v:V0) (a:V6 (V0×V6 (V0×V6 (V0×V6 α)))) (x:V6 (V6 (V6 (V6 α)))):aZ:=Sn (eD.sl (eD.sl (eD.sl r))) (λz=>z.2.map λy=>y.2.map λq=>q.2) v a x
theorem eL {q:eD γ} {c:γ->β} {v:V0} {b:V6 (V0×V6 γ)} {a:V6 (V6 β)} {i:Int} (h:aG M L (Sn (eD.sl q) (λz=>z.2.map c) v b a)) (d:0<=i) (f:i<a.length):aG M L (Sn q c (at' b i).1 (at' b i).2 (at' a i)):=h.mono λ{w U} h=>by
 obtain⟨h,g⟩:=h;have j:i<b.length:=by rw[<-g]at f;simpa using f
 obtain⟨l,k,_⟩:=sl_cell h (cG d j);exact⟨k.2,by rw[<-g,Wh _ d j]⟩
theorem n_ {P:Program} [cO P] {c:wJ} {n:Sz} {p:Fr} {d:V1 Tmp} {F:V9} {k:String} {j:Array Edge} {g:V1 (Nat×V4)} {T:V9} {D E:Nat} {z:V0} {l:TypeDesc} {x:V3} {q:eD γ} {u:V0×V6 γ->β} {v:V0} {i:Int} {o:V6 (V0×V6 γ)} {b:V6 β} (C:ev p x=some (Er v (i.toNat*1))) (m:aG M L (Sn (eD.sl q) u v o b))
  (A:cO.tab P T=some ⟨l,D,E,z⟩) (B:yA l=false) (h:0<=i/\i<b.length):Y P c n p M L ⟨d,.load T x,F,k,j,g⟩ (at' o i).1:=λa w s t=>by
 obtain⟨_,y⟩:=m.st t;exact cK (r:=eD.sl q) (f:=λz=>z.1) C m.sl A B Z (eD.sl_cell q) (by rw[Sn.len y];exact h) a w s t
theorem JS {q:eD γ} {w:V2} {S F:Nat->Prop} {v:V0} {c:V6 V0} {d:V6 (V0×V6 γ)} (m:Bo bI.raw w F v c) (n:c.length=d.length) (C:∀(i:Nat) u z,c[i]? = some u->d[i]? = some z->z.1=u/\Fc q w S z.1 z.2) (A:∀k,F k->S k):Fc (eD.sl q) w S v d:=by
 have g:=m;obtain⟨K,_,B⟩:=m;rcases B with⟨rfl,rfl⟩|⟨b,l,f,E,s,rfl,h,G,J,H,N⟩
 .have:d=[]:=zAn (by simpa using n.symm);subst this;exact⟨none,0,rfl,V8,.inl Z⟩
 .refine⟨_,f,by rw[n],V7,.inr ⟨b,l,rfl,A _ h,λi x p=> ?_⟩⟩
  have I:=bB p;have o:c[i]? = some (c[i]'V7):=zA0 _;obtain⟨t,y⟩:=C i _ x o p;refine⟨[x.1],λD u a=> ?_,rfl,y⟩
  rw[t]at a;have:=Bo.cell g o (j:=D) (u:=u) a;simp only[KH,eM]at this;exact this
def Z3 (vs:V6 V0) (wss:V6 (V6 V0)) (xsss:V6 (V6 (V6 α))):V6 (V0×V6 (V0×V6 α)):=vs.zip (List.zipWith List.zip wss xsss)
def Z4 (us:V6 V0) (wss:V6 (V6 V0)) (a:V6 (V6 (V6 V0))) (y:V6 (V6 (V6 (V6 α)))):V6 (V0×V6 (V0×V6 (V0×V6 α))):=us.zip (List.zipWith (λb p=>Z3 b p.1 p.2) wss (a.zip y))
theorem QA {w:V2} {S F:Nat->Prop} {v:V0} {d:V6 V0} {a:V6 (V6 α)} (j:Bo bI.raw w F v d) (b:(sW r d a).p w S) (l:∀k,F k->S k):Fc (eD.sl r) w S v (d.zip a):=by
 obtain⟨m,b⟩:=b;refine JS j (by simp[m]) (λi u z g c=> ?_) l;rw[List.getElem?_zip_eq_some]at c;rw[g]at c;obtain⟨f,h⟩:=c;refine⟨(Option.some.inj f).symm,b i _ _ ?_ h⟩
 rw[g];exact f
theorem Vs {w:World} {S F:Nat->Prop} {v:V0} {vs:List V0} {wss:List (List V0)} {xsss:List (List (List α))} (hA:Bo bI.raw w F v vs) (hR:(fE bI.raw vs wss).p w F) (hP:(Dl r wss xsss).p w S) (hF:∀k,F k->S k):Fc (eD.sl (eD.sl r)) w S v (Z3 vs wss xsss)/\(Z3 vs wss xsss).map (λz=>z.2.map λy=>y.2)=xsss:=by
 obtain⟨hl,hP⟩:=hP;obtain⟨hl2,G,g1,g2,_⟩:=hR;unfold Z3;refine⟨JS hA (by simp[hl2,hl]) (λi u z hu hz=> ?_) hF,?_⟩
 .rw[List.getElem?_zip_eq_some]at hz;obtain⟨h1,h2⟩:=hz;rw[hu]at h1;have h1:=Option.some.inj h1;rw[List.getElem?_zipWith]at h2;split at h2
  .rename_i ws xss hws hxs;have h2:=Option.some.inj h2;have:=QA (g1 i u ws hu hws) (hP i ws xss hws hxs) (λk hk=>hF k (g2 i k hk));refine⟨h1.symm,?_⟩
   rw[<-h1,<-h2];exact this
  .cases h2
 .refine List.ext_getElem? λi=> ?_;rw[List.getElem?_map];by_cases hi:i<xsss.length
  .have e1:vs[i]? = some (vs[i]'(by omega)):=zA0 _;have e2:wss[i]? = some (wss[i]'(by omega)):=zA0 _;have e3:xsss[i]? = some (xsss[i]'hi):=zA0 _;have e4:(vs.zip (List.zipWith List.zip wss xsss))[i]? = some (vs[i]'(by omega),(wss[i]'(by omega)).zip (xsss[i]'hi)):=by
    rw[List.getElem?_zip_eq_some];exact⟨e1,by rw[List.getElem?_zipWith,e2,e3]⟩
   rw[e4,e3];simp only[Option.map_some,Option.some.injEq];rw[List.map_snd_zip];have:=(hP i _ _ e2 e3).1;omega
  .rw[zAp (by simp;omega),zAp (by omega)];rfl
theorem dN {i j:Nat} {v:V0} {vs:V6 V0} {a:V6 (V6 α)} (h:M[i]? = some (Ar bI.raw v vs)) (k:L[j]? = some (sW r vs a)):aG M L (S2 r v (vs.zip a) a):=λw S T U c d f g=>by
 have b:=aZ.wide (c _ (zA3 k)) f;refine⟨QA (d i _ h) b (g i),?_⟩
 rw[List.map_snd_zip];have:=b.1;omega
theorem kW {i q j:Nat} {v:V0} {vs:V6 V0} {wss:V6 (V6 V0)} {xsss:V6 (V6 (V6 α))} (f:M[i]? = some (Ar bI.raw v vs)) (k:M[q]? = some (fE bI.raw vs wss)) (g:L[j]? = some (Dl r wss xsss)):aG M L (S3 r v (Z3 vs wss xsss) xsss):=λw S T U c a d b=>
 Vs (F:=U) (aZ.wide (a i _ f) (b i)) (aZ.wide (a q _ k) (b q)) (aZ.wide (c _ (zA3 g)) d) (λ_ h=>h)
theorem tY {i q j:Nat} {v:V0} {us:V6 V0} {wss:V6 (V6 V0)} {a:V6 (V6 (V6 V0))} {y:V6 (V6 (V6 (V6 α)))} (hi:M[i]? = some (Ar bI.raw v us)) (hq:M[q]? = some (AJ bI.raw us wss a)) (hj:L[j]? = some (Gm r a y)):aG M L (S4 r v (Z4 us wss a y) y):=λw S T U V I X J=>by
 obtain⟨hl,W⟩:=aZ.wide (V _ (zA3 hj)) X;obtain⟨⟨l1,l2⟩,G,Q,H,_⟩:=aZ.wide (I q _ hq) (J q);have R:=aZ.wide (I i _ hi) (J i);have c:∀(m:Nat) u z,us[m]? = some u->(Z4 us wss a y)[m]? = some z->z.1=u/\Fc (eD.sl (eD.sl r)) w U z.1 z.2/\∃x,y[m]? = some x/\z.2.map (λy=>y.2.map λq=>q.2)=x:=by
  intro m u z o d;unfold Z4 at d;rw[List.getElem?_zip_eq_some]at d;obtain⟨g,b⟩:=d;rw[o]at g;have g:=Option.some.inj g;rw[List.getElem?_zipWith]at b;split at b
  .rename_i K p D n;rw[List.getElem?_zip_eq_some]at n;have b:=Option.some.inj b;obtain⟨A,B,s,t,N,O,_⟩:=Q m u K p.1 o D n.1;have:=Vs (r:=r) (F:=U) (aZ.wide (f:=Ar bI.raw u K) s (λk C=>H m k (N k C))) (aZ.wide t (λk C=>H m k (O k C))) (W m p.1 p.2 n.1 n.2) (λ_ h=>h);refine⟨g.symm,?_,p.2,n.2,?_⟩
   .rw[<-g,<-b];exact this.1
   .rw[<-b];exact this.2
  .cases b
 have l:us.length=(Z4 us wss a y).length:=by unfold Z4;simp;omega
 refine⟨JS (F:=U) R l (λm u z o d=>⟨(c m u z o d).1,(c m u z o d).2.1⟩) (λ_ h=>h),?_⟩
 refine List.ext_getElem? λm=> ?_;rw[List.getElem?_map];by_cases hm:m<us.length
 .have P:us[m]? = some (us[m]'hm):=zA0 _;have E:(Z4 us wss a y)[m]? = some ((Z4 us wss a y)[m]'V7):=zA0 _;obtain⟨_,_,x,hx,Y⟩:=c m _ _ P E;rw[E,hx,Option.map_some];exact congrArg some Y
 .rw[zAp V7,zAp V7];rfl
theorem Jl {q j:Nat} {vs:V6 V0} {wss:V6 (V6 V0)} {xsss:V6 (V6 (V6 α))} {k:Int} (p:M[q]? = some (fE bI.raw vs wss)) (n:L[j]? = some (Dl r wss xsss)) (a:0<=k) (f:k<xsss.length):aG M L (S2 r (at' vs k) ((at' wss k).zip (at' xsss k)) (at' xsss k)):=λw S T U g h l m=>by
 obtain⟨s,i⟩:=aZ.wide (g _ (zA3 n)) l;obtain⟨o,G,c,d,_⟩:=aZ.wide (h q _ p) (m q);have b:=i k.toNat _ _ (cG a V7) (cG a f);refine⟨QA (c k.toNat _ _ (cG a V7) (cG a V7)) b (d _),?_⟩
 rw[List.map_snd_zip];have:=b.1;omega
theorem NT {q j:Nat} {us:V6 V0} {wss:V6 (V6 V0)} {a:V6 (V6 (V6 V0))} {y:V6 (V6 (V6 (V6 α)))} {k:Int} (D:M[q]? = some (AJ bI.raw us wss a)) (x:L[j]? = some (Gm r a y)) (b:0<=k) (o:k<y.length):aG M L (S3 r (at' us k) (Z3 (at' wss k) (at' a k) (at' y k)) (at' y k)):=λw S T U p s u v=>by
 obtain⟨E,t⟩:=aZ.wide (p _ (zA3 x)) u;obtain⟨⟨H,I⟩,G,n,i,_⟩:=aZ.wide (s q _ D) (v q);have C:=t k.toNat _ _ (cG b V7) (cG b o);obtain⟨A,B,c,d,l,m,_⟩:=n k.toNat _ _ _ (cG b V7) (cG b V7) (cG b V7);exact Vs (r:=r) (F:=U) (aZ.wide (f:=Ar bI.raw _ _) c (λz g=>i _ z (l z g))) (aZ.wide d (λz g=>i _ z (m z g))) C (λ_ h=>h)
theorem Jk {q j:Nat} {us:V6 V0} {wss:V6 (V6 V0)} {a:V6 (V6 (V6 V0))} {y:V6 (V6 (V6 (V6 α)))} {k b:Int} (H:M[q]? = some (AJ bI.raw us wss a)) (C:L[j]? = some (Gm r a y)) (h:0<=k/\k<y.length) (c:0<=b/\b<(at' y k).length):aG M L (S2 r (at' (at' wss k) b) ((at' (at' a k) b).zip (at' (at' y k) b)) (at' (at' y k) b)):=λw S T U s t v x=>by
 obtain⟨N,u⟩:=aZ.wide (s _ (zA3 C)) v;obtain⟨⟨O,P⟩,G,n,o,_⟩:=aZ.wide (t q _ H) (x q);have E:=u k.toNat _ _ (cG h.1 V7) (cG h.1 h.2);obtain⟨A,B,p,f,K,i,_⟩:=n k.toNat _ _ _ (cG h.1 V7) (cG h.1 V7) (cG h.1 V7);obtain⟨D,J,l,m,_⟩:=f;obtain⟨F,g⟩:=E;have d:=g b.toNat _ _ (cG c.1 V7) (cG c.1 c.2);refine⟨QA (l b.toNat _ _ (cG c.1 V7) (cG c.1 V7)) d (λz I=>o _ z (i z (m _ z I))),?_⟩
 rw[List.map_snd_zip];have:=d.1;omega
theorem Ki {q:Nat} {vs:V6 V0} {wss:V6 (V6 V0)} {k:Int} (i:M[q]? = some (fE bI.raw vs wss)) (a:0<=k) (d:k<wss.length):aG M L (Sl eD.raw (at' vs k) (at' wss k)):=λw S T U l f m g=>by
 obtain⟨h,G,b,c,_⟩:=aZ.wide (f q _ i) (g q);exact(Ji (b k.toNat _ _ (cG a V7) (cG a d))).mono λz j _=>⟨c _ z j,rfl⟩
theorem A_ {q:Nat} {us:V6 V0} {wss:V6 (V6 V0)} {a:V6 (V6 (V6 V0))} {k:Int} (m:M[q]? = some (AJ bI.raw us wss a)) (b:0<=k) (h:k<a.length):aG M L (Sl eD.raw (at' us k) (at' wss k)):=λw S T U p j s l=>by
 obtain⟨⟨t,u⟩,G,f,g,_⟩:=aZ.wide (j q _ m) (l q);obtain⟨A,B,c,i,d,o,_⟩:=f k.toNat _ _ _ (cG b V7) (cG b V7) (cG b h);exact(Ji c).mono λz n _=>⟨g _ z (d z n),rfl⟩
theorem Rs {q:Nat} {us:V6 V0} {wss:V6 (V6 V0)} {a:V6 (V6 (V6 V0))} {k b:Int} (s:M[q]? = some (AJ bI.raw us wss a)) (h:0<=k/\k<a.length) (c:0<=b/\b<(at' a k).length):aG M L (Sl eD.raw (at' (at' wss k) b) (at' (at' a k) b)):=λw S T U x n y o=>by
 obtain⟨⟨C,D⟩,G,j,l,_⟩:=aZ.wide (n q _ s) (o q);obtain⟨A,B,m,d,v,f,_⟩:=j k.toNat _ _ _ (cG h.1 V7) (cG h.1 V7) (cG h.1 h.2);obtain⟨p,u,g,i,_⟩:=d;exact(Ji (g b.toNat _ _ (cG c.1 V7) (cG c.1 c.2))).mono λz t _=>⟨l _ z (f z (i _ z t)),rfl⟩
theorem Ie (j:Nat) {vs:V6 V0} {wss:V6 (V6 V0)} {xsss:V6 (V6 (V6 α))} {k:Int} (Y:M[j]? = some (AJ e vs wss xsss)) (x:0<=k/\k<xsss.length):eT M L (Ar bI.raw (at' vs k) (at' wss k)::fE e (at' wss k) (at' xsss k)::M.set j (AJ e (vs.set k.toNat (.slice none 0 0)) (wss.set k.toNat []) (xsss.set k.toNat []))) L:=by
 rintro c w ⟨ho,F,l,hL⟩;obtain⟨⟨I,J⟩,G,X,p,D⟩:=l.res j _ Y;have K:=bB Y;obtain⟨A,B,hA,hB,P,Q,R⟩:=X k.toNat _ _ _ (cG x.1 V7) (cG x.1 V7) (cG x.1 x.2);have t:∀b,A b->F j b:=λb h=>p _ b (P b h);have u:∀b,B b->F j b:=λb h=>p _ b (Q b h);refine⟨ho,λq b=>(q=0/\A b)\/(q=1/\B b)\/∃r,q=r+2/\((r=j/\∃j',j'≠k.toNat/\G j' b)\/(r≠j/\F r b)),⟨?_,?_,?_⟩,λf H=> ?_⟩
 .intro q m n
  match q,n with
  |0,n=>
   obtain rfl:=Option.some.inj n;exact aZ.same hA (λb d=> .inl ⟨rfl,d⟩) (λ_ _ _=>rfl)
  |1,n=>
   obtain rfl:=Option.some.inj n;exact aZ.same hB (λb d=> .inr (.inl ⟨rfl,d⟩)) (λ_ _ _=>rfl)
  | r + 2, n =>
   have n:(M.set j _)[r]? = some m:=n;by_cases C:r=j
   .subst C;rw[zAj K]at n;cases n;refine⟨by simp[I,J],λj' q=>j'≠k.toNat/\G j' q,λj' v ws O s y z=> ?_,λj' q N=> .inr (.inr ⟨r,rfl,.inl ⟨rfl,j',N⟩⟩),λj1 j2 q h1 h2=>D _ _ q h1.2 h2.2⟩
    by_cases o:j'=k.toNat
    .subst o;rw[zAj V7]at s;rw[zAj V7]at y;rw[zAj V7]at z;cases s;cases y;cases z;exact⟨λ_=>False,λ_=>False,⟨V8,rfl,.inl ⟨rfl,rfl⟩⟩,⟨rfl,λ_ _=>False,λi v xs s=>by simp at s,λ_ _ h=>h,λ_ _ _ h=>h.elim⟩,λ_ h=>h.elim,λ_ h=>h.elim,λ_ h=>h.elim⟩
    .rw[zAq (Ne.symm o)]at s y z;exact aZ.same (X j' v ws O s y z) (λq N=>⟨o,N⟩) (λ_ _ _=>rfl)
   .rw[zAq (Ne.symm C)]at n;exact aZ.same (l.res r m n) (λb d=> .inr (.inr ⟨r,rfl,.inr ⟨C,d⟩⟩)) (λ_ _ _=>rfl)
 .rintro q b (⟨_,d⟩|⟨_,d⟩|⟨r,_,⟨_,j',_,d⟩|⟨_,d⟩⟩)
  .exact l.rng _ b (t b d)
  .exact l.rng _ b (u b d)
  .exact l.rng _ b (p _ b d)
  .exact l.rng _ b d
 .have S:∀b j',A b->j'≠k.toNat->¬G j' b:=λb j' h g E=>g (D _ _ b E (P b h));have T:∀b j',B b->j'≠k.toNat->¬G j' b:=λb j' h g E=>g (D _ _ b E (Q b h));rintro q q' b (⟨U,d⟩|⟨U,d⟩|⟨r,U,d⟩) (⟨o,a⟩|⟨o,a⟩|⟨r',o,a⟩)
  .omega
  .exact absurd a (R b d)
  .rcases a with⟨_,j',g,a⟩|⟨g,a⟩
   .exact absurd a (S b j' d g)
   .exact absurd (l.dis _ _ b a (t b d)) g
  .exact absurd d (R b a)
  .omega
  .rcases a with⟨_,j',g,a⟩|⟨g,a⟩
   .exact absurd a (T b j' d g)
   .exact absurd (l.dis _ _ b a (u b d)) g
  .rcases d with⟨_,j',g,d⟩|⟨g,d⟩
   .exact absurd d (S b j' a g)
   .exact absurd (l.dis _ _ b d (t b a)) g
  .rcases d with⟨_,j',g,d⟩|⟨g,d⟩
   .exact absurd d (T b j' a g)
   .exact absurd (l.dis _ _ b d (u b a)) g
  .rcases d with⟨V,j',_,d⟩|⟨V,d⟩<;>rcases a with⟨W,aa,_,a⟩|⟨W,a⟩
   .omega
   .exact absurd (l.dis _ _ b a (p _ b d)) W
   .exact absurd (l.dis _ _ b d (p _ b a)) V
   .have:=l.dis _ _ b d a;omega
 .refine aZ.same (hL f H) (λb d=>⟨d.1,?_⟩) (λ_ _ _=>rfl);rintro q (⟨_,h⟩|⟨_,h⟩|⟨r,_,⟨_,j',_,h⟩|⟨_,h⟩⟩)
  .exact d.2 _ (t b h)
  .exact d.2 _ (u b h)
  .exact d.2 _ (p _ b h)
  .exact d.2 _ h
theorem Ux (i j:Nat) {u:V0} {C:V6 V0} {h:V6 (V6 α)} {k:Int} {D:V6 V0} {g:V6 (V6 V0)} {d:V6 (V6 (V6 α))} (p:Nat.beq i j=false) (N:M[i]? = some (AJ e D g d)) (O:M[j]? = some (Cfg e u C h)) (R:0<=k/\k<d.length):
  eT M L ((M.set i (AJ e (D.set k.toNat u) (g.set k.toNat C) (d.set k.toNat h))).eraseIdx j) L:=λc w t=>
 t.merge i j (λe=>by subst e;simp at p) N O (by
  rintro w Q E ⟨⟨s,x⟩,G,F,o,H⟩ K A;refine⟨⟨by simp[s],by simp[x]⟩,λq b=>(q=k.toNat/\E b)\/(q≠k.toNat/\G q b),?_,?_,?_⟩
  .intro q v P z l m n;by_cases y:q=k.toNat
   .subst y;rw[zAj V7]at l;rw[zAj V7]at m;rw[zAj V7]at n;cases l;cases m;cases n;exact aZ.same K (λb a=> .inl ⟨rfl,a⟩) (λ_ _ _=>rfl)
   .rw[zAq (Ne.symm y)]at l m n;exact aZ.same (F q v P z l m n) (λb a=> .inr ⟨y,a⟩) (λ_ _ _=>rfl)
  .rintro q b (⟨_,a⟩|⟨_,a⟩)
   .exact .inr a
   .exact .inl (o q b a)
  .rintro q B b (⟨I,a⟩|⟨I,a⟩) (⟨J,f⟩|⟨J,f⟩)
   .omega
   .exact absurd a (A b (o B b f))
   .exact absurd f (A b (o q b a))
   .exact H q B b a f)
theorem Kk (i j q:Nat) {us:V6 V0} {a:V6 (V6 α)} {k:Int} {vs:V6 V0} {wss:V6 (V6 V0)} {xsss:V6 (V6 (V6 α))} {i' j':Nat} (g:Nat.beq j q=false) (f:Nat.beq i' j'=false) (p:M[i]? = some (AJ e (vs.set k.toNat (.slice none 0 0)) (wss.set k.toNat []) (xsss.set k.toNat []))) (n:M[j]? = some (Ar bI.raw (at' vs k) us)) (o:M[q]? = some (fE e us a))
  (d:((M.set j (Cfg e (at' vs k) us a)).eraseIdx q)[i']? = some (AJ e (vs.set k.toNat (.slice none 0 0)) (wss.set k.toNat []) (xsss.set k.toNat []))) (b:((M.set j (Cfg e (at' vs k) us a)).eraseIdx q)[j']? = some (Cfg e (at' vs k) us a)) (m:0<=k/\k<xsss.length):
  eT M L ((((M.set j (Cfg e (at' vs k) us a)).eraseIdx q).set i' (AJ e vs (wss.set k.toNat us) (xsss.set k.toNat a))).eraseIdx j') L:=by
 rintro c w t;have s:vs.length=xsss.length:=by obtain⟨_,h⟩:=t.res p;simpa using h.1.1
 have u:=Ic (L:=L) j q g n o c w t;have l:=Ux (L:=L) (k:=k) _ _ f d b (by simpa using m) c w u;simp only[List.set_set]at l;rw[Cv vs k V7 m.1]at l;exact l
end
section
variable {P:Program} {rd:V1 Nat} {c:wJ} {n:Sz} {σ:Fr} {M L:V6 aZ} {Q:Exit->Act->V2->Prop} {ops:Array V5} {rest:V6 V5} {d:V1 Tmp} {ty:V9} {pos:String} {aft:Array Edge} {g:V1 (Nat×V4)} {α:Type} {e:bI α} {r:eD α}
@[reducible] def tg {a:Type} (_:Nat) (x:a):a:=x
def Fl:eD V0:=⟨1,Nat.one_pos,λ_ _ a x=>a=[x]/\one x=true,λh=>by simp[h.1],λh _=>h⟩
def agD {α:Type} (e:bI α) (r:eD α):Prop:=r.sz=e.sz/\∀{w S es x},r.R w S es x->es=e.enc x/\(e.enc x).all one=true
theorem Hb:agD bI.raw Fl:=⟨rfl,λh=>⟨h.1,by show[_].all one=true;simp[h.2]⟩⟩
theorem Lz {w:V2} {F:Nat->Prop} {v:V0} {l:V6 V0} (h:Bo bI.raw w F v l):Fc Fl w F v l:=by
 have o:=h;obtain⟨B,p,s⟩:=h;rcases s with⟨rfl,rfl⟩|⟨b,f,a,T,m,rfl,q,y,A,z,C⟩
 .exact⟨none,0,rfl,V8,.inl Z⟩
 .refine⟨_,a,rfl,V7,.inr ⟨b,f,rfl,q,λi x k=>⟨[x],λj u t=> ?_,rfl,?_⟩⟩⟩
  .have:=Bo.cell o k (j:=j) (u:=u) t;simp only[KH,eM]at this;exact this
  .exact zA7.1 p x (by simp only[cellsOf,List.mem_flatMap];exact⟨x,zA3 k,by simp[bI.raw]⟩)
theorem RJ [cO P] (b:agD e r) {w:V2} {S:Nat->Prop} {v:V0} {f:V6 α} {T E:V9} {D F:Nat} {z:V0} (h:Fc r w S v f) (p:cO.tab P T=some ⟨.slice E,D,F,z⟩):
  Src P e.sz T v f.length (cellsOf e f) w/\(cellsOf e f).all one=true:=by
 obtain⟨a,k⟩:=b;obtain⟨m,A,y,t,q⟩:=Fc.src h p (λ{w S o x} hr=>by rw[(k hr).1];exact(k hr).2);have:m=cellsOf e f:=Kn (by rw[t,a]) (λi x C j u B=>by
  obtain⟨o,l,s⟩:=q i x C;rw[<-a];exact s j u (by rw[(k l).1];exact B))
 subst this;rw[<-a];exact⟨A,y⟩
theorem rS {i:Nat} {v:V0} {vs:V6 V0} (a:M[i]? = some (Ar bI.raw v vs)):aG M L (Sl Fl v vs):=(aG.res i a).mono λh=>Lz h
theorem tW (q:Nat) {vs:V6 V0} {wss:V6 (V6 V0)} {xsss:V6 (V6 (V6 α))} (j:M[q]? = some (AJ e vs wss xsss)) {k:Int} (h:0<=k/\k<xsss.length):∀c w,St c M L w->(at' wss k).length=(at' xsss k).length:=λc w t=>by
 obtain⟨_,⟨f,i⟩,G,a,l,_⟩:=t.res j;obtain⟨A,B,m,b,_⟩:=a k.toNat _ _ _ (cG h.1 V7) (cG h.1 V7) (cG h.1 h.2);exact b.1
theorem rU {a f:Type} {q:eD a} {b:a->f}:aG M L (Sn q b (.slice none 0 0) [] []):=λ_ _ _ _ _ _ _ _=>⟨⟨none,0,rfl,V8,.inl Z⟩,rfl⟩
theorem LJ [cO P] (q:Nat) {x y:V3} {v:V0} {f:V6 V0} {i j:Int} {T E:V9} {s1 s2 D s4:Nat} {z z':V0} {dE:TypeDesc} (hx:ev σ x=some (slq v (0:Int).toNat i.toNat D)) (hy:ev σ y=some (slq v j.toNat (f.length:Int).toNat D)) (hf:M[q]? = some (Ar bI.raw v f))
  (hT:cO.tab P T=some ⟨.slice E,s1,s2,z⟩) (hE:cO.tab P E=some ⟨dE,D,s4,z'⟩) (h3:bI.raw.sz=D) (h:0<=i/\i<j/\j<=f.length):
  aN P c n σ M L ⟨d,.call ⟨.builtin .append,#[x,y],#[T,T]⟩,ty,pos,aft,g⟩ (λ_:Unit=>slq v 0 (i+((f.length:Int) - j)).toNat D) (λ_=>M.set q (Ar bI.raw (slq v 0 (i+((f.length:Int) - j)).toNat D) (f.take i.toNat++f.drop j.toNat))) (λ_=>L):=λa w s t=>by
 subst h3;have t0:=t;obtain⟨ho,W,hO,N⟩:=t0;have Y:=hO.res q _ hf;have V:=Lz Y;have U:=Fc.part V (l:=j.toNat) (h:=f.length) V7 (zAg _);have U:Fc Fl w (W q) (slq v j.toNat f.length bI.raw.sz) ((f.take f.length).drop j.toNat):=U;obtain⟨hs,F⟩:=RJ Hb U hT;obtain⟨h0,K,hh⟩:=Y;rcases hh with⟨_,rfl⟩|⟨b,o,p,X,m,rfl,G,H,hk,hc,ht⟩
 .simp at h;omega
 have J:((f.take f.length).drop j.toNat)=f.drop j.toNat:=by rw[List.take_length]
 rw[J]at hs F;have A:(f.drop j.toNat).length=f.length - j.toNat:=V8
 have hn:(i+((f.length:Int) - j)).toNat=i.toNat+(f.length - j.toNat):=V7
 rw[show(0:Int).toNat=0 from rfl,Ng]at hx;rw[show(f.length:Int).toNat=f.length by omega]at hy;have C:i.toNat+(f.drop j.toNat).length<=p:=V7
 have hr:=Nc (P:=P) (ty:=ty) (cO.ok hT) Z (cO.ok hE) H hs C hc;simp only[Oper.wp,zZ s hx hy w,hr,Result.andThen_ok,Oper.upon];have aa:(i.toNat+(f.length - j.toNat))*bI.raw.sz<=p*bI.raw.sz:=zB0 _ V7;have I:(cellsOf bI.raw (f.drop j.toNat)).length=(f.length - j.toNat)*bI.raw.sz:=by rw[eR,A]
 have B:(i.toNat+(f.length - j.toNat))*bI.raw.sz=i.toNat*bI.raw.sz+(f.length - j.toNat)*bI.raw.sz:=zB3 _ _ _;have S:o+i.toNat*bI.raw.sz+(cellsOf bI.raw (f.drop j.toNat)).length<=m.toList.length:=by
  rw[I];simp;omega
 refine⟨(),?_,?_⟩
 .rw[Ng,hn,A]
 .rw[Ng,hn];refine Gp ho hO N hf Z Z Z V8 (λk _ O=>setRow_other w b k _ (λe=>O (by subst e;exact G))) (F':=W q) ?_ (λk hk=> .inl hk);refine⟨Q1,?_,.inr ⟨b,o,p,X,_,Q1,G,setRow_heap w b _ _ X _ H,Q1,?_,?_⟩⟩
  .rw[mM,List.all_append,F,Bool.and_true];refine zA7.2 λu hu=>zA7.1 K u ?_;rw[<-zBf i.toNat f,mM];exact List.mem_append_left _ hu
  .simp only[List.size_toArray,zA5,List.length_take,List.length_drop];have:m.size=m.toList.length:=V8
   omega
  .have hd:=Oh m.toList o (i.toNat*bI.raw.sz) (cellsOf bI.raw (f.drop j.toNat)) S;have e1:(f.take i.toNat++f.drop j.toNat).length*bI.raw.sz=i.toNat*bI.raw.sz+(cellsOf bI.raw (f.drop j.toNat)).length:=by
    rw[I,zA5,List.length_take,A,Nat.min_eq_left V7];exact B
   have e2:(m.toList.drop o).take (i.toNat*bI.raw.sz)=cellsOf bI.raw (f.take i.toNat):=by
    have:(m.toList.drop o).take (i.toNat*bI.raw.sz)=((m.toList.drop o).take (f.length*bI.raw.sz)).take (i.toNat*bI.raw.sz):=by
     rw[List.take_take,Nat.min_eq_left (zB0 _ V7)]
    rw[this,ht]
    conv=>lhs;rw[<-zBf i.toNat f,mM]
    have R:(cellsOf bI.raw (f.take i.toNat)).length=i.toNat*bI.raw.sz:=by rw[eR,List.length_take,Nat.min_eq_left V7]
    rw[<-R,List.take_left]
   rw[e1,mM,<-e2];exact hd
theorem Nx [cO P] (i:Nat) (b:agD e r) {x y:V3} {v u:V0} {h j:V6 α} {T E:V9} {V W m k:Nat} {z p:V0} {q:TypeDesc} (R:ev σ x=some v) (S:ev σ y=some u) (I:M[i]? = some (Ar e v h)) (J:aG M L (Sl r u j))
  (o:cO.tab P T=some ⟨.slice E,V,W,z⟩) (D:cO.tab P E=some ⟨q,m,k,p⟩) (B:e.sz=m) (C:Nat.ble k 1024=true) (X:(h.length:Int)+j.length<=1099511627) (U:p.cells.size=m):
  aN P c n σ M L ⟨d,.call ⟨.builtin .append,#[x,y],#[T,T]⟩,ty,pos,aft,g⟩ (λf:V0=>f) (λf=>M.set i (Ar e f (h++j))) (λ_=>L):=λa w s t=>by
 subst B;obtain⟨F,G⟩:=J.st t;obtain⟨N,A⟩:=RJ b G o;have l:k<=1024:=by simpa using C
 have H:(h.length+j.length)*k<=140737488355328:=zB4 (Nat.mul_le_mul (show h.length+j.length<=1099511627 by omega) l) Q2;obtain⟨f,Y,K,O⟩:=t.append (ty:=ty) I N A o D H V7 U;simp only[Oper.wp,zZ s R S w,K,Result.andThen_ok,Oper.upon];exact⟨f,rfl,O⟩
theorem lU {a h:Type} {q:eD a} {i:a->h} {v:V0} {k:V6 a} {f:V6 h} (b:aG M L (Sn q i v k f)):∀c w,St c M L w->agO v f.length:=λc w t=>by
 obtain⟨_,j⟩:=b.st t;rw[<-Sn.len j];exact Know.len b.sl c w t
theorem lD (i:Nat) {a g:aZ} (b:M[i]? = some a) (h:aG [a] L g):eT M L (M.eraseIdx i) (g::L):=BZ [a] _ (aX.cons i b (aX.refl _)) h
theorem uC {x:V3} {v:V0} {o:Nat} (b:ev σ x=some (Er v o)):Y P c n σ M L ⟨d,.nilCheck x,ty,pos,aft,g⟩ (Er v o):=λa w s _=>by
 simp[execOp,s.eval b,Er]
end
end Go.Sx
namespace Go.Proofs.YtgciopekomcbfaaGreatDoor
open Go.Sx
def Jd:aW:=[0,1,1,2,1,2,2,3,1,2,2,3,2,3,3,4,1,2,2,3,2,3,3,4,2,3,3,4,3,4,4,5,1,2,2,3,2,3,3,4,2,3,3,4,3,4,4,5,2,3,3,4,3,4,4,5,3,4,4,5,4,5,5,6,1,2,2,3,2,3,3,4,2,3,3,4,3,4,4,5,2,3,3,4,3,4,4,5,3,4,4,5,4,5,5,6,2,3,3,4,3,4,4,5,3,4,4,5,4,5,5,6,3,4,4,5,4,5,5,6,4,5,5,6,5,6,6,7,1,2,2,3,2,3,3,4,2,3,3,4,3,4,4,5,2,3,3,4,3,4,4,5,3,4,4,5,4,5,5,6,2,3,3,4,3,4,4,5,3,4,4,5,4,5,5,6,3,4,4,5,4,5,5,6,4,5,5,6,5,6,6,7,2,3,3,4,3,4,4,5,3,4,4,5,4,5,5,6,3,4,4,5,4,5,5,6,4,5,5,6,5,6,6,7,3,4,4,5,4,5,5,6,4,5,5,6,5,6,6,7,4,5,5,6,5,6,6,7,5,6,6,7,6,7,7,8]
theorem PN:Md (ByteArray.mk #[0,1,1,2,1,2,2,3,1,2,2,3,2,3,3,4,1,2,2,3,2,3,3,4,2,3,3,4,3,4,4,5,1,2,2,3,2,3,3,4,2,3,3,4,3,4,4,5,2,3,3,4,3,4,4,5,3,4,4,5,4,5,5,6,1,2,2,3,2,3,3,4,2,3,3,4,3,4,4,5,2,3,3,4,3,4,4,5,3,4,4,5,4,5,5,6,2,3,3,4,3,4,4,5,3,4,4,5,4,5,5,6,3,4,4,5,4,5,5,6,4,5,5,6,5,6,6,7,1,2,2,3,2,3,3,4,2,3,3,4,3,4,4,5,2,3,3,4,3,4,4,5,3,4,4,5,4,5,5,6,2,3,3,4,3,4,4,5,3,4,4,5,4,5,5,6,3,4,4,5,4,5,5,6,4,5,5,6,5,6,6,7,2,3,3,4,3,4,4,5,3,4,4,5,4,5,5,6,3,4,4,5,4,5,5,6,4,5,5,6,5,6,6,7,3,4,4,5,4,5,5,6,4,5,5,6,5,6,6,7,4,5,5,6,5,6,6,7,5,6,6,7,6,7,7,8])=Jd:=by kernel_rfl
def sS:aW:=[0,1,28,2,29,14,24,3,30,22,20,15,25,17,4,8,31,27,13,23,21,19,16,7,26,12,18,6,11,5,10,9]
theorem _root_.Go.Sx.Y.bld5 {P:Program} {c:wJ} {n:Sz} {a:Fr} {M L:V6 aZ} {d:V1 Tmp} {E:V9} {k:String} {j:Array Edge} {g:V1 (Nat×V4)} {T:V9} {b e f h i:Nat} {s t u v x:V3} {l m o p q r:V0} (y:ev a s=some l) (z:ev a t=some m) (A:ev a u=some o) (B:ev a v=some p) (C:ev a x=some q) (D:∀w,(Instr.build T ([(b,l),(e,m),(f,o),(h,p),(i,q)]:V6 (Nat×V0)).toArray).run P w = .ok r w):Y P c n a M L ⟨d,.build T #[(b,s),(e,t),(f,u),(h,v),(i,x)],E,k,j,g⟩ r:=
 B_ (ps:=[(b,s),(e,t),(f,u),(h,v),(i,x)]) (vs:=[(b,l),(e,m),(f,o),(h,p),(i,q)]) (by simp[y,z,A,B,C]) D
abbrev ESt:bI ByteArray:=⟨1,Nat.one_pos,λx=>[.string x],λ_=>rfl⟩
abbrev RSt:eD ByteArray:=⟨1,Nat.one_pos,λ_ _ a x=>a=[.string x],λh=>by simp[h],λh _=>h⟩
theorem FSt:ESt.Fits RSt:=⟨rfl,λh=>h,rfl,λ_=>rfl⟩
abbrev dW:bI Int:=bI.int .i64
abbrev aL:eD Int:=eD.int .i64
theorem fG:dW.Fits aL:=HX .i64
theorem gF:aL.Cell 0 (λx=> .int .i64 x):=Ia .i64
abbrev lC:bI Xx:=bI.pair ESt (bI.pair dW (bI.pair dW (bI.pair dW (bI.pair dW (dW)))))
abbrev aH:eD Xx:=eD.pair RSt (eD.pair aL (eD.pair aL (eD.pair aL (eD.pair aL (aL)))))
theorem qH:lC.Fits aH:=mB FSt (mB fG (mB fG (mB fG (mB fG (fG)))))
theorem Al:aH.Cell 1 (λx=> .int .i64 x.2.1):=dX (qP (gF))
theorem EY:aH.Cell 2 (λx=> .int .i64 x.2.2.1):=dX (dX (qP (gF)))
theorem EZ:aH.Cell 3 (λx=> .int .i64 x.2.2.2.1):=dX (dX (dX (qP (gF))))
theorem E_:aH.Cell 4 (λx=> .int .i64 x.2.2.2.2.1):=dX (dX (dX (dX (qP (gF)))))
theorem Fa:aH.Cell 5 (λx=> .int .i64 x.2.2.2.2.2):=dX (dX (dX (dX (dX (gF)))))
abbrev bO:bI jF:=bI.pair dW (dW)
abbrev aY:eD jF:=eD.pair aL (aL)
theorem bX:bO.Fits aY:=mB fG (fG)
theorem Aq:aY.Cell 0 (λx=> .int .i64 x.1):=qP (gF)
theorem Ut:aY.Cell 1 (λx=> .int .i64 x.2):=dX (gF)
abbrev sX:eD (Int×(V0×gV)):=eD.pair aL ((eD.sl aY))
theorem Nw:sX.All 2 (λx=>[Value.int .i64 (x.1),x.2.1]):=(Pr (Uv fG) (Uw aY))
theorem EL:sX.Deep aY (λx=>x.2):=Gn (Fo aY)
abbrev aD:eD (ByteArray×(V0×gV)×(V0×V6 (Int×(V0×gV)))):=eD.pair RSt (eD.pair (eD.sl aY) ((eD.sl sX)))
theorem BJ:aD.Cell 1 (λx=>x.2.1.1):=dX (qP (eD.sl_cell aY))
theorem BL:aD.Deep aY (λx=>x.2.1):=Gn (XP (Fo aY))
theorem BK:aD.Cell 2 (λx=>x.2.2.1):=dX (dX (eD.sl_cell sX))
theorem iI:aD.Deep sX (λx=>x.2.2):=Gn (Gn (Fo sX))
abbrev EBo:bI V4:=bI.bool
abbrev EFn:bI Nat:=bI.fn
abbrev RFn:eD Nat:=eD.fn
theorem FFn:EFn.Fits RFn:=Ri
abbrev KW:bI (Int×Nat):=bI.pair dW (EFn)
abbrev adz:eD (Int×Nat):=eD.pair aL (RFn)
theorem CR:KW.Fits adz:=mB fG (FFn)
abbrev gG:bI (Int×Int×Int):=bI.pair dW (bI.pair dW (dW))
abbrev kK:eD (Int×Int×Int):=eD.pair aL (eD.pair aL (aL))
theorem pM:gG.Fits kK:=mB fG (mB fG (fG))
abbrev qG:bI Int:=bI.int .u32
abbrev Eh:eD Int:=eD.int .u32
theorem tK:qG.Fits Eh:=HX .u32
theorem Jo:Eh.Cell 0 (λx=> .int .u32 x):=Ia .u32
abbrev Ff:bI Int:=bI.int .u8
def TO (x:Int):V0:=Value.int .i64 (x)
def oQ (x:gO):V0:=Value.agg #[Value.int .i64 (x.1),Value.int .i64 (x.2)]
theorem abm (x y:gO) (m:Nat) (w:V2):(Op.equalIn (m+2) 186 (.agg #[.int .i64 x.1,.int .i64 x.2]) (.agg #[.int .i64 y.1,.int .i64 y.2])).run prog w = .ok (decide (x=y)) w:=by
 have c:∀a b:Int,(Op.equalIn (m+1) 3 (.int .i64 a) (.int .i64 b)).run prog w = .ok (a==b) w:=by
  intro a b;simp[Op.equalIn]
 unfold Op.equalIn;simp[show List.range' 0 2=[0,1]from rfl,part,isAgg,c];obtain⟨d,e⟩:=x;obtain⟨f,g⟩:=y;by_cases h:d=f<;>by_cases i:e=g<;>simp[h,i,c]
theorem aav (b:V4) (k:gO) (w:V2):(Instr.checkKey b 10000 186 (oQ k)).run prog w = .ok () w:=by
 have a:∀m:Nat,(Instr.checkKey b (m+2) 186 (oQ k)).run prog w = .ok () w:=by
  intro m;simp[Instr.checkKey,oQ,part,isAgg,show List.range' 0 2=[0,1]from rfl]
 exact a 9998
theorem Qm:LF prog 186 oQ:=Uq underlying186 aav (λ_ _=>rfl) (λa b w=>abm a b 9998 w) (λk=>by
 have c:∀m:Nat,Instr.sameBits (m+2) (oQ k) (oQ k)=true:=λm=>by simp[Instr.sameBits,oQ]
 exact c 9998)
theorem gY (b:V0) (c:one b=true) (a:Array V0) (h:a.size=1*1):Instr.fill (λi=>some (i*1,1)) a [(0,b)]=some [b].toArray:=by
 obtain⟨l⟩:=a
 match l,h with
 | [z0],_=>simp[Instr.fill,f_ c]
theorem Is (b c:V0) (a:Array V0) (h:a.size=1*2):Instr.fill (λi=>some (i*2,2)) a [(0,.agg #[b,c])]=some [b,c].toArray:=by
 obtain⟨l⟩:=a
 match l,h with
 | [z0,z1],_=>simp[Instr.fill,Value.cells]
theorem Su (b c d:V0) (a:Array V0) (h:a.size=1*3):Instr.fill (λi=>some (i*3,3)) a [(0,.agg #[b,c,d])]=some [b,c,d].toArray:=by
 obtain⟨l⟩:=a
 match l,h with
 | [z0,z1,z2],_=>simp[Instr.fill,Value.cells]
theorem Sv (b c:V0) (d:one b=true) (e:one c=true) (a:Array V0) (h:a.size=2*1):Instr.fill (λi=>some (i*1,1)) a [(0,b),(1,c)]=some [b,c].toArray:=by
 obtain⟨l⟩:=a
 match l,h with
 | [z0,z1],_=>simp[Instr.fill,f_ d,f_ e]
theorem aaR (d e f g j k m n o p b c:V0) (a:Array V0) (h:a.size=2*6):Instr.fill (λi=>some (i*6,6)) a [(0,.agg #[d,e,f,g,j,k]),(1,.agg #[m,n,o,p,b,c])]=some [d,e,f,g,j,k,m,n,o,p,b,c].toArray:=by
 obtain⟨l⟩:=a
 match l,h with
 | [z0,z1,z2,z3,z4,z5,z6,z7,z8,z9,z10,z11],_=>simp[Instr.fill,Value.cells]
theorem aaS (b c d e f g:V0) (a:Array V0) (h:a.size=3*2):Instr.fill (λi=>some (i*2,2)) a [(0,.agg #[b,c]),(1,.agg #[d,e]),(2,.agg #[f,g])]=some [b,c,d,e,f,g].toArray:=by
 obtain⟨l⟩:=a
 match l,h with
 | [z0,z1,z2,z3,z4,z5],_=>simp[Instr.fill,Value.cells]
theorem aaT (m n o p q r s t u v b c d e f g j k:V0) (a:Array V0) (h:a.size=3*6):Instr.fill (λi=>some (i*6,6)) a [(0,.agg #[m,n,o,p,q,r]),(1,.agg #[s,t,u,v,b,c]),(2,.agg #[d,e,f,g,j,k])]=some [m,n,o,p,q,r,s,t,u,v,b,c,d,e,f,g,j,k].toArray:=by
 obtain⟨l⟩:=a
 match l,h with
 | [z0,z1,z2,z3,z4,z5,z6,z7,z8,z9,z10,z11,z12,z13,z14,z15,z16,z17],_=>simp[Instr.fill,Value.cells]
def AY (a:Int) (b:V4):V1 (Int):=
 if b=true then(some (-1:Int))else(if a<=(17:Int)then(some (0:Int))else(if a<=(29:Int)then(some (1:Int))else(if a<=(42:Int)then(some (2:Int))else(some (3:Int)))))
def zJ (U:Nat) (a:Int):V1 (Int):=
 if a<(1:Int)then(AY a (true))else(AY a (decide ((43:Int)<a)))
theorem aep:aU prog 237:=call237
theorem QW (U:Nat) {b:Int} (r:Int) (h:zJ U b=some r):
  a_ prog 237 #[vI (b)] [] (λx:Unit=>vI (r)) (λx l=>l) (λ_ l=>l):=by
 refine a_.of func237 Z ntmps237 Z λc=>Q4 Z<|aK<|aS<|aK<|iA (λa=>AY b a=some r) (λa d=>[(0,vI (b)),(3,vB (a))]) (λa d=>[]) ?_ ?_
 .refine aR<|aA Z<|dD Z<|aA Z<|GN h Z (λ_ h=>?_) λ_ h=>?_
  .exact aQ Z<|aQ Z<|gE Z<|Q5 Z<|j_ (true) () h SF Z
  exact iP Z<|bA Z (wM Z Z) Z<|jD Z<|Q5 Z<|j_ (decide ((43:Int)<b)) () h SF Z
 intro a d h;refine Ca h Z (λ_ h=>?_) λ_ h=>?_
 .refine Q4 Z<|aT<|bW<|aJ ?_;cases h;exact mA Z
 refine Q6 Z<|aB (EM Z Z) Z<|Q5 Z<|eI h Z (λh=>?_) λh=>?_
 .refine Q4 Z<|aT<|bW<|aJ ?_;cases h;exact mA Z
 refine Q6 Z<|aB (EM Z Z) Z<|Q5 Z<|eI h Z (λh=>?_) λh=>?_
 .refine Q4 Z<|aT<|bW<|aJ ?_;cases h;exact mA Z
 refine Q6 Z<|aB (EM Z Z) Z<|Q5 Z<|eI h Z (λh=>?_) λh=>?_
 .refine Q4 Z<|aT<|bW<|aJ ?_;cases h;exact mA Z
 refine eP<|m_<|Q4 Z<|aT ?_;cases h;exact mA Z
def Ga (a:Unit):V1 (Int):=
 some (-1:Int)
def mP (U:Nat) (d:gV) (a:gO) (c:jF->V1 (Int)):V1 (Int):=
 if a.1<(d.length:Int)then(ck (0<=a.1/\a.1<(d.length:Int)) (Option.bind (zJ U ((at' d a.1).1)) λb=>(if b<(0:Int)then(some (-1:Int))else(if(wI .i64 (a.2+(wI .i64 (b - (1:Int)))))=(0:Int)then(some (wI .i64 (a.1+(1:Int))))else(c ((wI .i64 (a.1+(1:Int))),(wI .i64 (a.2+(wI .i64 (b - (1:Int)))))))))))else(Ga (()))
def Dg (U:Nat) (b:gV) (c:Int) (a:V4):V1 (Int):=
 if a=true then(some (-1:Int))else(bN (mP U b) U (c,(1:Int)))
def Ey (U:Nat) (b:gV) (a:Int):V1 (Int):=
 if a<(0:Int)then(Dg U b a (true))else(Dg U b a (decide ((b.length:Int)<=a)))
theorem aeo:aU prog 224:=call224
theorem VH (U:Nat) {g:gV} {b:Int} (k:V0) (r:Int) (h:Ey U g b=some r):
  a_ prog 224 #[k,vI (b)] [Sl aY k g] (λx:Unit=>vI (r)) (λx l=>l) (λ_ l=>l):=by
 refine a_.of func224 Z ntmps224 Z λc=>Q4 Z<|aK<|aK<|iA (λd=>Dg U g b d=some r) (λd n=>[(0,k),(1,vI (b)),(14,vB (d))]) (λd n=>[]) ?_ ?_
 .refine aR<|aA Z<|dD Z<|aA Z<|GN h Z (λ_ h=>?_) λ_ h=>?_
  .exact aQ Z<|aQ Z<|aQ Z<|aQ Z<|gE Z<|aM<|j_ (true) () h SF Z
  exact iP Z<|iP Z<|bA Z (iN Z (dH Z) Z) Z<|bA Z (CV Z Z) Z<|jD Z<|aM<|j_ (decide ((g.length:Int)<=b)) () h SF Z
 intro d n h;refine Ca h Z (λ_ h=>?_) λ_ h=>?_
 .refine Q4 Z<|aT<|aJ ?_;cases h;exact mA Z
 refine cQ<|aK<|iA (λj=>Ga j=some r) (λj o=>[]) (λj o=>[]) ?_ ?_
 .refine Q4 Z<|aS<|gC (mP U g) (λa e=>[(0,k),(1,vI (a.1)),(5,vI (a.2))]) (λa e=>[]) (b,(1:Int)) () h SF (aX.refl _) ?_;intro p a e h;refine aK<|Q6 Z<|aA Z<|kG (dH Z) Z<|dD Z<|aM<|eI h Z (λh=>?_) λh=>?_
  .refine cQ<|aK<|aS<|Q6 Z<|aA Z<|dV h λf h=>aB (bR Z Z (dH Z) Z Z f) Z<|aB (nT Z Z Z Z Z) Z<|aB (qI Z (dH Z) Z Z Z Aq f) Z<|fP h λi m h=>aI (zBk aep (QW U i m) Z .nil) Z λq=>Q5 Z<|aK<|Q6 Z<|dD Z<|aM<|eI h Z (λh=>?_) λh=>?_
   .refine Q4 Z<|aT<|aJ<|bW<|aJ<|aJ<|bW<|aJ ?_;cases h;exact mA Z
   refine cQ<|Q6 Z<|aA Z<|aB (vZ Z Z) Z<|cU Z<|Q5 Z<|Q6 Z<|bZ Z<|aM<|eI h Z (λh=>?_) λh=>?_
   .refine Q6 Z<|cU Z<|Q5 Z<|aT<|bW<|aJ<|aJ<|bW<|aJ ?_;cases h;exact mA Z
   exact eP<|m_<|aR<|aA Z<|cU Z<|Q5 Z<|BD ((wI .i64 (a.1+(1:Int))),(wI .i64 (a.2+(wI .i64 (i - (1:Int)))))) () h SF Z
  exact fO<|j_ () (()) h SF Z
 intro j o h;unfold Ga at h;refine Q4 Z<|aT ?_;cases h;exact mA Z
def kC (U:Nat) (a:V4):V1 (Int):=
 if a=true then(some (1:Int))else(some (0:Int))
theorem AK:aU prog 255:=call255
theorem mG (U:Nat) {a:V4} (r:Int) (h:kC U a=some r):
  a_ prog 255 #[vB (a)] [] (λx:Unit=>vI (r)) (λx l=>l) (λ_ l=>l):=by
 refine a_.of func255 Z ntmps255 Z λc=>Q4 Z<|aK<|Q6 Z<|aM<|Ca h Z (λ_ h=>?_) λ_ h=>?_
 .refine Q4 Z<|aT<|aJ ?_;cases h;exact mA Z
 refine cQ<|Q4 Z<|aT ?_;cases h;exact mA Z
def uE (U:Nat) (a:YW) (d b c:Int):V1 (Int):=
 if d=(6:Int)then(some (a.2.1.1.length:Int))else(if d=(7:Int)then(some (a.2.2.1))else(if d=(8:Int)then(ck (0<=b/\b<(a.2.1.1.length:Int)) (some (at' a.2.1.1 b)))else(if d=(9:Int)then(ck (0<=b/\b<(a.2.1.2.length:Int)) (some ((at' a.2.1.2 b).length:Int)))else(if d=(10:Int)then(Option.bind (kC U (decide (b=(0:Int)))) λf=>(some (f)))else(if d=(11:Int)then(some (c))else(ck (0<=b/\b<(a.2.1.2.length:Int)) (ck (0<=c/\c<((at' a.2.1.2 b).length:Int)) (if d=(13:Int)then(ck (0<=((at' (at' a.2.1.2 b) c).1)/\((at' (at' a.2.1.2 b) c).1)<(a.2.1.1.length:Int)) (some (at' a.2.1.1 ((at' (at' a.2.1.2 b) c).1))))else(if d=(14:Int)then(ck (0<=((at' (at' a.2.1.2 b) c).1)/\((at' (at' a.2.1.2 b) c).1)<(a.2.1.2.length:Int)) (some ((at' a.2.1.2 ((at' (at' a.2.1.2 b) c).1)).length:Int)))else(if d=(15:Int)then(Option.bind (kC U (decide (((at' (at' a.2.1.2 b) c).1)=(0:Int)))) λe=>(some (e)))else(if d=(16:Int)then(some ((at' (at' a.2.1.2 b) c).2))else(ck (0<=b/\b<(a.2.2.2.length:Int)) (ck (0<=c/\c<((at' a.2.2.2 b).length:Int)) (some (at' (at' a.2.2.2 b) c)))))))))))))))
theorem aet:aU prog 254:=call254
theorem FM (U:Nat) {d:YW} {t k m:Int} (f:Nat) (u v w y:V0) (G:mS) (A:V0) (H:lI) (r:Int) (h:uE U d t k m=some r):
  a_ prog 254 #[vP f,vI (t),vI (k),vI (m)] [bH f [vS (d.1.1),u,v,w,y,vI (d.2.2.1),A] 225,Sl aH u d.1.2.1,Sl aD v d.1.2.2,Sl aL w d.2.1.1,S2 aY y G d.2.1.2,S2 aL A H d.2.2.2] (λx:Unit=>vI (r)) (λx l=>l) (λ_ l=>l):=by
 let n:=(at' (at' d.2.1.2 k) m)
 refine a_.of func254 Z ntmps254 Z λc=>?_;refine aP<|aC Z<|aM<|aK<|aP<|aA Z<|aM<|aS<|aP<|bZ Z<|aC Z<|aM ?_;refine eI h Z (λh=>?_) λh=>?_
 .refine aP<|aA Z<|aB (bL Z) Z<|bT Z<|bT Z<|aB (eQ Z (dH Z) Z Z Z) Z<|kG (Dw Z) Z<|aC Z<|aM<|aT<|bW<|aJ ?_;cases h;exact mA Z
 refine aP<|bZ Z<|aC Z<|aM ?_;refine eI h Z (λh=>?_) λh=>?_
 .refine aP<|aA Z<|aB (bL Z) Z<|bT Z<|aB (eQ Z (dH Z) Z Z Z) Z<|aC Z<|aM<|aT<|bW<|aJ ?_;cases h;exact mA Z
 refine aP<|bZ Z<|aC Z<|aM ?_;refine eI h Z (λh=>?_) λh=>?_
 .refine aP<|aA Z<|aB (bL Z) Z<|bT Z<|bT Z<|aB (eQ Z (dH Z) Z Z Z) Z<|aA Z<|dV h λs h=>aB (bR Z Z (Dw Z) Z Z s) Z<|aB (cK Z (Dw Z) Z Z Z gF s) Z<|aC Z<|aM<|aT<|bW<|aJ ?_;cases h;exact mA Z
 refine aP<|bZ Z<|aC Z<|aM ?_;refine eI h Z (λh=>?_) λh=>?_
 .refine aP<|aA Z<|aB (bL Z) Z<|bT Z<|bT Z<|aB (eQ Z (dH Z) Z Z Z) Z<|aA Z<|dV h λo h=>aB (cA Z Z (CN Z) Z Z o) Z<|aB (cW Z (CN Z) Z Z o) Z<|aB (iN Z (zBm (CN Z) o.1 o.2) Z) Z<|aC Z<|aM<|aT<|bW<|aJ ?_;cases h;exact mA Z
 refine aP<|bZ Z<|aC Z<|aM ?_;refine eI h Z (λh=>?_) λh=>?_
 .refine aP<|aA Z<|bZ Z<|fP h λC D h=>aI (zBk AK (mG U C D) Z .nil) Z λE=>aC Z<|aM<|aT<|bW<|aJ ?_;cases h;exact mA Z
 refine aP<|bZ Z<|aC Z<|aM ?_;refine eI h Z (λh=>?_) λh=>?_
 .refine aP<|aA Z<|aC Z<|aM<|aT<|bW<|aJ ?_;cases h;exact mA Z
 refine eP<|m_<|aP<|aA Z<|aB (bL Z) Z<|bT Z<|bT Z<|aB (eQ Z (dH Z) Z Z Z) Z<|aA Z<|dV h λa h=>aB (cA Z Z (CN Z) Z Z a) Z<|aB (cW Z (CN Z) Z Z a) Z<|aA Z<|dV h λg h=>aB (bR Z Z (zBm (CN Z) a.1 a.2) Z Z g) Z<|aB (gT (cs:=[vI (n.1),vI (n.2)]) Z (zBm (CN Z) a.1 a.2) bX Z Z Z Z g) Z<|aI (aN.alloc (cs:=Uj) Z Z) Z λB=>bQ 0 (vs:=[vI ((at' (at' d.2.1.2 k) m).1),vI ((at' (at' d.2.1.2 k) m).2)]) Z Z Z Z Z Z<|aM<|aK<|aP<|aA Z<|aM<|aS<|aP<|bZ Z<|aC Z<|aM ?_;refine eI h Z (λh=>?_) λh=>?_
 .refine aK ?_;refine yP [0,1,3,7,15,0,32,127,255,511] 7 mixedOrders ?_;refine bD Z<|jL Z (bL Z)<|cN Z<|cN Z<|bK Z .nil (nD 0 Z) (eQ Z (dH Z) Z Z Z) aO.z<|cN Z<|gW 0 Z<|bU 7 Z Z<|dV h λi h=>aB (bR Z Z (Dw Z) Z Z i) Z<|aB (cK Z (Dw Z) Z Z Z gF i) Z<|aC Z<|aM<|aT<|bW<|aJ ?_;cases h;exact xT Z
 refine aP<|bZ Z<|aC Z<|aM ?_;refine eI h Z (λh=>?_) λh=>?_
 .refine aK ?_;refine yP [0,1,3,7,15,0,32,127,255,511,1023] 7 mixedOrders ?_;refine bD Z<|jL Z (bL Z)<|cN Z<|cN Z<|bK Z .nil (nD 0 Z) (eQ Z (dH Z) Z Z Z) aO.z<|cN Z<|gW 0 Z<|bU 7 Z Z<|dV h λe h=>aB (cA Z Z (CN Z) Z Z e) Z<|aB (cW Z (CN Z) Z Z e) Z<|aB (iN Z (zBm (CN Z) e.1 e.2) Z) Z<|aC Z<|aM<|aT<|bW<|aJ ?_;cases h;exact xT Z
 refine aP<|bZ Z<|aC Z<|aM ?_;refine eI h Z (λh=>?_) λh=>?_
 .refine aP<|bT Z<|dO 0 Z<|bZ Z<|fP h λp q h=>aI (zBk AK (mG U p q) Z .nil) Z λF=>aC Z<|aM<|aT<|bW<|aJ ?_;cases h;exact xT Z
 refine aP<|bZ Z<|aC Z<|aM ?_;refine eI h Z (λh=>?_) λh=>?_
 .refine aP<|bT Z<|dO 0 Z<|aC Z<|aM<|aT<|bW<|aJ ?_;cases h;exact xT Z
 refine eP<|m_<|aP<|aA Z<|aB (bL Z) Z<|bT Z<|aB (eQ Z (dH Z) Z Z Z) Z<|aA Z<|dV h λb h=>aB (cA Z Z (Jf Z) Z Z b) Z<|aB (cW Z (Jf Z) Z Z b) Z<|aA Z<|dV h λj h=>aB (bR Z Z (zBm (Jf Z) b.1 b.2) Z Z j) Z<|aB (cK Z (zBm (Jf Z) b.1 b.2) Z Z Z gF j) Z<|aC Z<|aM<|aT ?_;cases h;exact xT Z
def nH (U:Nat) (a:Q_) (b:gO) (c:Int):V1 (Int):=
 if b.1=(1:Int)then(some (b.2))else(if b.1=(2:Int)then(some (1:Int))else(if b.1=(3:Int)then(some (0:Int))else(if b.1=(4:Int)then(some (-1:Int))else(if b.1=(5:Int)then(ck (0<=a.2.2.1/\a.2.2.1<(a.2.1.length:Int)) (ck (0<=b.2/\b.2<((at' a.2.1 a.2.2.1).length:Int)) (some (at' (at' a.2.1 a.2.2.1) b.2))))else(if b.1=(12:Int)then(ck (0<=a.2.2.1/\a.2.2.1<(a.1.2.1.2.length:Int)) (ck (0<=c/\c<((at' a.1.2.1.2 a.2.2.1).length:Int)) (ck (0<=((at' (at' a.1.2.1.2 a.2.2.1) c).1)/\((at' (at' a.1.2.1.2 a.2.2.1) c).1)<(a.2.1.length:Int)) (ck (0<=b.2/\b.2<((at' a.2.1 ((at' (at' a.1.2.1.2 a.2.2.1) c).1)).length:Int)) (some (at' (at' a.2.1 ((at' (at' a.1.2.1.2 a.2.2.1) c).1)) b.2))))))else(Option.bind (uE U ((((a.1.1.1,a.1.1.2.1,a.1.1.2.2)),((a.1.2.1.1,a.1.2.1.2)),a.1.2.2.1,a.1.2.2.2)) b.1 a.2.2.1 c) λd=>(some (d))))))))
theorem aeq:aU prog 245:=call245
theorem GX (U:Nat) {d:Q_} {k:gO} {y:Int} (g e:Nat) (o p q s:V0) (B:mS) (t:V0) (C:lI) (A:V0) (v:lI) (m:V0) (r:Int) (h:nH U d k y=some r):
  a_ prog 245 #[vP g,Value.agg #[vI (k.1),vI (k.2)],vI (y)] [bH g [vP e,A,vI (d.2.2.1),m] 247,bH e [vS (d.1.1.1),o,p,q,s,vI (d.1.2.2.1),t] 225,Sl aH o d.1.1.2.1,Sl aD p d.1.1.2.2,Sl aL q d.1.2.1.1,S2 aY s B d.1.2.1.2,S2 aL t C d.1.2.2.2,S2 aL A v d.2.1,Sl aY m d.2.2.2] (λx:Unit=>vI (r)) (λx l=>l) (λ_ l=>l):=by
 refine a_.of func245 Z ntmps245 Z λc=>?_;refine aP<|aI (aN.box (cs:=[vI (k.1),vI (k.2)]) Z Z) Z λE=>aC Z<|aM<|aK<|aP<|bT Z<|dO 0 Z<|aM<|aS<|aP<|bZ Z<|aC Z<|aM ?_;refine eI h Z (λh=>?_) λh=>?_
 .refine aP<|bT Z<|dO 0 Z<|aC Z<|aM<|aT<|bW<|aJ ?_;cases h;exact xT Z
 refine aP<|bZ Z<|aC Z<|aM ?_;refine eI h Z (λh=>?_) λh=>?_
 .refine aP<|aC Z<|aM<|aT<|bW<|aJ ?_;cases h;exact xT Z
 refine aP<|bZ Z<|aC Z<|aM ?_;refine eI h Z (λh=>?_) λh=>?_
 .refine aP<|aC Z<|aM<|aT<|bW<|aJ ?_;cases h;exact xT Z
 refine aP<|bZ Z<|aC Z<|aM ?_;refine eI h Z (λh=>?_) λh=>?_
 .refine aP<|aC Z<|aM<|aT<|bW<|aJ ?_;cases h;exact xT Z
 refine aP<|bZ Z<|aC Z<|aM ?_;refine eI h Z (λh=>?_) λh=>?_
 .refine aK ?_;refine yP [0,1,3,7,0,16,48,112,255,511,0,1024,4095,8191,16383] 12 mixedOrders ?_;refine bD Z<|jL Z (bL Z)<|cN Z<|bK Z .nil (nD 0 Z) (eQ Z (dH Z) Z Z Z) aO.z<|bD Z<|jL Z (bL Z)<|cN Z<|bK Z .nil (nD 0 Z) (eQ Z (dH Z) Z Z Z) aO.z<|dV h λf h=>bK Z .nil (nD 7 Z) (cA Z Z (dH Z) Z Z f) aO.z<|bK Z .nil (nD 7 Z) (cW Z (dH Z) Z Z f) aO.z<|cN Z<|gW 0 Z<|bU 12 Z Z<|dV h λw h=>aB (bR Z Z (zBm (GT Z) f.1 f.2) Z Z w) Z<|aB (cK Z (zBm (GT Z) f.1 f.2) Z Z Z gF w) Z<|aC Z<|aM<|aT<|bW<|aJ ?_;cases h;exact xT Z
 refine aP<|bZ Z<|aC Z<|aM ?_;refine eI h Z (λh=>?_) λh=>?_
 .refine aK ?_;refine yP [0,1,3,7,0,16,48,112,240,496,1008,2032,0,4096,12288,28672,65520,131056,0,524272,1048560,2097136,4194303,8388607,0,16777216,67108863,134217727,268435455] 26 mixedOrders ?_;refine bD Z<|jL Z (bL Z)<|cN Z<|bK Z .nil (nD 0 Z) (eQ Z (dH Z) Z Z Z) aO.z<|bD Z<|jL Z (bL Z)<|cN Z<|bK Z .nil (nD 0 Z) (eQ Z (dH Z) Z Z Z) aO.z<|jL Z (bL Z)<|cN Z<|cN Z<|bK Z .nil (nD 1 Z) (eQ Z (dH Z) Z Z Z) aO.z<|bD Z<|jL Z (bL Z)<|cN Z<|bK Z .nil (nD 0 Z) (eQ Z (dH Z) Z Z Z) aO.z<|dV h λa h=>bK Z .nil (nD 5 Z) (cA Z Z (dH Z) Z Z a) aO.z<|bK Z .nil (nD 5 Z) (cW Z (dH Z) Z Z a) aO.z<|bD Z<|dV h λi h=>bK Z .nil (nD 5 Z) (bR Z Z (zBm (dH Z) a.1 a.2) Z Z i) aO.z<|jL Z (nT Z Z Z Z Z)<|bK Z .nil (nD 5 Z) (qI Z (zBm (dH Z) a.1 a.2) Z Z Z Aq i) aO.z<|dV h λb h=>bK Z .nil (nD 7 Z) (cA Z Z (dH Z) Z Z b) aO.z<|bK Z .nil (nD 7 Z) (cW Z (dH Z) Z Z b) aO.z<|cN Z<|gW 0 Z<|bU 26 Z Z<|dV h λj h=>aB (bR Z Z (zBm (GT Z) b.1 b.2) Z Z j) Z<|aB (cK Z (zBm (GT Z) b.1 b.2) Z Z Z gF j) Z<|aC Z<|aM<|aT<|bW<|aJ ?_;cases h;exact xT Z
 refine eP<|m_<|aK ?_;refine yP [0,1,3,7,0,16,0,64,192,448,0,2047,4095] 11 mixedOrders ?_;refine bD Z<|jL Z (bL Z)<|cN Z<|bK Z .nil (nD 0 Z) (eQ Z (dH Z) Z Z Z) aO.z<|cN Z<|gW 0 Z<|bD Z<|jL Z (bL Z)<|cN Z<|bK Z .nil (nD 0 Z) (eQ Z (dH Z) Z Z Z) aO.z<|bD Z<|bU 11 Z Z<|fP h λn u h=>aI (zBk aet (FM U e o p q s B t C n u) Z (jS [1,2,3,4,5,6] Z)) Z λD=>aC Z<|aM<|aT ?_;cases h;exact xT Z
def BN (U:Nat) (b a:Int):V1 (Int):=
 if b=(18:Int)then(some (wI .i64 (0 - a)))else(Option.bind (kC U (decide (a=(0:Int)))) λc=>(some (c)))
theorem aer:aU prog 246:=call246
theorem QN (U:Nat) {a b:Int} (r:Int) (h:BN U a b=some r):
  a_ prog 246 #[vI (a),vI (b)] [] (λx:Unit=>vI (r)) (λx l=>l) (λ_ l=>l):=by
 refine a_.of func246 Z ntmps246 Z λc=>Q4 Z<|aK<|Q6 Z<|bZ Z<|aM<|eI h Z (λh=>?_) λh=>?_
 .refine Q6 Z<|aB (VZ Z) Z<|Q5 Z<|aT<|aJ ?_;cases h;exact mA Z
 refine cQ<|Q6 Z<|bZ Z<|fP h λd e h=>aI (zBk AK (mG U d e) Z .nil) Z λf=>Q5 Z<|aT ?_;cases h;exact mA Z
def kR (U:Nat) (a:Int):V1 (Int):=
 some (max (-1073741824:Int) (min a (1073741824:Int)))
theorem Gs:aU prog 257:=call257
theorem nX (U:Nat) {a:Int} (r:Int) (h:kR U a=some r):
  a_ prog 257 #[vI (a)] [] (λx:Unit=>vI (r)) (λx l=>l) (λ_ l=>l):=by
 refine a_.of func257 Z ntmps257 Z λc=>?_;unfold kR at h;refine Q4 Z<|Q6 Z<|aB (ZO Z Z) Z<|aB (LU Z Z) Z<|Q5 Z<|aT ?_;cases h;exact mA Z
def qW (a:Int):V1 (Int):=
 some (a)
def vA (a b:Int) (c:V4):V1 (Int):=
 if c=true then(qW (wI .i64 ((wI .i64 (Int.tdiv a b)) - (1:Int))))else(qW (wI .i64 (Int.tdiv a b)))
def sO (U:Nat) (b a:Int):V1 (Int):=
 if a=(0:Int)then(some (0:Int))else(ck (a≠0) (ck (a≠0) (if(Int.tmod b a)≠(0:Int)then(vA b a (((decide (b<(0:Int))) != (decide (a<(0:Int))))))else(vA b a (false)))))
theorem Wy:aU prog 258:=call258
theorem EQ (U:Nat) {a b:Int} (r:Int) (h:sO U a b=some r):
  a_ prog 258 #[vI (a),vI (b)] [] (λx:Unit=>vI (r)) (λx l=>l) (λ_ l=>l):=by
 refine a_.of func258 Z ntmps258 Z λc=>Q4 Z<|aK<|Q6 Z<|bZ Z<|aM<|eI h Z (λh=>?_) λh=>?_
 .refine Q4 Z<|aT<|aJ ?_;cases h;exact mA Z
 refine cQ<|Q6 Z<|aA Z<|dV h λj h=>aB (ZQ Z Z j) Z<|Q5 Z<|aK<|iA (λd=>qW d=some r) (λd g=>[(5,vI (d))]) (λd g=>[]) ?_ ?_
 .refine aK<|iA (λe=>vA a b e=some r) (λe i=>[(5,vI (wI .i64 (Int.tdiv a b))),(21,vB (e))]) (λe i=>[]) ?_ ?_
  .refine aR<|aA Z<|aA Z<|dV h λf h=>aB (Sa Z Z f) Z<|oZ Z<|aA Z<|GN h Z (λ_ h=>?_) λ_ h=>?_
   .exact iP Z<|bA Z (Ft Z Z) Z<|iP Z<|bA Z (Ft Z Z) Z<|bA Z (agQ Z Z Z) Z<|gE Z<|aM<|j_ (((decide (a<(0:Int))) != (decide (b<(0:Int))))) () h SF Z
   exact aQ Z<|aQ Z<|aQ Z<|aQ Z<|aQ Z<|jD Z<|aM<|j_ (false) () h SF Z
  intro e i h;refine Ca h Z (λ_ h=>?_) λ_ h=>?_
  .exact aR<|aA Z<|aB (vZ Z Z) Z<|Q5 Z<|j_ (wI .i64 ((wI .i64 (Int.tdiv a b)) - (1:Int))) () h SF Z
  exact cQ<|j_ (wI .i64 (Int.tdiv a b)) () h SF Z
 intro d g h;unfold qW at h;refine Q6 Z<|Q5 Z<|aT ?_;cases h;exact mA Z
def xQ (U:Nat) (c a b:Int):V1 V4:=
 if c=(35:Int)then(some (decide (a=b)))else(if c=(36:Int)then(some (decide (a≠b)))else(if c=(37:Int)then(some (decide (a<b)))else(if c=(38:Int)then(some (decide (a<=b)))else(if c=(39:Int)then(some (decide (b<a)))else(some (decide (b<=a)))))))
theorem aev:aU prog 259:=call259
theorem KP (U:Nat) {a b d:Int} (r:V4) (h:xQ U a b d=some r):
  a_ prog 259 #[vI (a),vI (b),vI (d)] [] (λx:Unit=>vB (r)) (λx l=>l) (λ_ l=>l):=by
 refine a_.of func259 Z ntmps259 Z λc=>Q4 Z<|aK<|Q6 Z<|aM<|aS<|aP<|bZ Z<|Q5 Z<|eI h Z (λh=>?_) λh=>?_
 .refine Q6 Z<|aA Z<|bZ Z<|Q5 Z<|aT<|bW<|aJ ?_;cases h;exact mA Z
 refine aP<|bZ Z<|Q5 Z<|eI h Z (λh=>?_) λh=>?_
 .refine Q6 Z<|aA Z<|oZ Z<|Q5 Z<|aT<|bW<|aJ ?_;cases h;exact mA Z
 refine aP<|bZ Z<|Q5 Z<|eI h Z (λh=>?_) λh=>?_
 .refine Q6 Z<|aA Z<|dD Z<|Q5 Z<|aT<|bW<|aJ ?_;cases h;exact mA Z
 refine aP<|bZ Z<|Q5 Z<|eI h Z (λh=>?_) λh=>?_
 .refine Q6 Z<|aA Z<|aB (EM Z Z) Z<|Q5 Z<|aT<|bW<|aJ ?_;cases h;exact mA Z
 refine aP<|bZ Z<|Q5 Z<|eI h Z (λh=>?_) λh=>?_
 .refine Q6 Z<|aA Z<|aB (wM Z Z) Z<|Q5 Z<|aT<|bW<|aJ ?_;cases h;exact mA Z
 refine eP<|m_<|Q6 Z<|aA Z<|aB (CV Z Z) Z<|Q5 Z<|aT ?_;cases h;exact mA Z
def qU (a:Int):V1 (Int):=
 some (a)
def qV (a:Int):V1 (Int):=
 some (a)
def AO (U:Nat) (c b a:Int):V1 (Int):=
 if c=(30:Int)then(Option.bind (kR U (wI .i64 (b*a))) λn=>(some (n)))else(if c=(31:Int)then(Option.bind (sO U b a) λo=>(Option.bind (kR U o) λp=>(some (p))))else(if c=(32:Int)then(if a=(0:Int)then(some (0:Int))else(Option.bind (sO U b a) λd=>(Option.bind (kR U (wI .i64 (b - (wI .i64 (a*d))))) λe=>(some (e)))))else(if c=(33:Int)then(Option.bind (kR U (wI .i64 (b+a))) λf=>(some (f)))else(if c=(34:Int)then(Option.bind (kR U (wI .i64 (b - a))) λg=>(some (g)))else(if c=(41:Int)then(if b≠(0:Int)then(Option.bind (kC U (decide (a≠(0:Int)))) λh=>(qU (h)))else(Option.bind (kC U false) λi=>(qU (i))))else(if c=(42:Int)then(if b≠(0:Int)then(Option.bind (kC U true) λj=>(qV (j)))else(Option.bind (kC U (decide (a≠(0:Int)))) λk=>(qV (k))))else(Option.bind (xQ U c b a) λl=>(Option.bind (kC U l) λm=>(some (m))))))))))
theorem aes:aU prog 248:=call248
theorem NG (U:Nat) {E F G:Int} (r:Int) (h:AO U E F G=some r):
  a_ prog 248 #[vI (E),vI (F),vI (G)] [] (λx:Unit=>vI (r)) (λx l=>l) (λ_ l=>l):=by
 refine a_.of func248 Z ntmps248 Z λc=>Q4 Z<|aK<|Q6 Z<|aM<|aS<|aP<|bZ Z<|Q5 Z<|eI h Z (λh=>?_) λh=>?_
 .refine Q6 Z<|aA Z<|aB (En Z Z) Z<|fP h λH K h=>aI (zBk Gs (nX U H K) Z .nil) Z λY=>Q5 Z<|aT<|bW<|aJ ?_;cases h;exact mA Z
 refine aP<|bZ Z<|Q5 Z<|eI h Z (λh=>?_) λh=>?_
 .refine Q6 Z<|aA Z<|fP h λI L h=>aI (zBk Wy (EQ U I L) Z .nil) Z λx8=>fP h λJ s h=>aI (zBk Gs (nX U J s) Z .nil) Z λM=>Q5 Z<|aT<|bW<|aJ ?_;cases h;exact mA Z
 refine aP<|bZ Z<|Q5 Z<|eI h Z (λh=>?_) λh=>?_
 .refine aK<|Q6 Z<|bZ Z<|aM<|eI h Z (λh=>?_) λh=>?_
  .refine Q4 Z<|aT<|aJ<|bW<|aJ ?_;cases h;exact mA Z
  refine cQ<|Q6 Z<|aA Z<|aA Z<|aA Z<|fP h λk t h=>aI (zBk Wy (EQ U k t) Z .nil) Z λN=>aB (En Z Z) Z<|aB (vZ Z Z) Z<|fP h λm u h=>aI (zBk Gs (nX U m u) Z .nil) Z λO=>Q5 Z<|aT<|bW<|aJ ?_;cases h;exact mA Z
 refine aP<|bZ Z<|Q5 Z<|eI h Z (λh=>?_) λh=>?_
 .refine Q6 Z<|aA Z<|cU Z<|fP h λn v h=>aI (zBk Gs (nX U n v) Z .nil) Z λP=>Q5 Z<|aT<|bW<|aJ ?_;cases h;exact mA Z
 refine aP<|bZ Z<|Q5 Z<|eI h Z (λh=>?_) λh=>?_
 .refine Q6 Z<|aA Z<|aB (vZ Z Z) Z<|fP h λo w h=>aI (zBk Gs (nX U o w) Z .nil) Z λQ=>Q5 Z<|aT<|bW<|aJ ?_;cases h;exact mA Z
 refine aP<|bZ Z<|Q5 Z<|eI h Z (λh=>?_) λh=>?_
 .refine aK<|iA (λa=>qU a=some r) (λa d=>[(6,vI (a))]) (λa d=>[]) ?_ ?_
  .refine aR<|aA Z<|oZ Z<|aA Z<|GN h Z (λ_ h=>?_) λ_ h=>?_
   .exact iP Z<|bA Z (Kl Z Z) Z<|gE Z<|fP h λf y h=>aI (zBk AK (mG U f y) Z .nil) Z λR=>Q5 Z<|j_ (f) () h SF Z
   exact aQ Z<|aQ Z<|jD Z<|fP h λg z h=>aI (zBk AK (mG U g z) Z .nil) Z λS=>Q5 Z<|j_ (g) () h SF Z
  intro a d h;unfold qU at h;refine aT<|bW<|aJ ?_;cases h;exact mA Z
 refine aP<|bZ Z<|Q5 Z<|eI h Z (λh=>?_) λh=>?_
 .refine aK<|iA (λb=>qV b=some r) (λb e=>[(6,vI (b))]) (λb e=>[]) ?_ ?_
  .refine aR<|aA Z<|oZ Z<|aA Z<|GN h Z (λ_ h=>?_) λ_ h=>?_
   .exact aQ Z<|aQ Z<|gE Z<|fP h λi A h=>aI (zBk AK (mG U i A) Z .nil) Z λT=>Q5 Z<|j_ (i) () h SF Z
   exact iP Z<|bA Z (Kl Z Z) Z<|jD Z<|fP h λj B h=>aI (zBk AK (mG U j B) Z .nil) Z λV=>Q5 Z<|j_ (j) () h SF Z
  intro b e h;unfold qV at h;refine aT<|bW<|aJ ?_;cases h;exact mA Z
 refine eP<|m_<|Q6 Z<|aA Z<|aA Z<|fP h λp C h=>aI (zBk aev (KP U p C) Z .nil) Z λW=>fP h λq D h=>aI (zBk AK (mG U q D) Z .nil) Z λX=>Q5 Z<|aT ?_;cases h;exact mA Z
def AL (a:Int):V1 (Int):=
 some (a)
def wN (c:gO) (b:jF->V1 (Int)) (a:Int):V1 (Int):=
 b (a,(wI .i64 (c.2+(1:Int))))
def sY (c:aW) (a:gO) (b:jF->V1 (Int)):V1 (Int):=
 if a.2<(c.length:Int)then(ck (0<=a.2/\a.2<(c.length:Int)) (if(at' c a.2)≠(0:Int)then(wN a b (wI .i64 (a.1+(1:Int))))else(wN a b (a.1))))else(AL (a.1))
def rY (U:Nat) (a:aW):V1 (Int):=
 bN (sY a) U ((0:Int),(0:Int))
theorem PK:aU prog 263:=call263
theorem EH (U:Nat) {d:aW} (i:V0) (r:Int) (h:rY U d=some r):
  a_ prog 263 #[i] [Sl aL i d] (λx:Unit=>vI (r)) (λx l=>l) (λ_ l=>l):=by
 refine a_.of func263 Z ntmps263 Z λc=>?_;unfold rY at h;refine Q4 Z<|Q4 Z<|aK<|iA (λe=>AL e=some r) (λe j=>[(3,vI (e))]) (λe j=>[]) ?_ ?_
 .refine Q6 Z<|kG (dH Z) Z<|aA Z<|aM<|aS<|gC (sY d) (λb k=>[(3,vI (b.1)),(6,i),(7,vI (d.length:Int)),(8,vI (b.2))]) (λb k=>[]) ((0:Int),(0:Int)) () h SF (aX.refl _) ?_;intro m b k h;refine aP<|dD Z<|aM<|aK<|eI h Z (λh=>?_) λh=>?_
  .refine cQ<|aK<|iA (λa=>wN b (bN (sY d) m) a=some r) (λa f=>[(3,vI (a)),(6,i),(7,vI (d.length:Int)),(8,vI (b.2))]) (λa f=>[]) ?_ ?_
   .refine aS<|aP<|dV h λg h=>aB (bR Z Z (dH Z) Z Z g) Z<|aB (cK Z (dH Z) Z Z Z gF g) Z<|Q5 Z<|Q6 Z<|oZ Z<|aM<|eI h Z (λh=>?_) λh=>?_
    .exact aR<|aA Z<|cU Z<|aC Z<|eW<|m_<|j_ (wI .i64 (b.1+(1:Int))) () h SF Z
    exact eP<|m_<|j_ (b.1) () h SF Z
   intro a f h;unfold wN at h;exact aR<|cU Z<|aA Z<|aM<|BD (a,(wI .i64 (b.2+(1:Int)))) () h SF Z
  exact fO<|j_ (b.1) () h SF Z
 intro e j h;unfold AL at h;refine Q6 Z<|Q5 Z<|aT ?_;cases h;exact mA Z
def qO (a:Unit):V1 (Int):=
 some (-1:Int)
def iC (c:aW) (e:Int->V1 V4) (a:Int) (b:(Int)->V1 (Int)):V1 (Int):=
 if a<(c.length:Int)then(ck (0<=a/\a<(c.length:Int)) (Option.bind (e (at' c a)) λd=>(if d=true then(some (a))else(b (wI .i64 (a+(1:Int)))))))else(qO (()))
def oJ (U:Nat) (b:aW) (a:Int->V1 V4):V1 (Int):=
 bN (iC b a) U (0:Int)
theorem aew:aU prog 264:=call264
theorem HO (U:Nat) {b:aW} {o:Int->V1 V4} (k:FuncId) (a:e_) (j:V6 aZ) (e:aU prog k) (f:∀(t:Int) (r:V4),o t=some r->a_ prog k ([vI (t)]++a).toArray j (λ_:Unit=>vB (r)) (λ_ l=>l) (λ_ l=>l)) (i:V0) (r:Int) (h:oJ U b o=some r):
  a_ prog 264 #[i,Value.func (.func k) #[] (a).toArray] ([Sl aL i b]++j) (λx:Unit=>vI (r)) (λx l=>l) (λ_ l=>l):=by
 refine a_.of func264 Z ntmps264 Z λc=>?_;unfold oJ at h;refine Q4 Z<|aK<|lT (B:=Unit) (λg=>qO g=some r) (λg m=>[]) (λg m=>[]) (λg m=>([Sl aL i b]++j)) ?_ ?_
 .refine Q6 Z<|kG (dH Z) Z<|aA Z<|aM<|aS<|pN (B:=Unit) (iC b o) (λd n=>[(0,i),(1,Value.func (.func k) #[] (a).toArray),(7,vI (b.length:Int)),(8,vI (d))]) (λd n=>[]) (λd n=>([Sl aL i b]++j)) (0:Int) () h SF (aX.refl _) (aF.refl _ _) ?_;intro v d n h;refine aP<|dD Z<|aM<|aK<|eI h Z (λh=>?_) λh=>?_
  .refine cQ<|aK<|aS<|Q6 Z<|Q5 Z<|Q6 Z<|aA Z<|aA Z<|dV h λs h=>aB (bR Z Z (dH Z) Z Z s) Z<|aB (cK Z (dH Z) Z Z Z gF s) Z<|fP h λp q h=>aI (nN (vs:=[vI (at' b d)]) (cs:=a) e Z (f (at' b d) p q) Z (aF.tail _) (λ_ _=>rfl)) Z λu=>aM<|Ca h Z (λ_ h=>?_) λ_ h=>?_
   .refine Q6 Z<|Q5 Z<|aT<|bW<|aJ<|aJ<|bW<|aJ ?_;cases h;exact mA Z
   exact eP<|m_<|aR<|cU Z<|aA Z<|aM<|BD (wI .i64 (d+(1:Int))) () h SF Z
  exact fO<|j_ () (()) h SF Z
 intro g m h;unfold qO at h;refine Q4 Z<|aT ?_;cases h;exact mA Z
def qB (U:Nat) (a:Int):V1 V4:=
 some (decide (a≠(0:Int)))
theorem aex:aU prog 265:=call265
theorem NH (U:Nat) {a:Int} (r:V4) (h:qB U a=some r):
  a_ prog 265 #[vI (a)] [] (λx:Unit=>vB (r)) (λx l=>l) (λ_ l=>l):=by
 refine a_.of func265 Z ntmps265 Z λc=>?_;unfold qB at h;refine Q4 Z<|Q6 Z<|oZ Z<|Q5 Z<|aT ?_;cases h;exact mA Z
def wB (a:gO):V1 jF:=
 some (a.1,a.2)
def qM (c:Int×Int×Int) (b:(Int×Int×Int)->V1 jF) (a:gO):V1 jF:=
 b (a.1,a.2,(wI .i64 (c.2.2+(1:Int))))
def wC (c:aW) (a:Int×Int×Int) (b:(Int×Int×Int)->V1 jF):V1 jF:=
 if a.2.2<(c.length:Int)then(ck (0<=a.2.2/\a.2.2<(c.length:Int)) (if a.1<(at' c a.2.2)then(qM a b ((at' c a.2.2),a.1))else(qM a b (a.1,(max a.2.1 (at' c a.2.2))))))else(wB (a.1,a.2.1))
def rZ (U:Nat) (a:aW):V1 jF:=
 bN (wC a) U ((-1073741824:Int),(-1073741824:Int),(0:Int))
theorem Wz:aU prog 266:=call266
theorem CE (U:Nat) {d:aW} (j:V0) (r:gO) (h:rZ U d=some r):
  a_ prog 266 #[j] [Sl aL j d] (λx:Unit=>Value.tuple #[vI (r.1),vI (r.2)]) (λx l=>l) (λ_ l=>l):=by
 refine a_.of func266 Z ntmps266 Z λc=>?_;unfold rZ at h;refine aP<|aC Z<|Q5 Z<|aP<|aC Z<|Q5 Z<|aK<|iA (λe=>wB e=some r) (λe m=>[(2,vI (e.1)),(3,vI (e.2))]) (λe m=>[]) ?_ ?_
 .refine Q6 Z<|kG (dH Z) Z<|aA Z<|aM<|aS<|gC (wC d) (λb f=>[(2,vI (b.1)),(3,vI (b.2.1)),(6,j),(7,vI (d.length:Int)),(8,vI (b.2.2))]) (λb f=>[]) ((-1073741824:Int),(-1073741824:Int),(0:Int)) () h SF (aX.refl _) ?_;intro k b f h;refine aP<|dD Z<|aM<|aK<|eI h Z (λh=>?_) λh=>?_
  .refine cQ<|aK<|iA (λa=>qM b (bN (wC d) k) a=some r) (λa g=>[(2,vI (a.1)),(3,vI (a.2)),(6,j),(7,vI (d.length:Int)),(8,vI (b.2.2))]) (λa g=>[]) ?_ ?_
   .refine aS<|aP<|dV h λi h=>aB (bR Z Z (dH Z) Z Z i) Z<|aB (cK Z (dH Z) Z Z Z gF i) Z<|Q5 Z<|Q6 Z<|aA Z<|aB (wM Z Z) Z<|aM<|eI h Z (λh=>?_) λh=>?_
    .exact aR<|aA Z<|aA Z<|aC Z<|aC Z<|eW<|m_<|j_ ((at' d b.2.2),b.1) () h SF Z
    exact aR<|aA Z<|aA Z<|aB (LU Z Z) Z<|aC Z<|eW<|m_<|j_ (b.1,(max b.2.1 (at' d b.2.2))) () h SF Z
   intro a g h;unfold qM at h;exact aR<|cU Z<|aA Z<|aM<|BD (a.1,a.2,(wI .i64 (b.2.2+(1:Int)))) () h SF Z
  exact fO<|j_ (b.1,b.2.1) () h SF Z
 intro e m h;unfold wB at h;refine Q6 Z<|aA Z<|aC Z<|Q5 Z<|aT ?_;cases h;exact kU () Z Z (RV.tmp Z) (RV.tmp Z) (aX.refl _) aF.nil
def xW (a:Unit):V1 (Int):=
 some (-1:Int)
def g_ (c:aW) (d a:Int) (b:(Int)->V1 (Int)):V1 (Int):=
 if a<(c.length:Int)then(ck (0<=a/\a<(c.length:Int)) (if d=(at' c a)then(some (a))else(b (wI .i64 (a+(1:Int))))))else(xW (()))
def k_ (U:Nat) (a:aW) (b:Int):V1 (Int):=
 bN (g_ a b) U (0:Int)
theorem Wo:aU prog 164:=call164
theorem FX (U:Nat) {d:aW} {e:Int} (f:V0) (r:Int) (h:k_ U d e=some r):
  a_ prog 164 #[f,vI (e)] [Sl aL f d] (λx:Unit=>vI (r)) (λx l=>l) (λ_ l=>l):=by
 refine a_.of func164 Z ntmps164 Z λc=>?_;unfold k_ at h;refine Q4 Z<|aK<|iA (λa=>xW a=some r) (λa g=>[]) (λa g=>[]) ?_ ?_
 .refine Q6 Z<|kG (dH Z) Z<|aA Z<|aM<|aS<|gC (g_ d e) (λb i=>[(0,f),(1,vI (e)),(7,vI (d.length:Int)),(8,vI (b))]) (λb i=>[]) (0:Int) () h SF (aX.refl _) ?_;intro k b i h;refine aP<|dD Z<|aM<|aK<|eI h Z (λh=>?_) λh=>?_
  .refine cQ<|aK<|aS<|Q6 Z<|Q5 Z<|Q6 Z<|aA Z<|aA Z<|dV h λj h=>aB (bR Z Z (dH Z) Z Z j) Z<|aB (cK Z (dH Z) Z Z Z gF j) Z<|bZ Z<|aM<|eI h Z (λh=>?_) λh=>?_
   .refine Q6 Z<|Q5 Z<|aT<|bW<|aJ<|aJ<|bW<|aJ ?_;cases h;exact mA Z
   exact eP<|m_<|aR<|cU Z<|aA Z<|aM<|BD (wI .i64 (b+(1:Int))) () h SF Z
  exact fO<|j_ () (()) h SF Z
 intro a g h;unfold xW at h;refine Q4 Z<|aT ?_;cases h;exact mA Z
def tH (U:Nat) (a:aW) (b:Int):V1 V4:=
 Option.bind (k_ U a b) λc=>(some (decide ((0:Int)<=c)))
theorem aez:aU prog 271:=call271
theorem IV (U:Nat) {b:aW} {d:Int} (a:V0) (r:V4) (h:tH U b d=some r):
  a_ prog 271 #[a,vI (d)] [Sl aL a b] (λx:Unit=>vB (r)) (λx l=>l) (λ_ l=>l):=by
 refine a_.of func271 Z ntmps271 Z λc=>Q4 Z<|Q6 Z<|aA Z<|fP h λe f h=>aI (zBk Wo (FX U a e f) Z (jS [0] Z)) Z λg=>aB (CV Z Z) Z<|Q5 Z<|aT ?_;cases h;exact mA Z
def CZ (a:Int):V1 (Int):=
 some (a)
def Bb (U:Nat) (c:aW) (a:Int) (b:(Int)->V1 (Int)):V1 (Int):=
 Option.bind (tH U c a) λd=>(if d=true then(b (wI .i64 (a+(1:Int))))else(CZ (a)))
def Cq (U:Nat) (a:aW):V1 (Int):=
 bN (Bb U a) U (0:Int)
theorem aey:aU prog 267:=call267
theorem VF (U:Nat) {e:aW} (d:V0) (r:Int) (h:Cq U e=some r):
  a_ prog 267 #[d] [Sl aL d e] (λx:Unit=>vI (r)) (λx l=>l) (λ_ l=>l):=by
 refine a_.of func267 Z ntmps267 Z λc=>?_;unfold Cq at h;refine Q4 Z<|Q4 Z<|aK<|iA (λa=>CZ a=some r) (λa g=>[(3,vI (a))]) (λa g=>[]) ?_ ?_
 .refine aS<|gC (Bb U e) (λb i=>[(0,d),(3,vI (b))]) (λb i=>[]) (0:Int) () h SF (aX.refl _) ?_;intro m b i h;refine aK<|Q6 Z<|aA Z<|fP h λj f h=>aI (zBk aez (IV U d j f) Z (jS [0] Z)) Z λk=>aM<|Ca h Z (λ_ h=>?_) λ_ h=>?_
  .exact cQ<|aS<|aR<|aA Z<|cU Z<|aC Z<|eW<|m_<|BD (wI .i64 (b+(1:Int))) () h SF Z
  exact fO<|j_ (b) () h SF Z
 intro a g h;unfold CZ at h;refine Q6 Z<|Q5 Z<|aT ?_;cases h;exact mA Z
def BM (a:Int):V1 (Int):=
 some (a)
def uZ (c:aW) (a:gO) (b:jF->V1 (Int)):V1 (Int):=
 if a.2<(c.length:Int)then(ck (0<=a.2/\a.2<(c.length:Int)) (b ((min a.1 (at' c a.2)),(wI .i64 (a.2+(1:Int))))))else(BM (a.1))
def Et (U:Nat) (a:Int):V1 (Int):=
 Option.bind (kR U a) λb=>(some (b))
def u_ (U:Nat) (c:aW) (a:gO) (b:jF->V1 (Int)):V1 (Int):=
 if a.2<(c.length:Int)then(ck (0<=a.2/\a.2<(c.length:Int)) (b ((wI .i64 (a.1+(at' c a.2))),(wI .i64 (a.2+(1:Int))))))else(Et U (a.1))
def Db (U:Nat) (b:Int) (a:aW):V1 (Int):=
 if b=(20:Int)then(Option.bind (rY U a) λi=>(Option.bind (kC U (decide (i=(a.length:Int)))) λj=>(some (j))))else(if b=(21:Int)then(Option.bind (rY U a) λk=>(Option.bind (kC U (decide ((0:Int)<k))) λc=>(some (c))))else(if b=(22:Int)then(Option.bind (rY U a) λd=>(some (d)))else(if b=(23:Int)then(Option.bind (oJ U a (λl=>qB U l)) λe=>(some (e)))else(if b=(24:Int)then(bN (uZ a) U ((1073741824:Int),(0:Int)))else(if b=(25:Int)then(Option.bind (rZ U a) λf=>(some (f.1)))else(if b=(26:Int)then(bN (u_ U a) U ((0:Int),(0:Int)))else(if b=(27:Int)then(Option.bind (Cq U a) λg=>(some (g)))else(if b=(28:Int)then(Option.bind (rZ U a) λh=>(some (h.2)))else(if(a.length:Int)=(0:Int)then(some (0:Int))else(ck (0<=(0:Int)/\(0:Int)<(a.length:Int)) (some (at' a (0:Int)))))))))))))
theorem aeu:aU prog 256:=call256
theorem TD (U:Nat) {H:Int} {g:aW} (f:V0) (r:Int) (h:Db U H g=some r):
  a_ prog 256 #[vI (H),f] [Sl aL f g] (λx:Unit=>vI (r)) (λx l=>l) (λ_ l=>l):=by
 refine a_.of func256 Z ntmps256 Z λc=>Q4 Z<|aK<|Q6 Z<|aM<|aS<|aP<|bZ Z<|Q5 Z<|eI h Z (λh=>?_) λh=>?_
 .refine Q6 Z<|fP h λK N h=>aI (zBk PK (EH U f K N) Z (jS [0] Z)) Z λY=>aA Z<|kG (dH Z) Z<|bZ Z<|fP h λL O h=>aI (zBk AK (mG U L O) Z .nil) Z λx7=>Q5 Z<|aT<|bW<|aJ ?_;cases h;exact mA Z
 refine aP<|bZ Z<|Q5 Z<|eI h Z (λh=>?_) λh=>?_
 .refine Q6 Z<|fP h λM z h=>aI (zBk PK (EH U f M z) Z (jS [0] Z)) Z λP=>aB (wM Z Z) Z<|fP h λq A h=>aI (zBk AK (mG U q A) Z .nil) Z λQ=>Q5 Z<|aT<|bW<|aJ ?_;cases h;exact mA Z
 refine aP<|bZ Z<|Q5 Z<|eI h Z (λh=>?_) λh=>?_
 .refine Q6 Z<|fP h λs B h=>aI (zBk PK (EH U f s B) Z (jS [0] Z)) Z λR=>Q5 Z<|aT<|bW<|aJ ?_;cases h;exact mA Z
 refine aP<|bZ Z<|Q5 Z<|eI h Z (λh=>?_) λh=>?_
 .refine Q6 Z<|fP h λt C h=>aI (zBk aew (HO U 265 [] [] aex (λy0 r h=>NH U r h) f t C) Z (jS [0] Z)) Z λS=>Q5 Z<|aT<|bW<|aJ ?_;cases h;exact mA Z
 refine aP<|bZ Z<|Q5 Z<|eI h Z (λh=>?_) λh=>?_
 .refine Q4 Z<|aK<|iA (λd=>BM d=some r) (λd i=>[(5,vI (d))]) (λd i=>[]) ?_ ?_
  .refine Q6 Z<|kG (dH Z) Z<|aA Z<|aM<|aS<|gC (uZ g) (λa j=>[(5,vI (a.1)),(40,f),(41,vI (g.length:Int)),(42,vI (a.2))]) (λa j=>[]) ((1073741824:Int),(0:Int)) () h SF (aX.refl _) ?_;intro I a j h;refine aP<|dD Z<|aM<|aK<|eI h Z (λh=>?_) λh=>?_
   .exact cQ<|aK<|aS<|aP<|dV h λn h=>aB (bR Z Z (dH Z) Z Z n) Z<|aB (cK Z (dH Z) Z Z Z gF n) Z<|Q5 Z<|aR<|aA Z<|aA Z<|aB (ZO Z Z) Z<|aC Z<|eW<|m_<|aR<|cU Z<|aA Z<|aM<|BD ((min a.1 (at' g a.2)),(wI .i64 (a.2+(1:Int)))) () h SF Z
   exact fO<|j_ (a.1) () h SF Z
  intro d i h;unfold BM at h;refine Q6 Z<|Q5 Z<|aT<|bW<|aJ ?_;cases h;exact mA Z
 refine aP<|bZ Z<|Q5 Z<|eI h Z (λh=>?_) λh=>?_
 .refine Q6 Z<|fP h λu D h=>aI (zBk Wz (CE U f u D) Z (jS [0] Z)) Z λT=>aA Z<|kF Z<|kF Z<|aC Z<|Q5 Z<|Q6 Z<|Q5 Z<|aT<|bW<|aJ ?_;cases h;exact mA Z
 refine aP<|bZ Z<|Q5 Z<|eI h Z (λh=>?_) λh=>?_
 .refine Q4 Z<|aK<|iA (λe=>Et U e=some r) (λe k=>[(10,vI (e))]) (λe k=>[]) ?_ ?_
  .refine Q6 Z<|kG (dH Z) Z<|aA Z<|aM<|aS<|gC (u_ U g) (λb m=>[(10,vI (b.1)),(61,f),(62,vI (g.length:Int)),(63,vI (b.2))]) (λb m=>[]) ((0:Int),(0:Int)) () h SF (aX.refl _) ?_;intro J b m h;refine aP<|dD Z<|aM<|aK<|eI h Z (λh=>?_) λh=>?_
   .exact cQ<|aK<|aS<|aP<|dV h λo h=>aB (bR Z Z (dH Z) Z Z o) Z<|aB (cK Z (dH Z) Z Z Z gF o) Z<|Q5 Z<|aR<|aA Z<|aA Z<|cU Z<|aC Z<|eW<|m_<|aR<|cU Z<|aA Z<|aM<|BD ((wI .i64 (b.1+(at' g b.2))),(wI .i64 (b.2+(1:Int)))) () h SF Z
   exact fO<|j_ (b.1) () h SF Z
  intro e k h;refine Q6 Z<|fP h λv E h=>aI (zBk Gs (nX U v E) Z .nil) Z λV=>Q5 Z<|aT<|bW<|aJ ?_;cases h;exact mA Z
 refine aP<|bZ Z<|Q5 Z<|eI h Z (λh=>?_) λh=>?_
 .refine Q6 Z<|fP h λw F h=>aI (zBk aey (VF U f w F) Z (jS [0] Z)) Z λW=>Q5 Z<|aT<|bW<|aJ ?_;cases h;exact mA Z
 refine aP<|bZ Z<|Q5 Z<|eI h Z (λh=>?_) λh=>?_
 .refine Q6 Z<|fP h λy G h=>aI (zBk Wz (CE U f y G) Z (jS [0] Z)) Z λX=>aA Z<|kF Z<|kF Z<|aC Z<|Q5 Z<|Q6 Z<|Q5 Z<|aT<|bW<|aJ ?_;cases h;exact mA Z
 refine eP<|m_<|aK<|Q6 Z<|kG (dH Z) Z<|bZ Z<|aM<|eI h Z (λh=>?_) λh=>?_
 .refine Q4 Z<|aT<|aJ ?_;cases h;exact mA Z
 refine cQ<|Q6 Z<|dV h λp h=>aB (bR Z Z (dH Z) Z Z p) Z<|aB (cK Z (dH Z) Z Z Z gF p) Z<|Q5 Z<|aT ?_;cases h;exact mA Z
end Go.Proofs.YtgciopekomcbfaaGreatDoor