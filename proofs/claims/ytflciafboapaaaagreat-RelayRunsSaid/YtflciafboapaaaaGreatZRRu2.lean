/- Models and proofs. Conditions: none. -/
import Derived.Test.YtflciafboapaaaaGreatZRRu1
set_option linter.unusedVariables false
set_option linter.unusedSimpArgs false
set_option maxHeartbeats 4000000
set_option maxRecDepth 20000
section
set_option linter.unusedSectionVars false
namespace Go.Sx
open Go.RowKit Go.ChangeMaps
def It (b m a:Nat) (c:List Nat):bH where
 p w F:=F b/\w.heap[b]? = some (.mapIter (some m) a c.toArray a)
 mono:=fun⟨e,d⟩ h=>by
  obtain⟨f,g⟩:=h b e (zAj.1 d).1;exact⟨f,by rw[g];exact d⟩
section
variable {κ ν:Type} [DecidableEq κ] {ek:κ->V0} {ev:ν->V0} {R:Type}
theorem O_ (ek:κ->V0) (ev:ν->V0):∀(k:Nat) (l:List (κ×ν)) (e:MapEntry),e∈Ga ek ev k l->∃i a,l[i]? = some a/\e=⟨ek a.1,ev a.2,k+i⟩
 |_,[],e,h=>by simp[Ga]at h
 | k, x :: xs, e, h => by
  rcases zAm.1 h with rfl|h
  ·exact⟨0,x,rfl,rfl⟩
  ·obtain⟨i,a,b,c⟩:=O_ ek ev (k+1) xs e h;exact⟨i+1,a,b,by rw[c,show k+1+i=k+(i+1) by omega]⟩
theorem OX (ek:κ->V0) (ev:ν->V0):∀(k:Nat) (l:List (κ×ν)) (i:Nat) (a:κ×ν),l[i]? = some a->(⟨ek a.1,ev a.2,k+i⟩:MapEntry)∈Ga ek ev k l
 |_,[],i,a,h=>by simp at h
 |k,x::xs,0,a,h=>by simp at h;subst h;exact zAf
 |k,x::xs,i+1,a,h=>by
  have:=OX ek ev (k+1) xs i a (by simpa using h);rw[show k+1+i=k+(i+1) by omega]at this;exact zAl _ this
theorem QE (ek:κ->V0) (ev:ν->V0):∀(k:Nat) (l:List (κ×ν)),(Ga ek ev k l).map (·.born)=List.range' k l.length
 |_,[]=>rfl
 |k,x::xs=>by simp[Ga,QE ek ev (k+1) xs,List.range'_succ]
def MJ (a:κ×ν->Option R->Option R) (K:Option R) (l:List (κ×ν)):Option R:=l.foldr a K
def rem (l:List (κ×ν)) (a:List Nat):List (κ×ν):=((List.range l.length).filter (λi=> !a.contains i)).filterMap (λi=>l[i]?)
theorem NN:∀l:List (κ×ν),(List.range l.length).filterMap (λi=>l[i]?)=l
 | []=>rfl
 |x::xs=>by
  rw[zA9,List.range_succ_eq_map,List.filterMap_cons];simp only[List.getElem?_cons_zero,List.filterMap_map];congr 1;have:=NN xs;simpa [Function.comp_def]using this
theorem abt (l:List (κ×ν)):rem l []=l:=by
 unfold rem;rw[List.filter_eq_self.2 (by simp),NN]
theorem Yz {l:List (κ×ν)} {a:List Nat} {i:Nat} {m:κ×ν} (k:l[i]? = some m) (t:i∉a):∃n o,rem l a=n++m::o/\rem l (a++[i])=n++o:=by
 have g:=bK k;have d:i∈(List.range l.length).filter (λi=> !a.contains i):=by simp[g,t]
 obtain⟨A,B,b⟩:=List.append_of_mem d;have c:((List.range l.length).filter (λi=> !a.contains i)).Nodup:=List.Pairwise.filter _ List.nodup_range;rw[b]at c;have r:i∉A:=λh=>by
  have:=(List.nodup_append.1 c).2.2 i h i zAf;exact this Z
 have s:i∉B:=λh=>by
  have:=(List.nodup_cons.1 (List.nodup_append.1 c).2.1).1;exact this h
 refine⟨A.filterMap (λi=>l[i]?),B.filterMap (λi=>l[i]?),?_,?_⟩
 ·unfold rem;rw[b,List.filterMap_append,List.filterMap_cons,k]
 ·unfold rem;have e:(List.range l.length).filter (λj=> !(a++[i]).contains j)=((List.range l.length).filter (λj=> !a.contains j)).filter (λj=>decide (j≠i)):=by
   rw[List.filter_filter];apply List.filter_congr;intro j _;rw[Bool.eq_iff_iff];simp[and_comm]
  rw[e,b,List.filter_append,List.filter_cons];have p:A.filter (λj=>decide (j≠i))=A:=List.filter_eq_self.2 (λj f=>by simp;rintro rfl;exact r f);have q:B.filter (λj=>decide (j≠i))=B:=List.filter_eq_self.2 (λj f=>by simp;rintro rfl;exact s f);rw[p,q,List.filterMap_append.symm];simp
theorem NL {c:κ×ν->Option R->Option R} (f:∀a b x,c a (c b x)=c b (c a x)) (K:Option R) (d:κ×ν) (e:List (κ×ν)):∀g:List (κ×ν),MJ c K (g++d::e)=c d (MJ c K (g++e))
 | []=>rfl
 |x::xs=>by
  have:=NL f K d e xs;unfold MJ at this ⊢;rw[List.cons_append,List.cons_append,List.foldr_cons,List.foldr_cons,this,f]
end
section
variable {P:Program} {rd:Option Nat} {c:yO} {n:Sz} {σ σ':Fr} {M L M' L':List bH} {Q:Exit->Act->World->Prop} {ops:Array Oper} {rest:List Oper}
variable {d:Option Tmp} {ty:TypeId} {pos:String} {aft:Array Edge} {g:Option (Nat×Bool)}
variable {κ ν:Type} [DecidableEq κ] {ek:κ->V0} {ev:ν->V0} {R:Type}
theorem aP.range [d_ P] (j:Nat) {T f h:TypeId} {q r:Nat} {z:V0} {x:Operand} {m:Nat} {l:List (κ×ν)} (p:Go.Sx.ev σ x=some (.map (some m))) (o:M[j]? = some (Mp ek ev m l)) (k:d_.tab P T=some ⟨.map f h,q,r,z⟩):
  aP P c n σ M L ⟨d,.range T x,ty,pos,aft,g⟩ (λb:Nat=> .pointer (some ⟨b,0,none⟩)) (λb=>It b m l.length []::M) (λ_=>L):=λa w s t=>by
 obtain⟨F,i⟩:=t.res o;have e:(execOp a.eval ⟨d,.range T x,ty,pos,aft,g⟩).run P w = .ok (.value (.pointer (some ⟨w.heap.size,0,none⟩))) (w.alloc (.mapIter (some m) l.length #[] l.length)):=by
  simp[execOp,s.eval p,run_range_map w T f h m _ _ (d_.ok k).und i.2]
 simp only[Oper.wp,e,Oper.upon];exact⟨w.heap.size,rfl,t.push _ ⟨rfl,heap_alloc_new w _⟩⟩
def IA (ek:κ->V0) (ev:ν->V0) (l:List (κ×ν)):Option Nat->V0
 |none=> .tuple #[.bool false]
 |some i=>match l[i]? with
  |some a=> .tuple #[.bool true,ek a.1,ev a.2]
  |none=>undef
def adN (b:Nat) (a:List Nat):Option Nat->Prop
 |none=>∀i,i<b->i∈a
 |some i=>i<b/\i∉a
def Uq (M:List bH) (f b m e:Nat) (a:List Nat):Option Nat->List bH
 |none=>M
 |some i=>M.set f (It b m e (a++[i]))
theorem St.pureL {w:World} {p:Prop} (hp:p) (t:St c M L w):St c M (acA p::L) w:=by
 obtain⟨ho,F,hF,hL⟩:=t;refine⟨ho,F,hF,λf hf=> ?_⟩
 rcases zAm.1 hf with rfl|hf
 ·exact hp
 ·exact hL f hf
theorem aP.next (jm ji:Nat) {x:Operand} {b m:Nat} {l:List (κ×ν)} {seen:List Nat} (hx:Go.Sx.ev σ x=some (.pointer (some ⟨b,0,none⟩))) (hf:M[jm]? = some (Mp ek ev m l)) (hi:M[ji]? = some (It b m l.length seen)):
  aP P c n σ M L ⟨d,.next x false,ty,pos,aft,g⟩ (IA ek ev l) (Uq M ji b m l.length seen) (λo=>acA (adN l.length seen o)::L):=λa w s t=>by
 obtain⟨F,hF⟩:=t.res hf;obtain⟨G,hG⟩:=t.res hi;have hold:∀e∈(Ga ek ev 0 l).toArray.toList,e.born<l.length:=λe he=>by
  obtain⟨i,kv,h1,h2⟩:=O_ ek ev 0 l e (by simpa using he);rw[h2];have:=bK h1;simp;omega
 rcases run_next_at (P:=P) w ty b m l.length l.length seen.toArray (Ga ek ev 0 l).toArray l.length hG.2 hF.2 hold (zAe _)with⟨h0,hr⟩|⟨e,he,w1,hw1,hr⟩
 ·have hrun:(execOp a.eval ⟨d,.next x false,ty,pos,aft,g⟩).run P w = .ok (.value (.tuple #[.bool false])) w:=by
   simp[execOp,s.eval hx,hr]
  simp only[Oper.wp,hrun,Oper.upon];refine⟨none,rfl,t.pureL λi hi'=> ?_⟩
  obtain⟨kv,hkv⟩:∃kv,l[i]? = some kv:=⟨_,zA2 hi'⟩
  have:=all_seen _ _ h0 _ (by simpa using OX ek ev 0 l i kv hkv);simpa using this
 ·have hml:=_root_.Go.mem_left he;obtain⟨i,kv,h1,h2⟩:=O_ ek ev 0 l e (by simpa using hml.1);subst h2;rw[Nat.zero_add]at hr hml;have hrun:(execOp a.eval ⟨d,.next x false,ty,pos,aft,g⟩).run P w = .ok (.value (.tuple #[.bool true,ek kv.1,ev kv.2])) (setBlock w1 b (.mapIter (some m) l.length (seen.toArray.push i) l.length)):=by
   simp[execOp,s.eval hx,hr]
  simp only[Oper.wp,hrun,Oper.upon];have t1:St c M L w1:=by
   rcases hw1 with rfl|rfl
   ·exact t
   ·exact t.ext ((Below.refl _ _).drew)
  refine⟨some i,by simp[IA,h1],St.pureL ⟨bK h1,by simpa using hml.2⟩ ?_⟩
  refine t1.upd hi Z Z Z (by simp[setBlock]) λF hF _=>⟨λk _ hk=> ?_,F,⟨hF.1,?_⟩,λ_ h=> .inl h⟩
  ·simp only[setBlock];rw[zB6 (λe=>hk (by subst e;exact hF.1))]
  ·simp only[setBlock];rw[zBa (zAj.1 hF.2).1];simp
theorem aP.entry (A z:Nat) {x:Operand} {b m i:Nat} {l:List (κ×ν)} {f:List Nat} {e:κ×ν} (j:l[i]? = some e) (y:Go.Sx.ev σ x=some (.pointer (some ⟨b,0,none⟩))) (q:M[A]? = some (Mp ek ev m l)) (r:M[z]? = some (It b m l.length (f++[i]))):
  aP P c n σ M L ⟨d,.entry x,ty,pos,aft,g⟩ (λ_:Unit=> .tuple #[ek e.1,ev e.2]) (λ_=>M) (λ_=>L):=λa w s t=>by
 obtain⟨F,o⟩:=t.res q;obtain⟨G,p⟩:=t.res r;have k:=OX ek ev 0 l i e j;rw[Nat.zero_add]at k;have u:((Ga ek ev 0 l).toArray.toList.map (·.born)).Nodup:=by
  simp only[QE];exact List.nodup_range'
 have v:=run_entry_at (P:=P) w b m l.length f.toArray (Ga ek ev 0 l).toArray l.length ⟨ek e.1,ev e.2,i⟩ (by rw[p.2];simp) o.2 (by simpa using k) u;have h:(execOp a.eval ⟨d,.entry x,ty,pos,aft,g⟩).run P w = .ok (.value (.tuple #[ek e.1,ev e.2])) w:=by
  simp[execOp,s.eval y,v]
 simp only[Oper.wp,h,Oper.upon];exact⟨(),by first|rfl|trivial,t⟩
theorem ZE {G:Act->World->Prop} (σ':Fr) (M' L':List bH) (f:Cb σ σ') (e:aZ M M') (b:aI [] L L') (h:J c n σ' M' L' G):J c n σ M L G:=λa w s t=>h a w (s.weak f) (t.weakE e b)
theorem Sa {e:TypeId} {d:TypeDesc} (p:P.underlying e=some d) (m:∀b k w,(Instr.checkKey b 10000 e (ek k)).run P w = .ok () w) (o:∀a b,Instr.sameNow d (ek a) (ek b)=none)
  (r:∀a b w,(Op.equal e (ek a) (ek b)).run P w = .ok (decide (a=b)) w) (f:∀k,Instr.sameBits 10000 (ek k) (ek k)=true):Lg P e ek:=by
 refine⟨m,λ{ν'} ev' k l w=> ?_,f⟩
 have j:∀(l:List (κ×ν')) (i:Nat),(Instr.findAsking e (ek k) (Ga ek ev' i l) i).run P w = .ok (Vu ev' k i l) w:=by
  intro l
  induction l with
  |nil=>intro i;simp[Ga,Vu,Instr.findAsking]
  |cons x q t=>
   intro i;simp only[Ga,Vu,Instr.findAsking];simp[r];by_cases h:k=x.1
   ·simp[h]
   ·simp[h,t]
 unfold Instr.findKey;cases l with
 |nil=>simp[Ga,Vu,Instr.findNow,run_underlying p w]
 |cons x q=>
  have s:Instr.findNow d (ek k) (Ga ek ev' 0 (x::q)) 0=none:=by simp[Ga,Instr.findNow,o]
  simp[run_underlying p w,s,j]
def Wz {R:Type} (c:yO) (n:Sz) (σ:Fr) (M L:List bH) (x:Option R) (r:R) (a:Act) (w:World):Prop:=x=some r/\I_ n σ a/\St c M L w
theorem R_ {R:Type} {x:Option R} {r:R} (h:x=some r) (e:Cb σ' σ) (b:aZ M' M) (a:aI [] L' L):J c n σ' M' L' (Wz c n σ M L x r):=λ_ _ s t=>⟨h,s.weak e,t.weakE b a⟩
theorem UY (p:κ×ν->Option R->Option R) {K:Option R} {r:R} (O s:Nat) {b m:Nat} {l:List (κ×ν)} (hc:∀a b x,p a (p b x)=p b (p a x)) (h:MJ p K l=some r)
  (hf:M[O]? = some (Mp ek ev m l)) (U:M[s]? = some (It b m l.length [])) (af:Nat.beq s O=false) {t0 S T:Tmp} (hx:lk σ t0=some (.pointer (some ⟨b,0,none⟩))) (ab:Nat.blt S n.sz=true) (E:Nat.blt T n.sz=true)
  {id ex:Nat} {y1 y2:TypeId} {q1 q2:String} {f1 f2:Array Edge} {y:Code}
  (C:∀(t:κ×ν) (i:Nat) (k:List Nat) (x:Option R),l[i]? = some t->p t x=some r->
   J c n ((T,.bool true)::(S,.tuple #[.bool true,ek t.1,ev t.2])::σ) (M.set s (It b m l.length (k++[i]))) L (y.wpr rd P (Exit.then (Wz c n σ (M.set s (It b m l.length (k++[i]))) L x r) Q)))
  (V:∀k,K=some r->J c n ((T,.bool false)::(S,.tuple #[.bool false])::σ) (M.set s (It b m l.length k)) L (Q (.exit ex))):
  J c n σ M L ((Code.loop (Code.seq (Code.region id [⟨some S,.next (.tmp t0) false,y1,q1,f1,none⟩,⟨some T,.extract (.tmp S) 0,y2,q2,f2,none⟩].toArray false) (Code.seq (Code.cond (.tmp T) .skip (.exit ex)) y))).wpr rd P Q):=by
 have z:=bK U;have ae:O≠s:=λe=>by subst e;simp at af
 have H:M.set s (It b m l.length [])=M:=by
  apply List.ext_getElem?;intro q;by_cases eq:q=s
  ·subst eq;rw[zAh z,U]
  ·rw[zAq (Ne.symm eq)]
 refine Wr (X:=List Nat) (λk=>k.Nodup/\(∀i∈k,i<l.length)/\MJ p K (rem l k)=some r) (λ_=>σ) (λk=>M.set s (It b m l.length k)) (λ_=>L) (λk=>l.length - k.length) [] ⟨List.nodup_nil,by simp,by rw[abt];exact h⟩ (Cb.refl _) (by rw[H];exact aZ.refl _) (λ_ h=>h) ?_;rintro k ⟨G,F,v⟩;have ac:(M.set s (It b m l.length k))[O]? = some (Mp ek ev m l):=by rw[zAq (Ne.symm ae)];exact hf
 have ad:(M.set s (It b m l.length k))[s]? = some (It b m l.length k):=zAh z;refine aL (aQ (aK (aP.next O s (x:= .tmp t0) hx ac ad) ab λo=> ?_));refine acy zAf λho=> ?_;refine acz (M':=Uq (M.set s (It b m l.length k)) s b m l.length k o) (L':=L) ?_ (Cb.refl _) (aZ.refl _) (λf hf=>zAl _ hf);cases o with
 | none =>
  refine aB (qS (vs:=[.bool false]) (by simp[IA,lk,Go.Sx.ev]) Z) E (fJ (Gt (aL (Oj (by simp[lk,Go.Sx.ev]) (rP (fX (fX ?_)))))));refine V k ?_;have:rem l k=[]:=by
   unfold rem;rw[List.filter_eq_nil_iff.2 (λi U=>by simpa using ho i (by simpa using U))];rfl
  rw[this]at v;exact v
 | some i =>
  obtain⟨W,Y⟩:=ho;obtain⟨t,A⟩:∃t,l[i]? = some t:=⟨_,zA2 W⟩
  have N:IA ek ev l (some i) = .tuple #[.bool true,ek t.1,ev t.2]:=by simp[IA,A]
  obtain⟨l1,l2,e1,e2⟩:=Yz A Y;have B:p t (MJ p K (rem l (k++[i])))=some r:=by
   rw[e2,<-NL hc K t l2 l1,<-e1];exact v
  have aa:Uq (M.set s (It b m l.length k)) s b m l.length k (some i)=M.set s (It b m l.length (k++[i])):=by simp[Uq]
  rw[N,aa];refine aB (qS (vs:=[.bool true,ek t.1,ev t.2]) (by simp[lk,Go.Sx.ev]) Z) E (fJ (Gt (aL (Ol (by simp[lk,Go.Sx.ev]) (eM (Gt ?_))))));refine Ws (C t i k _ A B) λa w hw=>My (λe a' w' q=> ?_) hw;cases e with
  | normal =>
   obtain⟨ai,ag,ah⟩:=q;refine⟨k++[i],⟨?_,?_,ai⟩,?_,ag,ah⟩
   ·rw[List.nodup_append];exact⟨G,by simp,λa ha b D=>by simp at D;subst D;rintro rfl;exact Y ha⟩
   ·intro j u;rcases zB0.1 u with u|u
    ·exact F j u
    ·simp at u;subst u;exact W
   ·have:k.length<l.length:=by
     have I:(k++[i]).length<=(List.range l.length).length:=by
      apply List.Nodup.length_le_of_subset
      ·rw[List.nodup_append];exact⟨G,by simp,λa ha b D=>by simp at D;subst D;rintro rfl;exact Y ha⟩
      ·intro j u;rcases zB0.1 u with u|u
       ·simpa using F j u
       ·simp at u;subst u;simpa using W
     simp at I;omega
    simp;omega
  |exit id=>exact q
  |goto l=>exact q
  |ret=>exact q
  |panic ch=>exact q
  |outgrown=>exact q
end
end Go.Sx
end
namespace Go.Sx
open Go.RowKit
section
variable {P:Program} {rd:Option Nat} {c:yO} {n:Sz} {σ σ':Fr} {M L M' L':List bH} {Q:Exit->Act->World->Prop} {ops:Array Oper} {rest:List Oper} {K:Act->World->Prop} {G:Act->World->Prop}
variable {d:Option Tmp} {D:Nat} {ty:TypeId} {pos:String} {aft:Array Edge} {g:Option (Nat×Bool)}
variable {α β:Type} {e:bM α} {r:eJ α}
def FX:V0->Bool
 | .slice none _ _=>true
 |_=>false
theorem Nf {v:V0} {i:List α} (o:aF M L (Sl r v i)) (k:FX v=true->i=[]->J c n σ M L G) (l:FX v=false->J c n σ M L G):J c n σ M L G:=λa w s t=>by
 cases f:FX v with
 |false=>exact l f a w s t
 |true=>
  refine k f ?_ a w s t;obtain⟨S,u,j,p,_,h⟩:=o.st t;subst p;rcases h with h|⟨b,q,m,_⟩
  ·exact h
  ·subst m;cases f
theorem VS {T E:TypeId} {f:Ty} {w:World} {a:Option Addr} {l k:Nat} (j:tS P T f) (o:f.desc = .slice E):(binOp .eql T (.slice a l k) (.slice none 0 0)).run P w = .ok (.bool (FX (.slice a l k))) w:=by
 have i:=j.run_und w;have b:∀m:Nat,(Op.equalIn (m+1) T (.slice a l k) (.slice none 0 0)).run P w = .ok (FX (.slice a l k)) w:=by
  intro m;unfold Op.equalIn;rw[o]at i;cases a<;>simp[i,FX]
 have h:(Op.equal T (.slice a l k) (.slice none 0 0)).run P w = .ok (FX (.slice a l k)) w:=b 9999;simp[binOp,h]
theorem KG [d_ P] {T E:TypeId} {A B:Nat} {z:V0} {x:Operand} {v:V0} {i:List α} {b:Bool} {C:TypeId} (y:ev σ x=some v) (q:aF M L (Sl r v i)) (o:FX v=b) (m:d_.tab P T=some ⟨.slice E,A,B,z⟩):
  Y P c n σ M L ⟨d,.binOp .eql T x (.const (.slice none 0 0)) C,ty,pos,aft,g⟩ (.bool b):=λa w s t=>by
 obtain⟨S,j,f,u,_,_⟩:=q.st t;subst u;have h:=VS (w:=w) (a:=j) (l:=i.length) (k:=f) (d_.ok m) Z;have p:a.eval (.const (.slice none 0 0)) = .slice none 0 0:=rfl;rw[o]at h;simp[execOp,s.eval y,p,eqGuard,h]
def B_ (P:Program) (f:FuncId) (a:Array V0) (Min L:List bH) {A:Type} (b:A->V0) (h:A->List bH->List bH):Prop:=
 ∀c:yO,St c Min L c.w0->Calls P f a c.w0 λe i=>∃x:A,e = .returned (b x)/\St c (h x []) [] i
theorem B_.of {A:Type} {b:A->V0} {q:A->List bH->List bH} {f:FuncId} {i:Func} {a:Code} {vs:List V0} {m:Nat} {Min:List bH}
  (u:P.funcs[f]? = some i) (s:i.body=some a) (x:i.ntmps=m) (w:Nat.ble vs.length m=true)
  (h:∀c:yO,J c ⟨m,[]⟩ (DI 0 vs) Min L (a.wpr none P (pN P i (Qa c b q (λ_ l=>l))))):B_ P f vs.toArray Min L b q:=λc t=>by
 have o:vs.length<=m:=by simpa using w
 refine yW u s (h c _ _ ⟨rfl,by simp[x,o],?_⟩ t);intro t v y;obtain⟨_,j⟩:=FU vs 0 t v y;rw[Nat.sub_zero]at j;have p:t<vs.length:=by
  rcases zAu t vs.length with k|k
  ·exact k
  ·rw[zAo k]at j;cases j
 rw[zBd (by simpa using p)];simpa using j
theorem Qg {w S:World} {l H v:List bH} {F:Nat->Nat->Prop} {U:Nat->Prop} (y:Eb c.O c.w0 w) (o:Own c w (l++H) F) (Y:∀f∈L,f.p w (Dy c F))
  (t:St ⟨w,U,λk=>∃i,i<l.length/\F i k⟩ v [] S):St c (v++H) L S:=by
 obtain⟨s,T,u,_⟩:=t;have C:=s.size;have x:∀k,k<w.heap.size->(∀i,i<l.length->¬F i k)->S.heap[k]? = w.heap[k]? := λk a hn=>s.block k a (fun⟨i,B,o⟩=>hn i B o);have b:∀i k,T i k->w.heap.size<=k\/∃j,j<l.length/\F j k:=λi k a=>(u.rng i k a).1;refine⟨⟨s.os.trans y.os,s.tape.trans y.tape,s.output.trans y.output,zB1 y.size C,λk a W=> ?_⟩,
  λi k=>(i<v.length/\T i k)\/(v.length<=i/\F (i - v.length+l.length) k),⟨?_,?_,?_⟩,λf hf=> ?_⟩
 ·refine(x k (zB4 a y.size) (λi _ I=> ?_)).trans (y.block k a W);rcases(o.rng i k I).1 with h|h
  ·omega
  ·exact W h
 ·intro i m E;by_cases B:i<v.length
  ·rw[zAc B]at E;exact bH.same (u.res i m E) (λk a=> .inl ⟨B,a⟩) (λ_ _ _=>rfl)
  ·rw[zAb (by omega)]at E;have R:(l++H)[i - v.length+l.length]? = some m:=by
    rw[zAb (by omega),Nat.add_sub_cancel];exact E
   exact bH.same (o.res _ m R) (λk a=> .inr ⟨by omega,a⟩) (λk a N=>x k N (λj X J=>by have:=o.dis _ _ k J a;omega))
 ·rintro i k (⟨_,a⟩|⟨_,a⟩)
  ·refine⟨?_,(u.rng i k a).2⟩
   rcases b i k a with h|⟨j,_,h⟩
   ·exact .inl (zB1 y.size h)
   ·exact(o.rng j k h).1
  ·exact⟨(o.rng _ k a).1,zB4 (o.rng _ k a).2 C⟩
 ·rintro i j k (⟨B,z⟩|⟨B,z⟩) (⟨X,A⟩|⟨X,A⟩)
  ·exact u.dis i j k z A
  ·rcases b i k z with h|⟨q,hq,h⟩
   ·have:=(o.rng _ k A).2;omega
   ·have:=o.dis _ _ k h A;omega
  ·rcases b j k A with h|⟨q,hq,h⟩
   ·have:=(o.rng _ k z).2;omega
   ·have:=o.dis _ _ k h z;omega
  ·have:=o.dis _ _ k z A;omega
 ·refine f.mono (Y f hf) λk a N=>⟨⟨a.1,?_⟩,x k N (λi _=>a.2 i)⟩
  rintro i (⟨_,h⟩|⟨_,h⟩)
  ·rcases b i k h with V|⟨q,_,V⟩
   ·omega
   ·exact a.2 q V
  ·exact a.2 _ h
theorem Nj {w:World} {a u t:List bH} {F:Nat->Nat->Prop} (o:Own c w (a++u) F) (y:∀f∈L,f.p w (Dy c F)) (B:aI u L t):
  St ⟨w,λk=>∀i,i<a.length->¬F i k,λk=>∃i,i<a.length/\F i k⟩ a t w:=by
 refine⟨Eb.refl _,λi k=>i<a.length/\F i k,⟨λi m s=> ?_,λi k b=>⟨.inr ⟨i,b⟩,(o.rng i k b.2).2⟩,λi j k v x=>o.dis i j k v.2 x.2⟩,λf z=> ?_⟩
 ·have l:i<a.length:=by
   rcases zAu i a.length with q|q
   ·exact q
   ·rw[zAo q]at s;cases s
  exact bH.same (o.res i m (by rw[zAc l];exact s)) (λk b=>⟨l,b⟩) (λ_ _ _=>rfl)
 ·refine B f z w (Dy c F) (λj k=>F (j+a.length) k) _ y (λj m A=> ?_) (λk b=> ?_) (λj k b=> ?_)
  ·exact o.res _ m (by rw[zAb (by omega),Nat.add_sub_cancel];exact A)
  ·exact⟨.inl λi _=>b.2 i,λi l=>b.2 i l.2⟩
  ·exact⟨.inl λi l h=>by have:=o.dis _ _ k h b;omega,λi l=>by have:=o.dis _ _ k l.2 b;omega⟩
theorem EF {A:Type} {k:A->V0} {m:A->List bH->List bH} {f:FuncId} {p:List Operand} {vs:List V0} {b:Array TypeId} {q Min Mr:List bH} (z:bB P f)
  (C:B_ P f vs.toArray Min q k m) (H:p.map (ev σ)=vs.map some) (y:aZ M (Min++Mr)) (v:aI Mr L q) (o:∀x l,m x l=m x []++l):
  aP P c n σ M L ⟨d,.call ⟨.value (.func f),p.toArray,b⟩,ty,pos,aft,g⟩ k (λx=>m x Mr) (λ_=>L):=λa w s t=>by
 have j:(execOp a.eval ⟨d,.call ⟨.value (.func f),p.toArray,b⟩,ty,pos,aft,g⟩).run P w = .ok (.enter f vs.toArray) w:=by
  have e:=evs s H;simp[execOp,resolve,Act.eval,Deferred.ofValue,invoke,z _ w,e]
 simp only[Oper.wp,j,Oper.upon];obtain⟨B,F,u,i⟩:=t.weak (L':=L) y (λ_ h=>h);refine(C _ (Nj u i v)).mono ?_;rintro e I ⟨x,rfl,E⟩;refine⟨x,rfl,?_⟩
 rw[o];exact Qg B u i E
theorem FG {A:Type} {k:A->V0} {m:A->List bH->List bH} {f:FuncId} {t:Tmp} {q:List Operand} {vs cs:List V0} {b:Array TypeId} {u Min Mr:List bH} (C:bB P f)
  (p:lk σ t=some (.func (.func f) #[] cs.toArray)) (H:B_ P f (vs++cs).toArray Min u k m) (I:q.map (ev σ)=vs.map some) (B:aZ M (Min++Mr)) (z:aI Mr L u) (o:∀x l,m x l=m x []++l):
  aP P c n σ M L ⟨d,.call ⟨.value (.tmp t),q.toArray,b⟩,ty,pos,aft,g⟩ k (λx=>m x Mr) (λ_=>L):=λa w s J=>by
 have j:(execOp a.eval ⟨d,.call ⟨.value (.tmp t),q.toArray,b⟩,ty,pos,aft,g⟩).run P w = .ok (.enter f (vs++cs).toArray) w:=by
  have e:=evs s I;have y:a.eval (.tmp t) = .func (.func f) #[] cs.toArray:=s.eval (x:= .tmp t) p;simp[execOp,resolve,y,Deferred.ofValue,invoke,C _ w,e]
 simp only[Oper.wp,j,Oper.upon];obtain⟨E,F,v,i⟩:=J.weak (L':=L) B (λ_ h=>h);refine(H _ (Nj v i z)).mono ?_;rintro e N ⟨x,rfl,p⟩;refine⟨x,rfl,?_⟩
 rw[o];exact Qg E v i p
def ZF {A B:Type} (c:yO) (C:A->Prop) (a:A->B->V0) (f b:A->B->List bH) (e:Ending) (w:World):Prop:=∃x y,C x/\e = .returned (a x y)/\St c (f x y) (b x y) w
theorem SJ {j:Func} {a:List V0} {m:Nat} (l:j.ntmps=m) (k:Nat.ble a.length m=true):I_ ⟨m,[]⟩ (DI 0 a) {tmps:=a.toArray++Array.replicate (j.ntmps - a.toArray.size) undef,defers:=[]}:=by
 have h:a.length<=m:=by simpa using k
 refine⟨rfl,by simp[l,h],?_⟩
 intro t v o;obtain⟨_,b⟩:=FU a 0 t v o;rw[Nat.sub_zero]at b;have i:t<a.length:=by
  rcases zAu t a.length with f|f
  ·exact f
  ·rw[zAo f]at b;cases b
 rw[zBd (by simpa using i)];simpa using b
structure wL (P:Program) (c:yO) (n:Sz) (σ:Fr) (M L:List bH) (o:Oper) (f:FuncId) (vs:List V0):Prop where
 run:∀a w,I_ n σ a->St c M L w->(execOp a.eval o).run P w = .ok (.enter f vs.toArray) w
theorem wL.fn {f:FuncId} {xs:List Operand} {vs:List V0} {b:Array TypeId} (h:bB P f) (i:xs.map (ev σ)=vs.map some):wL P c n σ M L ⟨d,.call ⟨.value (.func f),xs.toArray,b⟩,ty,pos,aft,g⟩ f vs:=⟨λa w s _=>by
 have e:=evs s i;simp[execOp,resolve,Act.eval,Deferred.ofValue,invoke,h _ w,e]⟩
theorem UX {f:FuncId} {t:Tmp} {h:List Operand} {us cs vs:List V0} {b:Array TypeId} (j:bB P f) (k:lk σ t=some (.func (.func f) #[] cs.toArray)) (m:h.map (ev σ)=us.map some) (l:us++cs=vs):wL P c n σ M L ⟨d,.call ⟨.value (.tmp t),h.toArray,b⟩,ty,pos,aft,g⟩ f vs:=⟨λa w s _=>by
 have e:=evs s m;have i:a.eval (.tmp t) = .func (.func f) #[] cs.toArray:=s.eval (x:= .tmp t) k;subst l;simp[execOp,resolve,i,Deferred.ofValue,invoke,j _ w,e]⟩
def Hi (P:Program) (c:yO) (n:Sz) (σ:Fr) (M L:List bH) (b:Func) (v:V0):Prop:=∀a w,I_ n σ a->St c M L w->(results b a.tmps).run P w = .ok v w
variable {fn:Func}
theorem Hi.r0 (b:fn.results = #[]):Hi P c n σ M L fn (.tuple #[]):=λa w _ _=>by simp[results,b]
theorem Hi.r1 {f:ResultVar} {h:V0} (b:fn.results = #[f]) (i:RV P c n σ M L f h):Hi P c n σ M L fn h:=λa w s t=>by
 have:=i a w s t;simp only[CW,b];simp[this]
theorem Hi.r2 {i j:ResultVar} {k l:V0} (b:fn.results = #[i,j]) (f:RV P c n σ M L i k) (h:RV P c n σ M L j l):Hi P c n σ M L fn (.tuple #[k,l]):=λa w s t=>by
 have f:=f a w s t;have h:=h a w s t;simp only[CW,b];simp[f,h]
theorem mW {A B:Type} {m:Sz} {v:V0} {f:Exit} {C:A->Prop} {b:A->B->V0} {k j:A->B->List bH} (x:A) (y:B) (l:C x) (i:f = .ret\/f = .normal) (q:Hi P c m σ' M L fn v) (u:v=b x y) (p:aZ M (k x y)) (o:aI [] L (j x y)) (h:m.ds=[]:=by rfl):
  J c m σ' M L (pN P fn (ZF c C b k j) f):=λa w s t=>by
 exact body_end i (s.defers.trans h) (q a w s t) ⟨x,y,l,by rw[u],t.weakE p o⟩
end
section
variable {P:Program} {rd:Option Nat} {c:yO} {n:Sz} {σ σ':Fr} {M L M' L':List bH} {Q:Exit->Act->World->Prop} {ops:Array Oper} {rest:List Oper} {K:Act->World->Prop} {G:Act->World->Prop}
variable {d:Option Tmp} {D:Nat} {ty:TypeId} {pos:String} {aft:Array Edge} {g:Option (Nat×Bool)}
variable {α β:Type} {e:bM α} {r:eJ α}
def Ik (v:V0) (m:Nat):Prop:=match v with
 | .slice _ _ cap=>m<=cap
 |_=>False
theorem Know.cap (q:Nat) {v:V0} {xs:List α} (f:M[q]? = some (Ar e v xs)):∀c w,St c M L w->Ik v xs.length:=λc w t=>by
 obtain⟨F,_,_,h⟩:=t.res f;rcases h with⟨rfl,rfl⟩|⟨b,i,cap,T,a,rfl,_,_,h,_⟩
 ·exact zAe _
 ·exact h
theorem Ik.slq {v:V0} {m k q:Nat} (h:Ik v m):Ik (slq v 0 k q) m:=by
 cases v<;>simp_all [Ik,Go.Sx.slq]
theorem Mb {b f a l k q:Nat}:slq (.slice (some ⟨b,f,none⟩) l a) 0 k q = .slice (some ⟨b,f,none⟩) k a:=by
 simp[slq,fF]
theorem WJ [d_ P] {T E:TypeId} {R U u V:Nat} {z W:V0} {A:TypeDesc} {x p o q:Operand} {v:V0} {i k m:Int} {y:List α} (O:ev σ x=some v) (j:ev σ p=some (.int .i64 i)) (f:ev σ o=some (.int .i64 k)) (l:ev σ q=some (.int .i64 m)) (J:aF M L (Sl r v y))
  (I:d_.tab P T=some ⟨.slice E,R,U,z⟩) (H:d_.tab P E=some ⟨A,u,V,W⟩) (h:0<=i/\i<=k/\k<=m/\m<=y.length):Y P c n σ M L ⟨d,.slice T x (some p) (some o) (some q),ty,pos,aft,g⟩
   (match v with|.slice a _ _=> .slice (if m.toNat=i.toNat then a else a.map (·.add (i.toNat*u))) (k.toNat - i.toNat) (m.toNat - i.toNat)|v=>v):=λa w s t=>by
 obtain⟨S,X,b,N,hb,_⟩:=J.st t;subst N;have B:0<=m/\m<=(b:Int):=by omega
 have C:0<=k/\k<=((m.toNat:Nat):Int):=by omega
 have F:0<=i/\i<=((k.toNat:Nat):Int):=by omega
 simp[execOp,s.eval O,s.eval j,s.eval f,s.eval l,Instr.sliceAt,Instr.slice,(d_.ok I).run_und w,Instr.sliceBounds,Instr.sliceBound,asIntOf,(d_.ok H).run_size w,B,C,F];rw[if_pos (by omega),if_pos (by omega)]
theorem Ql [d_ P] (q:Nat) {T E:TypeId} {V W A X:Nat} {z z':V0} {C:TypeDesc} {x y u:Operand} {v:V0} {i k:Int} {xs:List α} (S:ev σ x=some v) (o:ev σ y=some (.int .i64 i)) (m:ev σ u=some (.int .i64 k)) (O:M[q]? = some (Ar e v xs))
  (N:d_.tab P T=some ⟨.slice E,V,W,z⟩) (J:d_.tab P E=some ⟨C,A,X,z'⟩) (j:Ik v k.toNat) (h:0<=i/\i<=k):Y P c n σ M L ⟨d,.slice T x (some y) (some u) none,ty,pos,aft,g⟩ (slq v i.toNat k.toNat A):=λa w s t=>by
 obtain⟨F,_,_,R⟩:=t.res O;obtain⟨p,l,f,rfl⟩:∃p l f,v = .slice p l f:=by
  rcases R with⟨rfl,_⟩|⟨b,U,f,T',B,rfl,_⟩
  ·exact⟨_,_,_,rfl⟩
  ·exact⟨_,_,_,rfl⟩
 have hc:k.toNat<=f:=j;have H:0<=k/\k<=(f:Int):=by omega
 have I:0<=i/\i<=((k.toNat:Nat):Int):=by omega
 simp[execOp,s.eval S,s.eval o,s.eval m,Instr.sliceAt,Instr.slice,(d_.ok N).run_und w,Instr.sliceBounds,Instr.sliceBound,asIntOf,(d_.ok J).run_size w,slq,H,I];omega
theorem Na {a:Array V0} {k:Nat} {u:V0} (f:0<a.size) (h:u∈(Builtin.zeroCells a k).toList):u∈a.toList:=by
 unfold Builtin.zeroCells at h;simp only[Array.toList_map,zB9]at h;obtain⟨i,_,rfl⟩:=h;have b:i%a.size<a.size:=Nat.mod_lt _ f;rw[getElem!_pos a (i%a.size) b];simp
theorem VV (a:List V0) (b k o:Nat) (f:List V0) (i:b+k<=o) (h:o+f.length<=a.length):
  ((a.take o++f++a.drop (o+f.length)).drop b).take k=(a.drop b).take k:=by
 rw[zAz,List.drop_append_of_le_length (by simp;omega),List.drop_take,List.take_append_of_le_length (by simp;omega),List.take_take,Nat.min_eq_left (by omega)]
theorem PT [d_ P] (q:Nat) {x:Operand} {v:V0} {f:List α} {k m:Nat} {T E:TypeId} {s1 s2 S s4:Nat} {z p:V0} {dE:TypeDesc} (hx:ev σ x=some (slq v k m S)) (R:M[q]? = some (Ar e v f)) (F:k=f.length) (y:Ik v m) (af:k<=m)
  (hT:d_.tab P T=some ⟨.slice E,s1,s2,z⟩) (hE:d_.tab P E=some ⟨dE,S,s4,p⟩) (h3:e.sz=S) (hz:p.cells.size=S) (ad:p.cells.toList.all one=true) (h:J c n σ M L (wpList P ops Q rest)):
  J c n σ M L (wpList P ops Q (⟨none,.call ⟨.builtin .clear,#[x],#[T]⟩,ty,pos,aft,none⟩::rest)):=λa w s t=>by
 subst h3 F;refine mS Z ?_;have t0:=t;obtain⟨ho,FF,hO,V⟩:=t0;have hA:=hO.res q _ R;obtain⟨h0,H,hh⟩:=hA;have O:=(d_.ok hT).run_und w;rcases hh with⟨rfl,rfl⟩|⟨b,i,j,U,o,rfl,B,C,F,hc,ht⟩
 ·have hm:m=0:=by have:m<=0:=y;omega
  subst hm;have l:(execOp a.eval ⟨none,.call ⟨.builtin .clear,#[x],#[T]⟩,ty,pos,aft,none⟩).run P w = .ok (.value (.tuple #[])) w:=by
   simp[execOp,resolve,invoke,s.eval hx,builtin,Builtin.clear_,O,slq]
  simp only[Oper.wp,l,Oper.upon];exact h _ w s t
 ·have X:m<=j:=y;by_cases he:m=f.length
  ·have l:(execOp a.eval ⟨none,.call ⟨.builtin .clear,#[x],#[T]⟩,ty,pos,aft,none⟩).run P w = .ok (.value (.tuple #[])) w:=by
    subst he;by_cases W:j=f.length<;>simp[execOp,resolve,invoke,s.eval hx,builtin,Builtin.clear_,O,slq,W]
   simp only[Oper.wp,l,Oper.upon];exact h _ w s t
  ·have ag:f.length<m:=by omega
   have ab:j≠f.length:=by omega
   obtain⟨k,aa⟩:∃k,m - f.length=k+1:=⟨m - f.length - 1,by omega⟩
   have hv:slq (.slice (some ⟨b,i,none⟩) f.length j) f.length m e.sz = .slice (some ⟨b,i+f.length*e.sz,none⟩) (k+1) (j - f.length):=by
    simp[slq,ab,fF,aa]
   have ah:(Builtin.zeroCells p.cells (k+1)).toList.length=(k+1)*e.sz:=by
    have:=size_zeroCells p.cells (k+1);rw[hz]at this;simpa using this
   have A:i+f.length*e.sz+0+(Builtin.zeroCells p.cells (k+1)).toList.length<=o.size:=by
    have h1:(f.length+(k+1))*e.sz<=j*e.sz:=zAr _ (by omega);have h2:(f.length+(k+1))*e.sz=f.length*e.sz+(k+1)*e.sz:=zAy _ _ _;omega
   have ac:∀u∈(Builtin.zeroCells p.cells (k+1)).toList,u.oneCell'=true:=λu O=>by
    refine pT (zA8.1 ad u ?_);exact Na (by rw[hz];exact e.pos) O
   have N:=run_storeCells_at P b (i+f.length*e.sz) U _ 0 o w C A ac;simp only[Nat.add_zero]at N;have ae:=(d_.ok hE).run_zero w;have l:(execOp a.eval ⟨none,.call ⟨.builtin .clear,#[x],#[T]⟩,ty,pos,aft,none⟩).run P w = .ok (.value (.tuple #[])) (w.setRow b (o.toList.take (i+f.length*e.sz)++(Builtin.zeroCells p.cells (k+1)).toList++o.toList.drop (i+f.length*e.sz+(Builtin.zeroCells p.cells (k+1)).toList.length)).toArray):=by
    simp[execOp,resolve,invoke,s.eval hx,hv,builtin,Builtin.clear_,O,ae,N]
   simp only[Oper.wp,l,Oper.upon];refine h _ _ s ?_;have I:M.set q (Ar e (.slice (some ⟨b,i,none⟩) f.length j) f)=M:=by
    have hq:q<M.length:=(List.getElem?_eq_some_iff.1 R).1;have:=(List.getElem?_eq_some_iff.1 R).2
    conv=>rhs;rw[<-List.set_getElem_self hq]
    rw[this]
   rw[<-I];refine Gw ho hO V R Z Z Z (by simp) (λk _ Y=>setRow_other w b k _ (λe=>Y (by subst e;exact B))) (F':=FF q) ?_ (λk F=> .inl F);refine⟨h0,H,.inr ⟨b,i,j,U,_,rfl,B,setRow_heap w b _ _ U _ C,F,?_,?_⟩⟩
   ·simp only[List.size_toArray,zA4,List.length_take,List.length_drop];have:o.size=o.toList.length:=by simp
    omega
   ·have:=VV o.toList i (f.length*e.sz) (i+f.length*e.sz) (Builtin.zeroCells p.cells (k+1)).toList (zAe _) (by simpa using A);rw[<-ht];exact this
theorem BO (i:Nat) {k:Int} {vs:List V0} {xss:List (List α)} (C:M[i]? = some (gN e vs xss)) (h:0<=k/\k<xss.length):
  dY M L (Ar e (at' vs k) (at' xss k)::M.set i (gN e (vs.set k.toNat (.slice none 0 0)) (xss.set k.toNat []))) L:=λc w t=>by
 obtain⟨W,F,p,V⟩:=t;obtain⟨z,G,T,s,N⟩:=p.res i _ C;have O:k.toNat<vs.length:=by omega
 have R:i<M.length:=(List.getElem?_eq_some_iff.1 C).1;have A:=T k.toNat _ _ (cX h.1 (by omega)) (cX h.1 h.2);refine⟨W,λj q=>match j with|0=>G k.toNat q|j+1=>(j=i/\∃j',j'≠k.toNat/\G j' q)\/(j≠i/\F j q),⟨?_,?_,?_⟩,λf C=> ?_⟩
 ·intro j m x;cases j with
  |zero=>simp at x;subst x;exact A
  | succ j =>
   rw[List.getElem?_cons_succ]at x;by_cases J:j=i
   ·subst J;rw[zAh R]at x;cases x;refine⟨by simp[z],λj' q=>j'≠k.toNat/\G j' q,λj' v U E H=> ?_,λj' q a=> .inl ⟨rfl,j',a⟩,λS B q b l=>N _ _ q b.2 l.2⟩
    by_cases u:j'=k.toNat
    ·subst u;rw[zAh O]at E;rw[zAh (by omega)]at H;cases E;cases H;exact⟨by simp,rfl,.inl ⟨rfl,rfl⟩⟩
    ·rw[zAq (Ne.symm u)]at E H;exact bH.same (f:=Ar e v U) (T j' v U E H) (λq a=>⟨u,a⟩) (λ_ _ _=>rfl)
   ·rw[zAq (Ne.symm J)]at x;exact bH.same (p.res j m x) (λq a=> .inr ⟨J,a⟩) (λ_ _ _=>rfl)
 ·intro j q a;cases j with
  |zero=>exact p.rng i q (s _ q a)
  |succ j=>
   rcases a with⟨_,j',_,a⟩|⟨_,a⟩
   ·exact p.rng i q (s _ q a)
   ·exact p.rng j q a
 ·intro S B q b l;cases S with
  | zero =>
   cases B with
   |zero=>rfl
   |succ B=>
    rcases l with⟨_,j',o,l⟩|⟨o,l⟩
    ·exact absurd (N _ _ q l b) o
    ·exact absurd (p.dis _ _ q l (s _ q b)) o
  | succ S =>
   cases B with
   |zero=>
    rcases b with⟨_,j',o,b⟩|⟨o,b⟩
    ·exact absurd (N _ _ q b l) o
    ·exact absurd (p.dis _ _ q b (s _ q l)) o
   |succ B=>
    congr 1;rcases b with⟨I,j',_,b⟩|⟨I,b⟩<;>rcases l with⟨u,X,_,l⟩|⟨u,l⟩
    ·rw[I,u]
    ·exact absurd (p.dis _ _ q l (s _ q b)) u
    ·exact absurd (p.dis _ _ q b (s _ q l)) I
    ·exact p.dis _ _ q b l
 ·refine bH.same (V f C) (λq a=>⟨a.1,λj y=> ?_⟩) (λ_ _ _=>rfl);cases j with
  |zero=>exact a.2 i (s _ q y)
  |succ j=>
   rcases y with⟨_,j',_,y⟩|⟨_,y⟩
   ·exact a.2 i (s _ q y)
   ·exact a.2 j y
theorem BM (i j:Nat) {u:V0} {k:Int} {vs:List V0} {xss:List (List α)} {ys:List α} (a:Nat.beq i j=false) (b:M[i]? = some (gN e (vs.set k.toNat (.slice none 0 0)) (xss.set k.toNat []))) (f:M[j]? = some (Ar e u ys)) (h:0<=k/\k<(xss.set k.toNat []).length):
  dY M L ((M.set i (gN e (vs.set k.toNat u) (xss.set k.toNat ys))).eraseIdx j) L:=by
 have:=CN (L:=L) i j a b f h;rwa[List.set_set,List.set_set]at this
theorem Nn {α:Type} [Inhabited α] (l:List α) {j k:Int} (y:α) (h:j.toNat≠k.toNat):at' (l.set j.toNat y) k=at' l k:=by
 rw[at',at',zAd,zAd,zAq h]
theorem Kp [d_ P] (i:Nat) {r:eJ α} (f:e.Fits r) {x y:Operand} {u o:V0} {k j:Int} {vs:List V0} {a:List (List α)} {l b:List α} {T E:TypeId} {S U m s:Nat} {z t:V0} {v:TypeDesc} (N:ev σ x=some (at' vs k)) (O:ev σ y=some u) (H:M[i]? = some (gN e (vs.set j.toNat o) (a.set j.toNat b))) (I:aF M L (Sl r u l))
  (F:d_.tab P T=some ⟨.slice E,S,U,z⟩) (C:d_.tab P E=some ⟨v,m,s,t⟩) (A:e.sz=m) (B:Nat.ble s 1024=true) (w:0<=k/\k<a.length) (J:((at' a k).length:Int)+l.length<=1099511627) (R:t.cells.size=m) (h:j.toNat≠k.toNat):
  aP P c n σ M L ⟨d,.call ⟨.builtin .append,#[x,y],#[T,T]⟩,ty,pos,aft,g⟩ (λp:V0=>p) (λp=>M.set i (gN e ((vs.set j.toNat o).set k.toNat p) ((a.set j.toNat b).set k.toNat (at' a k++l)))) (λ_=>L):=by
 have q:at' (a.set j.toNat b) k=at' a k:=Nn _ _ h;have:=sG (P:=P) (c:=c) (n:=n) (σ:=σ) (M:=M) (L:=L) (d:=d) (ty:=ty) (pos:=pos) (aft:=aft) (g:=g) (x:=x) (y:=y) (u:=u) (k:=k) (vs:=vs.set j.toNat o) (xss:=a.set j.toNat b) (ys:=l) i f (by rw[Nn _ _ h];exact N) O H I F C A B (by simpa using w) (by rw[q];exact J) R;rwa[q]at this
theorem Om (q:Nat) {vs:List V0} {a:List (List α)} {k j:Int} {u z:V0} (x:M[q]? = some (gN e ((vs.set k.toNat u).set j.toNat z) a)) (i:k.toNat≠j.toNat) (h:0<=k/\k<a.length):∀c w,St c M L w->Go.Sx.one u=true:=λc w t=>by
 obtain⟨S,v,A,p,_⟩:=t.res x;have f:k.toNat<vs.length:=by simp at v;omega
 obtain⟨_,_,s⟩:=p k.toNat u _ (by rw[zAq (Ne.symm i),zAh f]) (zA2 (by omega));rcases s with⟨l,_⟩|⟨b,y,m,T,o,l,_⟩<;>(rw[l];rfl)
theorem yR {A:Type} {b:A->V0} {M' L':A->List bH} {f:Op} (j:aP P c n σ M L ⟨none,f,ty,pos,aft,none⟩ b M' L') (h:∀x,J c n σ (M' x) (L' x) (wpList P ops Q rest)):
  J c n σ M L (wpList P ops Q (⟨none,f,ty,pos,aft,none⟩::rest)):=λa w s t=>
 mS Z (LV (oH (λm l ⟨x,i,k⟩=>by subst i;exact h x _ l s k) (j a w s t)))
end
section
variable {P:Program} {rd:Option Nat} {c:yO} {n:Sz} {σ σ':Fr} {M L M' L':List bH} {Q:Exit->Act->World->Prop} {ops:Array Oper} {rest:List Oper} {K:Act->World->Prop} {G:Act->World->Prop}
variable {d:Option Tmp} {D:Nat} {ty:TypeId} {pos:String} {aft:Array Edge} {g:Option (Nat×Bool)}
variable {α β:Type} {e:bM α} {r:eJ α}
theorem PY [d_ P] (j:Nat) {T:TypeId} {s2:Nat} {z:V0} {dT:TypeDesc} {x y:Operand} {v u:V0} {i:Int} {m:List α} (yv:α) (hx:ev σ x=some (EL v (i.toNat*1))) (hy:ev σ y=some u) (hu:e.enc yv=[u]) (B:one u=true)
  (X:M[j]? = some (Ar e v m)) (hT:d_.tab P T=some ⟨dT,1,s2,z⟩) (N:e.sz=1) (h0:0<=i) (W:i<m.length):
  aP P c n σ M L ⟨none,.store T x y,ty,pos,aft,none⟩ (λ_:Unit=>undef) (λ_=>M.set j (Ar e v (m.set i.toNat yv))) (λ_=>L):=λa w s t=>by
 obtain⟨F,J⟩:=t.res X;have Y:i.toNat<m.length:=by omega
 have E:m[i.toNat]? = some m[i.toNat]:=zA2 Y;have H:m≠[]:=by intro e;subst e;simp at Y
 obtain⟨p,hp⟩:∃p,e.enc m[i.toNat]=[p]:=List.length_eq_one_iff.1 ((e.len _).trans N);have f:=AV.cell J E (j:=0) (u:=p) (by rw[hp];rfl);rw[N,Nat.add_zero,Nat.mul_one]at f;rw[Nat.mul_one]at hx;have o:=PR J H i.toNat;have I:(execOp a.eval ⟨none,.store T x y,ty,pos,aft,none⟩).run P w = .ok .skip (w.setCell (Kr v i.toNat) u):=by
  simp only[execOp,s.eval hx,s.eval hy,EL];simp[HS (d_.ok hT) Z B f o]
 simp only[Oper.wp,I,Oper.upon];refine⟨(),trivial,t.upd X Z Z Z (by simp[World.setCell]) λF J _=> ?_⟩
 obtain⟨hl,W,S⟩:=J;rcases S with⟨_,S⟩|⟨b,l,A,T',O,hv,C,hb,hk,hc,ht⟩
 ·exact absurd S H
 ·subst hv;have ha:Kr (.slice (some ⟨b,l,none⟩) m.length A) i.toNat=⟨b,l+i.toNat,none⟩:=by simp[Kr,fF]
  rw[ha];refine⟨λk _ U=>Below.heap_setCell _ _ _ _ (λe=>U (by simp only at e;subst e;exact C)),F,⟨by simpa using hl,?_,.inr ⟨b,l,A,T',O.setIfInBounds (l+i.toNat) u,by simp,C,?_,by simpa using hk,by simpa using hc,?_⟩⟩,λ_ h=> .inl h⟩
  ·rw[yX N hu,zA8];intro q V;rcases List.mem_or_eq_of_mem_set V with R|R
   ·exact zA8.1 W q R
   ·rw[R];exact B
  ·simp[World.setCell,Array.getElem?_modify,hb]
  ·rw[yX N hu,<-ht,Array.toList_setIfInBounds,zA1,<-take_set];congr 1;rw[List.drop_set,if_neg (by omega),Nat.add_sub_cancel_left]
theorem Hf [d_ P] (i:Nat) {T k:TypeId} {J:Nat} {z:V0} {u:TypeDesc} {x y:Operand} {b:Nat} {cs vs:List V0} (H:ev σ x=some (.pointer (some ⟨b,0,none⟩)))
  (I:ev σ y=some (.agg vs.toArray)) (E:vs.all one=true) (q:M[i]? = some (bL b cs k)) (B:d_.tab P T=some ⟨u,vs.length,J,z⟩) (C:Nat.beq vs.length cs.length=true):
  aP P c n σ M L ⟨none,.store T x y,ty,pos,aft,none⟩ (λ_:Unit=>undef) (λ_=>M.set i (bL b vs k)) (λ_=>L):=λa w s t=>by
 obtain⟨F,A⟩:=t.res q;have f:vs.length=cs.length:=zA7 C;have h:∀v∈vs,v.oneCell'=true:=λv p=>pT (by simpa using zA8.1 E v p);obtain⟨N,l,o,_,_⟩:=(d_.ok B).info;have m:=run_storeVar_row (P:=P) w b k T cs.toArray vs.toArray A.2 (by simp[l,o]) (by simp[f]) (by simpa using h);have j:(execOp a.eval ⟨none,.store T x y,ty,pos,aft,none⟩).run P w = .ok .skip (w.setRow b vs.toArray):=by
  simp[execOp,s.eval H,s.eval I,Instr.storeAt,Instr.sureAddr,m]
 simp only[Oper.wp,j,Oper.upon];exact⟨(),trivial,t.fill q⟩
theorem MC [d_ P] (j q:Nat) {T:TypeId} {E:Nat} {z:V0} {m:TypeDesc} {x y:Operand} {v u:V0} {i:Int} {vs b:List V0} {f:List (List α)} (h:0<=i/\i<f.length) (B:ev σ x=some (EL v (i.toNat*1))) (C:ev σ y=some u)
  (p:M[j]? = some (Ar bM.raw v vs)) (A:M[q]? = some (gN e b f)) (F:b.length=vs.length) (k:one u=true) (o:d_.tab P T=some ⟨m,1,E,z⟩):
  aP P c n σ M L ⟨none,.store T x y,ty,pos,aft,none⟩ (λ_:Unit=>undef) (λ_=>M.set j (Ar bM.raw v (vs.set i.toNat u))) (λ_=>L):=λa w s t=>by
 have l:b.length=f.length:=by obtain⟨_,h⟩:=t.res A;exact h.1
 exact PY j u B C Z k p o Z h.1 (by omega) a w s t
section
variable {l:List Oper} {m:List Nat} {k0:Nat} {H Bs:List (Nat×List bH×List bH)} {rs:List Nat}
theorem Ia {A:Type} {j:A->V0} {M' L':A->List bH} {i:Nat} {b:Op}
  (o:l[i]? = some ⟨none,b,ty,pos,aft,none⟩) (v:Nat.blt i k0=true) (y:fS b=true) (z:aP P c n σ M L ⟨none,b,ty,pos,aft,none⟩ j M' L')
  (q:∀x,pX (before m i) (M' x) (L' x) Bs) (h:∀x,JR c n σ (M' x) (L' x) ((i,M,L)::H) Bs (RW P l.toArray Q (before m) (eK l) k0 rs)):
  JR c n σ M L H Bs (RW P l.toArray Q (before m) (eK l) k0 (i::rs)):=λa w X Y s t u k=>by
 have f:l.toArray[i]? = some ⟨none,b,ty,pos,aft,none⟩:=by simpa using o
 simp only[RW,f];rw[if_pos (by simp[Region.wanted])];refine .inr (.inr ⟨by simpa [zAv]using v,by simp[eK,o,y],oH ?_ (z a w s t)⟩);rintro C B ⟨x,rfl,p⟩;exact⟨(q x).use p k,h x _ B _ Y s p ⟨rfl,t,u⟩ k⟩
end
theorem Ni {A B:Type} {f:FuncId} {j:Func} {b:Code} {k:List V0} {m:Nat} {q:Op} (C:A->Prop) (i:A->B->V0) (o l:A->B->List bH) (E:wL P c n σ M L ⟨d,q,ty,pos,aft,g⟩ f k) (F:P.funcs[f]? = some j) (z:j.body=some b) (I:j.ntmps=m) (H:Nat.ble k.length m=true)
  (u:J c ⟨m,[]⟩ (DI 0 k) M L (b.wpr none P (pN P j (ZF c C i o l)))):
  aP P c n σ M L ⟨d,q,ty,pos,aft,g⟩ (λx:{p:A×B // C p.1}=>i x.1.1 x.1.2) (λx=>o x.1.1 x.1.2) (λx=>l x.1.1 x.1.2):=λa w s t=>by
 have h:=E.run a w s t;simp only[Oper.wp,h,Oper.upon];refine(yW F z (u _ w (SJ I H) t)).mono ?_;rintro e O ⟨x,y,v,rfl,N⟩;exact⟨⟨(x,y),v⟩,rfl,N⟩
theorem Dz {A B:Type} {f:FuncId} {j:Func} {h:Code} {vs:List V0} {m:Nat} {o:Op} (C:A->Prop) (i:A->B->V0) (l k:A->B->List bH) (v:wL P c n σ M L ⟨some D,o,ty,pos,aft,none⟩ f vs) (w:P.funcs[f]? = some j) (u:j.body=some h) (y:j.ntmps=m) (x:Nat.ble vs.length m=true) (t:Nat.blt D n.sz=true)
  (p:J c ⟨m,[]⟩ (DI 0 vs) M L (h.wpr none P (pN P j (ZF c C i l k)))) (q:∀a b,C a->J c n ((D,i a b)::σ) (l a b) (k a b) (wpList P ops Q rest)):J c n σ M L (wpList P ops Q (⟨some D,o,ty,pos,aft,none⟩::rest)):=
 aK (Ni C i l k v w u y x p) t fun⟨⟨a,b⟩,s⟩=>q a b s
section
variable {l:List Oper} {mm:List Nat} {k0:Nat} {H Bs:List (Nat×List bH×List bH)} {rs:List Nat}
theorem KE {A B:Type} {i:Nat} {f:FuncId} {p:Func} {h:Code} {vs:List V0} {m:Nat} {q:Op} (C:A->Prop) (j:A->B->V0) (o k:A->B->List bH) (E:l[i]? = some ⟨some D,q,ty,pos,aft,none⟩) (F:Nat.blt i k0=true) (I:fS q=true) (y:wL P c n σ M L ⟨some D,q,ty,pos,aft,none⟩ f vs) (z:P.funcs[f]? = some p) (x:p.body=some h) (O:p.ntmps=m) (N:Nat.ble vs.length m=true) (w:Nat.blt D n.sz=true)
  (u:∀a b,pX (before mm i) (o a b) (k a b) Bs) (s:J c ⟨m,[]⟩ (DI 0 vs) M L (h.wpr none P (pN P p (ZF c C j o k)))) (t:∀a b,C a->JR c n ((D,j a b)::σ) (o a b) (k a b) ((i,M,L)::H) Bs (RW P l.toArray Q (before mm) (eK l) k0 rs)):
  JR c n σ M L H Bs (RW P l.toArray Q (before mm) (eK l) k0 (i::rs)):=
 zBi E F I (Ni C j o k y z x O N s) w (λ_=>u _ _) fun⟨⟨a,b⟩,v⟩=>t a b v
end
theorem Gz [d_ P] {T E:TypeId} {k q u b A:Nat} {z B:V0} {f:TypeDesc} {x y:Operand} {v:V0} {o:Nat} {i:Int} (m:ev σ x=some (EL v o)) (p:ev σ y=some (.int .i64 i))
  (l:d_.tab P T=some ⟨.array k E,q,u,z⟩) (j:d_.tab P E=some ⟨f,b,A,B⟩) (_h3:(b==0)=false) (h:0<=i/\i<(k:Int)):
  Y P c n σ M L ⟨d,.indexAddr T x y,ty,pos,aft,g⟩ (EL v (o+i.toNat*b)):=λa w s t=>by
 simp[execOp,s.eval m,s.eval p,Instr.indexAt,asIntOf,(d_.ok l).run_und w,h,Instr.sureAddr,EL,(d_.ok j).run_size w,KL]
theorem bX {x:Operand} {b o:Nat} (f:ev σ x=some (.pointer (some ⟨b,o,none⟩))):Y P c n σ M L ⟨d,.nilCheck x,ty,pos,aft,g⟩ (.pointer (some ⟨b,o,none⟩)):=λa w s t=>by
 simp[execOp,s.eval f]
theorem pK [d_ P] [Inhabited α] (j:Nat) {T:TypeId} {s2 k o q:Nat} {z:V0} {dT:TypeDesc} {x y:Operand} {v u:V0} {us:List V0} {i:Int} {p:List α} (J:α) (h:0<=i/\i<p.length) (hx:ev σ x=some (EL v (i.toNat*q+o))) (hy:ev σ y=some u)
  (hf:M[j]? = some (Ar e v p)) (hq:e.sz=q) (U:u.cells=us.toArray) (hk:us.length=k) (ho:Nat.ble (o+k) q=true) (I:e.enc J=(e.enc (at' p i)).take o++us++(e.enc (at' p i)).drop (o+k)) (W:us.all one=true) (hT:d_.tab P T=some ⟨dT,k,s2,z⟩):
  aP P c n σ M L ⟨none,.store T x y,ty,pos,aft,none⟩ (λ_:Unit=>undef) (λ_=>M.set j (Ar e v (p.set i.toNat J))) (λ_=>L):=λa w s t=>by
 subst hq hk;have aq:o+us.length<=e.sz:=by simpa using ho
 have hi:i.toNat<p.length:=by omega
 have t0:=t;obtain⟨aj,FF,hO,af⟩:=t0;obtain⟨h0,A,hh⟩:=hO.res j _ hf;rcases hh with⟨_,rfl⟩|⟨b,m,V,T',f,rfl,X,Y,aa,hc,ht⟩
 ·simp at hi
 -- the parts of the row
 obtain⟨l,B,C,H,hl⟩:∃l B C,p=l++B::C/\l.length=i.toNat:=⟨p.take i.toNat,p[i.toNat],p.drop (i.toNat+1),by rw[List.getElem_cons_drop,zBc],by simp;omega⟩
 have ah:at' p i=B:=by
  rw[at',zAd,<-hl,H,zAb (zAe _)];simp
 rw[ah]at I;have eE:=e.len B;have eA:(cellsOf e l).length=i.toNat*e.sz:=by rw[fM,hl]
 have E:cellsOf e p=cellsOf e l++(e.enc B++cellsOf e C):=by rw[H];simp[cellsOf]
 have S:cellsOf e (p.set i.toNat J)=cellsOf e l++(e.enc J++cellsOf e C):=by
  have:p.set i.toNat J=l++J::C:=by rw[H,<-hl,List.set_append_right _ _ (zAe _)];simp
  rw[this];simp[cellsOf]
 have ao:p.length*e.sz<=V*e.sz:=zAr _ aa;obtain⟨N,R,O,hH⟩:∃N R,f.toList=N++(cellsOf e l++(e.enc B++(cellsOf e C++R)))/\N.length=m:=by
  refine⟨f.toList.take m,(f.toList.drop m).drop (p.length*e.sz),?_,by simp;omega⟩
  have e1:cellsOf e l++(e.enc B++(cellsOf e C++(f.toList.drop m).drop (p.length*e.sz)))=f.toList.drop m:=by
   have:cellsOf e l++(e.enc B++(cellsOf e C++(f.toList.drop m).drop (p.length*e.sz)))=cellsOf e p++(f.toList.drop m).drop (p.length*e.sz):=by rw[E];simp
   rw[this,<-ht,zBc]
  rw[e1,zBc]
 have am:f.size=f.toList.length:=by simp
 have ak:f.toList.take (m+(i.toNat*e.sz+o))=N++(cellsOf e l++(e.enc B).take o):=by
  have:f.toList=(N++(cellsOf e l++(e.enc B).take o))++((e.enc B).drop o++(cellsOf e C++R)):=by
   rw[O,zAz,zAz,<-zAz ((e.enc B).take o),zBc]
  rw[this];exact List.take_left' (by simp[hH,eA,eE];omega)
 have al:f.toList.drop (m+(i.toNat*e.sz+o)+us.length)=(e.enc B).drop (o+us.length)++(cellsOf e C++R):=by
  have:f.toList=(N++(cellsOf e l++(e.enc B).take (o+us.length)))++((e.enc B).drop (o+us.length)++(cellsOf e C++R)):=by
   rw[O,zAz,zAz,<-zAz ((e.enc B).take (o+us.length)),zBc]
  rw[this];exact List.drop_left' (by simp[hH,eA,eE];omega)
 have ae:(i.toNat+1)*e.sz<=p.length*e.sz:=zAr _ (by omega);have ap:(i.toNat+1)*e.sz=i.toNat*e.sz+e.sz:=by rw[zAy,Nat.one_mul]
 have ab:m+(i.toNat*e.sz+o)+0+us.length<=f.size:=by omega
 have ad:=run_storeCells_at P b (m+(i.toNat*e.sz+o)) T' us 0 f w Y ab (λu U=>pT (zA8.1 W u U));simp only[Nat.add_zero]at ad;have ar:(d_.ok hT).run_size w=(d_.ok hT).run_size w:=rfl;have ac:(execOp a.eval ⟨none,.store T x y,ty,pos,aft,none⟩).run P w = .ok .skip (w.setRow b (f.toList.take (m+(i.toNat*e.sz+o))++us++f.toList.drop (m+(i.toNat*e.sz+o)+us.length)).toArray):=by
  simp[execOp,s.eval hx,s.eval hy,EL,Kr,Instr.storeAt,Instr.sureAddr,storeVar,U,(d_.ok hT).run_size w,fF,ad]
 simp only[Oper.wp,ac,Oper.upon];refine⟨(),trivial,?_⟩
 refine Gw aj hO af hf Z Z Z (by simp) (λk _ ai=>setRow_other w b k _ (λe=>ai (by subst e;exact X))) (F':=FF j) ?_ (λk hk=> .inl hk);have F:(e.enc J).length=e.sz:=e.len J;refine⟨by simpa using h0,?_,.inr ⟨b,m,V,T',_,by simp,X,setRow_heap w b _ _ T' _ Y,by simpa using aa,?_,?_⟩⟩
 ·rw[S];rw[E]at A;simp only[List.all_append,zA6]at A ⊢;refine⟨A.1,?_,A.2.2⟩
  rw[I];simp only[List.all_append,zA6];refine⟨⟨zA8.2 λu U=>zA8.1 A.2.1 u (List.mem_of_mem_take U),W⟩,zA8.2 λu U=>zA8.1 A.2.1 u (List.mem_of_mem_drop U)⟩
 ·simp only[List.size_toArray,zA4,List.length_take,List.length_drop];omega
 ·show((f.toList.take _++us++f.toList.drop _).drop m).take ((p.set i.toNat J).length*e.sz)=_;rw[ak,al,S,I,zA1];have e3:(N++(cellsOf e l++(e.enc B).take o)++us++((e.enc B).drop (o+us.length)++(cellsOf e C++R)))=N++((cellsOf e l++(((e.enc B).take o++us++(e.enc B).drop (o+us.length))++cellsOf e C))++R):=by simp
  rw[e3,<-hH,List.drop_left];refine List.take_left' ?_;have ag:(cellsOf e C).length=C.length*e.sz:=fM e C;have an:p.length=i.toNat+1+C.length:=by rw[H,<-hl];simp;omega
  rw[I]at F;rw[zA4,zA4,F,eA,ag,an,zAy,zAy,Nat.one_mul];omega
end
end Go.Sx
namespace Go.Sx
section
variable {P:Program} {M L:List bH} {α β γ:Type} {r:eJ α} {s:eJ γ} {q:eJ β}
def eJ.Deep (r:eJ α) (q:eJ β) (f:α->V0×List β):Prop:=∀{w S es x},r.R w S es x->FC q w S (f x).1 (f x).2
theorem FI (q:eJ β):(eJ.sl q).Deep q (λx=>x):=λh=>h.2
theorem Va {f:α->V0×List β} (h:r.Deep q f):(r.pair s).Deep q (λx=>f x.1):=by
 rintro w S d x ⟨b,c,rfl,a,_⟩;exact h a
theorem Gv {f:α->V0×List β} (h:r.Deep q f):(s.pair r).Deep q (λx=>f x.2):=by
 rintro w S d x ⟨b,c,rfl,_,a⟩;exact h a
theorem jW [Inhabited α] {v:V0} {a:List α} {i:Int} {f:α->V0×List β} (h:aF M L (Sl r v a)) (d:r.Deep q f) (b:0<=i) (c:i<a.length):aF M L (Sl q (f (at' a i)).1 (f (at' a i)).2):=h.mono λ{w U} hs=>by
 obtain⟨g,e,_⟩:=sl_cell hs (cX b c);exact d e
theorem Sk [d_ P] {c:yO} {n:Sz} {j:Fr} {d:Option Tmp} {F:TypeId} {i:String} {e:Array Edge} {g:Option (Nat×Bool)} {T E:TypeId} {A B C D m b:Nat} {z G:V0} {o:TypeDesc} {x l:Operand} {k:Int} (y:ev j x=some (.pointer (some ⟨b,0,none⟩))) (f:ev j l=some (.int .i64 k))
  (v:d_.tab P T=some ⟨.array m E,A,B,z⟩) (u:d_.tab P E=some ⟨o,C,D,G⟩) {q:Int} (h:0<=k/\k<=((m:Nat):Int)/\k<=q):Y P c n j M L ⟨d,.slice T x none (some l) none,F,i,e,g⟩ (.slice (some ⟨b,0,none⟩) k.toNat m):=λa w s t=>by
 have p:0<=k/\k<=(m:Int):=⟨h.1,h.2.1⟩
 simp[execOp,s.eval y,s.eval f,Instr.sliceAt,Instr.slice,(d_.ok v).run_und w,Instr.sliceBounds,Instr.sliceBound,asIntOf,(d_.ok u).run_size w,p,asAddr,Addr.add,Instr.sureAddr]
theorem Wx {e:bM α} {i b T m:Nat} {k:Int} {a:List α} (t:M[i]? = some (bL b (cellsOf e a) T)) (c:e.Fits r) (h:0<=k/\k<=((m:Nat):Int)/\k<=(a.length:Int)) (p:m<=9223372036854775807):aF M L (Sl r (.slice (some ⟨b,0,none⟩) k.toNat m) (a.take k.toNat)):=λw S T U B f C v=>by
 have n:=f i _ t;have o:(a.take k.toNat).length=k.toNat:=by simp;omega
 refine⟨some ⟨b,0,none⟩,m,by rw[o],by rw[o];omega,.inr ⟨b,0,rfl,v _ _ n.1,λj x d=> ?_⟩⟩
 have l:a[j]? = some x:=by
  rw[zAs]at d;split at d
  ·exact d
  ·cases d
 obtain⟨g,D,z,_⟩:=c;refine⟨e.enc x,λq u A=> ?_,z⟩
 have y:=Dm e a _ _ l _ _ A;rw[g,Nat.zero_add];exact bL.cell n y
def eJ.All (r:eJ α) (n:Nat) (g:α->List V0):Prop:=r.sz=n/\∀{w S es x},r.R w S es x->es=g x
theorem Se {e:bM α} (h:e.Fits r):r.All e.sz e.enc:=⟨h.1,h.2.1⟩
theorem Sf (q:eJ β):(eJ.sl q).All 1 (λx=>[x.1]):=⟨rfl,λh=>h.1⟩
theorem Ot {n m:Nat} {f:α->List V0} {g:γ->List V0} (h:r.All n f) (k:s.All m g):(r.pair s).All (n+m) (λx=>f x.1++g x.2):=⟨by show r.sz+s.sz=_;rw[h.1,k.1],by
 rintro w S e x ⟨c,d,rfl,a,b⟩;rw[h.2 a,k.2 b]⟩
theorem Sj [d_ P] [Inhabited α] {c:yO} {n:Sz} {B:Fr} {d:Option Tmp} {O:TypeId} {o:String} {k:Array Edge} {g:Option (Nat×Bool)} {T:TypeId} {N q m:Nat} {z:V0} {p:TypeDesc} {x:Operand} {v:V0} {i:Int} {e:List α} {cs:List V0} {f:α->List V0} (K:ev B x=some (EL v (i.toNat*q))) (G:aF M L (Sl r v e)) (y:r.All m f) (l:f (at' e i)=cs)
  (E:d_.tab P T=some ⟨p,cs.length,N,z⟩) (F:Bb p=true) (H:m=q) (h:0<=i/\i<e.length):Y P c n B M L ⟨d,.load T x,O,o,k,g⟩ (.agg cs.toArray):=λa w s t=>by
 obtain⟨C,D⟩:=h;obtain⟨S,h⟩:=G.st t;obtain⟨Q,I,b⟩:=sl_cell h (cX C D);have:=y.2 I;subst this l;rw[y.1,H]at b;have:=BX (w:=w) (A:=Kr v (i.toNat*q)) (cs:=f (at' e i)) (d_.ok E) F Z (λj u J=>by rw[KL];exact b j u J);simp[execOp,s.eval K,EL,this]
end
end Go.Sx
namespace Go.Sx
open Go.RowKit
section
variable {P:Program} {c:yO} {n:Sz} {σ:Fr} {M L:List bH} {d:Option Tmp} {ty:TypeId} {pos:String} {aft:Array Edge} {g:Option (Nat×Bool)}
def acC (v:V0) (m:Nat):Prop:=∃a e,v = .slice a m e/\(m=0\/∃b f,a=some ⟨b,f,none⟩)
theorem Know.len {f:Type} {r:eJ f} {v:V0} {xs:List f} (j:aF M L (Sl r v xs)):∀c w,St c M L w->acC v xs.length:=λc w t=>by
 obtain⟨S,i,cap,k,_,h⟩:=j.st t;exact⟨i,cap,k,h.imp (λh=>by simp[h]) fun⟨b,a,e,_⟩=>⟨b,a,e⟩⟩
theorem dW [d_ P] {T E:TypeId} {B C k D m:Nat} {z F:V0} {o:TypeDesc} {x y:Operand} {v:V0} {i:Int} (u:ev σ x=some v) (A:ev σ y=some (.int .i64 i)) (f:acC v m)
  (s:d_.tab P T=some ⟨.slice E,B,C,z⟩) (r:d_.tab P E=some ⟨o,k,D,F⟩) (h:0<=i/\i<(m:Int)):Y P c n σ M L ⟨d,.indexAddr T x y,ty,pos,aft,g⟩ (EL v (i.toNat*k)):=λa w l t=>by
 obtain⟨G,e,rfl,f⟩:=f;obtain⟨p,q⟩:=h;rcases f with rfl|⟨b,j,rfl⟩
 ·omega
 ·simp[execOp,l.eval u,l.eval A,JC w (d_.ok s) Z (d_.ok r) b j _ e i p q]
theorem Ll [d_ P] (i:Nat) {T k:TypeId} {B m o b:Nat} {z:V0} {h:TypeDesc} {x:Operand} {cs us:List V0} (y:ev σ x=some (.pointer (some ⟨b,o,none⟩))) (p:M[i]? = some (bL b cs k)) (q:d_.tab P T=some ⟨h,m,B,z⟩) (r:Bb h=true)
  (f:(cs.drop o).take m=us) (v:us.length=m):Y P c n σ M L ⟨d,.load T x,ty,pos,aft,g⟩ (.agg us.toArray):=λa w s t=>by
 subst v;obtain⟨F,l⟩:=t.res p;have:=BX (w:=w) (A:=⟨b,o,none⟩) (cs:=us) (d_.ok q) r Z (λj u e=>by
  have:cs[o+j]? = some u:=by
   rw[<-f,zAs]at e;split at e
   ·rwa[zAt]at e
   ·cases e
  rw[fF];exact bL.cell l this)
 simp[execOp,s.eval y,this]
theorem Fe {a:Type} [Inhabited a] (l:List a) (k:Int) (h:k.toNat<l.length) (b:0<=k):l.set k.toNat (at' l k)=l:=by
 have:=cX (xs:=l) b (by omega);refine List.ext_getElem? λi=> ?_;by_cases e:k.toNat=i
 ·subst e;rw[zAh h,this]
 ·rw[zAq e]
theorem yS [d_ P] {l:Type} [Inhabited l] {e:bM l} (j:Nat) {T:TypeId} {Q m o q:Nat} {z:V0} {C:TypeDesc} {x y:Operand} {u:V0} {us:List V0} {i k:Int} {vs:List V0} {b:List (List l)} (f:l) (A:0<=k/\k<b.length) (h:0<=i/\i<(at' b k).length) (N:ev σ x=some (EL (at' vs k) (i.toNat*q+o))) (O:ev σ y=some u)
  (v:M[j]? = some (gN e vs b)) (I:e.sz=q) (K:u.cells=us.toArray) (G:us.length=m) (H:Nat.ble (o+m) q=true) (B:e.enc f=(e.enc (at' (at' b k) i)).take o++us++(e.enc (at' (at' b k) i)).drop (o+m)) (p:us.all one=true) (D:d_.tab P T=some ⟨C,m,Q,z⟩):
  aP P c n σ M L ⟨none,.store T x y,ty,pos,aft,none⟩ (λ_:Unit=>undef) (λ_=>M.set j (gN e vs (b.set k.toNat ((at' b k).set i.toNat f)))) (λ_=>L):=λa w s t=>by
 have U:=dX j v c w t;have F:j<M.length:=(List.getElem?_eq_some_iff.1 v).1;refine oH (λS R ⟨x,E,J⟩=>⟨x,E,?_⟩) (pK 0 f h N O Z I K G H B p D a w s (BO j v A c w t));have r:=BM (j+1) 0 (u:=at' vs k) (k:=k) (vs:=vs) (xss:=b) (ys:=(at' b k).set i.toNat f) (e:=e) Z (by simp[F]) Z (by simpa using A) c R J;simp only[List.set_cons_zero,List.set_cons_succ,List.eraseIdx_cons_zero,List.set_set]at r;rw[Fe vs k (by omega) A.1]at r;exact r
end
theorem aZ.ix {M a:List bH} (l:List Nat) (c:decide l.Nodup=true) (h:l.map (λi=>M[i]?)=a.map some):aZ M a:=by
 have c:l.Nodup:=zB2 c;have k:l.length=a.length:=by simpa using congrArg List.length h
 refine⟨λi=>l.getD i 0,λi j b n e=> ?_,λi m d=> ?_⟩
 ·have f:i<l.length:=by omega
  have g:j<l.length:=by omega
  simp only[zAd,zA2 f,zA2 g,Option.getD_some]at e;exact(List.getElem_inj c).1 e
 ·have b:i<l.length:=by rw[k];exact(List.getElem?_eq_some_iff.1 d).1
  have:=congrArg (λq=>q[i]?) h;simp only[List.getElem?_map,zA2 b,d,Option.map_some,Option.some.injEq]at this;simpa [zAd,zA2 b]using this
def bM.fn:bM Nat:=⟨1,Nat.one_pos,λf=>[.func (.func f) #[] #[]],λ_=>rfl⟩
def eJ.fn:eJ Nat:=⟨1,Nat.one_pos,λ_ _ cs x=>cs=[.func (.func x) #[] #[]],λh=>by simp[h],λh _=>h⟩
theorem PS:bM.fn.Fits eJ.fn:=⟨rfl,λh=>h,rfl,λ_=>rfl⟩
section
variable {P:Program} {rd:Option Nat} {c:yO} {n:Sz} {σ:Fr} {M L:List bH} {Q:Exit->Act->World->Prop} {ops:Array Oper} {rest:List Oper} {d:Nat} {ty:TypeId} {pos:String} {aft:Array Edge} {x y:Operand} {v:V0} {K:Act->World->Prop}
abbrev vS (x:ByteArray):V0:= .string x
abbrev vB (x:Bool):V0:= .bool x
theorem cU {a:Type} {p G:Prop} {_:Decidable p} {u:Option a} {r:a} (h:ck p u=some r) (k:p->u=some r->G):G:=k (OF h).1 (OF h).2
theorem eT {a b:Type} {G:Prop} {u:Option a} {f:a->Option b} {r:b} (h:u.bind f=some r) (k:∀y,u=some y->f y=some r->G):G:=by
  obtain⟨y,e,g⟩:=bnd h;exact k y e g
theorem iN (l:List Nat) {a:List bH} (h:l.map (L[·]?)=a.map some):aI M L a:=λf b=>by
  have g:some f∈l.map (L[·]?):=h▸List.mem_map_of_mem b;obtain⟨j,_,e⟩:=zB9.1 g;exact aF.fact j e
theorem iC.ix (l:List Nat) {a:List bH} (h:l.map (L[·]?)=a.map some):iC L a:=λf b=>by
  have g:some f∈l.map (L[·]?):=h▸List.mem_map_of_mem b;obtain⟨j,_,e⟩:=zB9.1 g;exact zA0 e
theorem fN {f:bH} (i:Nat) (h:L[i]? = some f):iC L [f]:=iC.cons (zA0 h) iC.nil
/-- which of the early loads must still hold,with the numbers of what they have read -/
def bsW (A:Nat->Bool):List (List Nat×List Nat)->List (Nat×List bH×List bH)->List (List Nat×List Nat×List bH×List bH)
  |_,[]=>[]
  |q,(j,Mx,Lx)::B=>bif A j||(Mx.isEmpty&&Lx.isEmpty)then bsW A q B else((q.headD ([],[])).1,(q.headD ([],[])).2,Mx,Lx)::bsW A q.tail B
theorem mC {A:Nat->Bool} (q:List (List Nat×List Nat)) {B:List (Nat×List bH×List bH)} (h:(bsW A q B).map (λz=>(decide z.1.Nodup,z.1.map (M[·]?),z.2.1.map (L[·]?)))=(bsW A q B).map (λz=>(true,z.2.2.1.map some,z.2.2.2.map some))):pX A M L B:=by
  induction B generalizing q with
  |nil=>exact pX.z
  | cons b B ih =>
    obtain⟨j,k,i⟩:=b;cases a:A j with
    |true=>exact pX.b a (ih q (by simpa [bsW,a]using h))
    | false =>
      cases g:(k.isEmpty&&i.isEmpty)with
      | true =>
        obtain⟨e,f⟩:=Bool.and_eq_true_iff.1 g;rw[List.isEmpty_iff]at e f;subst e;subst f;exact pX.h aZ.nil iC.nil (ih q (by simpa [bsW,a]using h))
      | false =>
        simp only[bsW,a,g,Bool.or_self,cond_false,zBf,List.cons.injEq,Prod.mk.injEq]at h;exact pX.h (aZ.ix _ h.1.1 h.1.2.1) (iC.ix _ h.1.2.2) (ih q.tail h.2)
def hkB (A:Nat->Bool):List (Nat×List bH×List bH)->Bool
  | []=>true
  |(j,_,_)::H=>bif A j then hkB A H else false
theorem EQ {A:Nat->Bool} {f e:List bH} {H:List (Nat×List bH×List bH)} (h:hkB A H=true):aJ A f e H:=by
  induction H with
  |nil=>exact aJ.z
  | cons b B ih =>
    obtain⟨j,_,_⟩:=b;cases a:A j with
    |false=>simp[hkB,a]at h
    |true=>exact aJ.b a (ih (by simpa [hkB,a]using h))
theorem PP {A:Nat->Bool} {H:List (Nat×List bH×List bH)}:aJ A [] [] H:=by
  induction H with
  |nil=>exact aJ.z
  |cons b B a=>exact aJ.h aZ.nil iC.nil a
theorem dR {T:Operand} (h:(ev σ T,ev σ x,Nat.blt d n.sz)=(some (.bool true),some v,true)) (k:J c n ((d,v)::σ) M L (wpList P ops Q rest)):J c n σ M L (wpList P ops Q (⟨some d,.pick T x y,ty,pos,aft,none⟩::rest)):=by
  simp only[Prod.mk.injEq]at h;exact aB (GA h.1 h.2.1) h.2.2 k
theorem eV {T:Operand} (h:(ev σ T,ev σ y,Nat.blt d n.sz)=(some (.bool false),some v,true)) (k:J c n ((d,v)::σ) M L (wpList P ops Q rest)):J c n σ M L (wpList P ops Q (⟨some d,.pick T x y,ty,pos,aft,none⟩::rest)):=by
  simp only[Prod.mk.injEq]at h;exact aB (Ii h.1 h.2.1) h.2.2 k
theorem jJ {vs:List V0} {i:Nat} (h:(ev σ x,vs[i]?,Nat.blt d n.sz)=(some (.tuple vs.toArray),some v,true)) (k:J c n ((d,v)::σ) M L (wpList P ops Q rest)):J c n σ M L (wpList P ops Q (⟨some d,.extract x i,ty,pos,aft,none⟩::rest)):=by
  simp only[Prod.mk.injEq]at h;exact aB (qS h.1 h.2.1) h.2.2 k
theorem k_ {t a:TypeId} {i:IntKind} {p q:Int} (h:(ev σ x,ev σ y,Nat.blt d n.sz)=(some (.int i p),some (.int i q),true)) (k:J c n ((d,.bool (decide (p≠q)))::σ) M L (wpList P ops Q rest)):J c n σ M L (wpList P ops Q (⟨some d,.binOp .neq t x y a,ty,pos,aft,none⟩::rest)):=by
  simp only[Prod.mk.injEq]at h;exact aB (BP h.1 h.2.1) h.2.2 k
theorem iH [d_ P] {b:Type} {r:eJ b} {T E:TypeId} {f g:Nat} {z:V0} {a:List b} (e:aF M L (Sl r v a)) (h:(ev σ x,d_.tab P T,Nat.blt d n.sz)=(some v,some ⟨.slice E,f,g,z⟩,true)) (k:J c n ((d,.int .i64 a.length)::σ) M L (wpList P ops Q rest)):J c n σ M L (wpList P ops Q (⟨some d,.call ⟨.builtin .len,#[x],#[T]⟩,ty,pos,aft,none⟩::rest)):=by
  simp only[Prod.mk.injEq]at h;exact aB (fE h.1 e h.2.1) h.2.2 k
theorem vM {a b:Type} {r:eJ a} {e:a->b} {v:V0} {g:List a} {f:List b} (h:aF M L (Sn r e v g f)):∀c w,St c M L w->one v=true:=Know.one (aF.sl h)
variable {l:List Oper} {m:List Nat} {k0:Nat} {H Bs:List (Nat×List bH×List bH)} {rs:List Nat}
theorem sW {id:Nat} {r:List Nat} (m:List Nat) (k0:Nat) (f:P.follows .mixedOrders=true) (h:JR c n σ M L [] [] (RW P l.toArray Q (before m) (eK l) k0 r)) (a:chk l m k0=true:=by decide +kernel) (e:List.range l.length=r:=by exact rfl) (b:l.all kB=true:=by rfl):J c n σ M L ((Code.region id l.toArray true).wpr rd P Q):=JR.start m k0 f a (JR.open e h) b
theorem gC {i a:Nat} {b:Op} (f:l[i]? = some ⟨some a,b,ty,pos,aft,none⟩) (k:Y P c n σ [] [] ⟨some a,b,ty,pos,aft,none⟩ v)
    (h:JR c n ((a,v)::σ) M L H ((i,[],[])::Bs) (RW P l.toArray Q (before m) (eK l) k0 rs))
    (g:Nat.blt i k0=true:=by exact rfl) (j:fS b=false:=by exact rfl) (e:Nat.blt a n.sz=true:=by exact rfl):JR c n σ M L H Bs (RW P l.toArray Q (before m) (eK l) k0 (i::rs)):=aY f aZ.nil iC.nil k PP h g j e
theorem cA {f:bH} (h:L[0]? =some f):aF M L f:=aF.fact 0 h
theorem mM {f:bH} (h:L[1]? =some f):aF M L f:=aF.fact 1 h
theorem yP {f:bH} (h:L[2]? =some f):aF M L f:=aF.fact 2 h
theorem Dh {f:bH} (h:L[3]? =some f):aF M L f:=aF.fact 3 h
theorem Ek {f:bH} (h:L[4]? =some f):aF M L f:=aF.fact 4 h
theorem Di {f:bH} (h:L[5]? =some f):aF M L f:=aF.fact 5 h
theorem Ja {f:bH} (h:L[6]? =some f):aF M L f:=aF.fact 6 h
theorem ED {f:bH} (h:L[7]? =some f):aF M L f:=aF.fact 7 h
theorem PQ {f:bH} (h:L[9]? =some f):aF M L f:=aF.fact 9 h
theorem FZ {f:bH} (h:L[10]? =some f):aF M L f:=aF.fact 10 h
theorem yA {f:bH} (h:L[11]? =some f):aF M L f:=aF.fact 11 h
theorem Cv {f:bH} (h:L[12]? =some f):aF M L f:=aF.fact 12 h
end
end Go.Sx
namespace Go.Sx
abbrev bQ:=List Int
abbrev fL:=List (Int×Int)
abbrev bO:=List bQ
abbrev hJ:=List fL
abbrev iF:=ByteArray×(List (ByteArray×Int×Int×Int×Int×Int))×(List (ByteArray×(V0×fL)×(V0×List (Int×(V0×fL)))))
abbrev kV:=((bO×List bO×List (List bO))×Int)
abbrev kJ:=bO×List bO×List (List bO)
abbrev VW:=(ByteArray×(List (ByteArray×Int×Int×Int×Int×Int))×(List (ByteArray×(V0×fL)×(V0×List (Int×(V0×fL))))))×((ByteArray×(List (ByteArray×Int×Int×Int×Int×Int))×(List (ByteArray×(V0×fL)×(V0×List (Int×(V0×fL))))))×(bQ×hJ)×Int×bO)×hJ
abbrev PK:=((ByteArray×(List (ByteArray×Int×Int×Int×Int×Int))×(List (ByteArray×(V0×fL)×(V0×List (Int×(V0×fL))))))×(bQ×hJ)×Int×bO)×bO×Int×fL
abbrev cO:=bQ×hJ
abbrev kC:=List (Int×Int×Int)
abbrev EB:=(hJ×Int×bO×bO×List bO×List (List bO))
abbrev pB:=((List (Int×Int×Int)))
abbrev lE:=List (V0×fL)
abbrev NS:=(ByteArray×(List (ByteArray×Int×Int×Int×Int×Int))×(List (ByteArray×(V0×fL)×(V0×List (Int×(V0×fL))))))×(bQ×hJ)×Int×bO
abbrev xF:=Int×bO×List bO×List (List bO)
abbrev AC:=List (ByteArray×Int×Int×Int×Int×Int)
abbrev AR:=(Int×bO×List bO×List (List bO))
abbrev kD:=List (V0×bQ)
abbrev AS:=((bO×List bO×List (List bO)))
abbrev UF:=(((ByteArray×(List (ByteArray×Int×Int×Int×Int×Int))×(List (ByteArray×(V0×fL)×(V0×List (Int×(V0×fL))))))×(bQ×hJ)×Int×bO)×bO×Int×fL)
abbrev AT:=Int×bQ×bQ×bQ×Bool×Bool
abbrev NT:=V0×List V0×List (List V0)×V0×List V0×List (List V0)×List (List (List V0))
abbrev fY:=List V0
abbrev IW:=List (V0×List (V0×List (V0×bQ)))
abbrev i_:=(Int×Int)
abbrev Gq:=ByteArray×Int×Int×Int×Int×Int
abbrev Ro:=(List (Int×Int×Int))×(List (Int×Int×Int))×(List (Int×Int×Int))×Int
abbrev gK:=Int×Int
abbrev Mo:=hJ×Int×bO×bO×List bO×List (List bO)
abbrev YZ:=V0×(List (V0×bQ))×V0×(List (V0×List (V0×bQ)))×V0×(List (V0×List (V0×List (V0×bQ))))
abbrev AU:=List (List V0)
abbrev IX:=List (V0×List (V0×bQ))
abbrev wA:=((bQ×hJ))
abbrev HA:=Int×(List (Int×Int×Int))
abbrev Fw:=(List (Int×Int×Int))
abbrev IY:=(Int×(List (Int×Int×Int)))
abbrev Cq:=List (List bO)
abbrev Kn:=Int×(List ((Int×Int)×Int))
abbrev NU:=Int×Int×List bO×List (List bO)
abbrev Y_:=(ByteArray×List (ByteArray×Int×Int×Int×Int×Int)×List (fL×List (Int×fL)))
abbrev NV:=(Int×List bO×List (List bO))
abbrev Fx:=V0×List V0
abbrev rM:=List bO
abbrev Rp:=(bO×List bO×List (List bO))×Int
abbrev Za:=((List (Int×Int×Int))×(List (Int×Int×Int))×(List (Int×Int×Int))×Int)
abbrev NW:=Int×List bO×List (List bO)
abbrev NX:=(Int×(List ((Int×Int)×Int)))
abbrev Ko:=bQ×bQ×bQ×bQ
abbrev acj:=Nat×V0×(List (V0×bQ))×V0×(List (V0×List (V0×bQ)))×V0×(List (V0×List (V0×List (V0×bQ))))
abbrev Mq:=List (List (List V0))
abbrev Rq:=Int×Int×Int×Int×Int×Int×Int
abbrev ack:=V0×V0×V0×List V0×List V0×List (List V0)×List V0×List (List V0)×List (List (List V0))
abbrev HB:=List (Nat×Nat)
abbrev UG:=(Int×Int×List bO×List (List bO))
abbrev Rs:=List (fL×List (Int×fL))
abbrev Rt:=((List (Int×Int×Int))×Int)
abbrev Zb:=(Int×(List (Int×Int×Int))×(List (Int×Int×Int)))
abbrev UH:=(ByteArray×Int×Int×Int×Int×Int)
abbrev Fy:=(bQ×hJ)
abbrev UI:=V0×List V0×List (List V0)
abbrev UJ:=(Int×Int×Int×Int×Int×Int×Int)
abbrev Ru:=(List (Int×Int×Int))×Int
abbrev Zc:=Int×(List (Int×Int×Int))×(List (Int×Int×Int))
abbrev cT:V0:=Value.slice none 0 0
abbrev vD0:List V0:=[vS (ByteArray.mk #[]),vI (0:Int),vI (0:Int),vI (0:Int),vI (0:Int),vI (0:Int)]
abbrev Wi:List V0:=[vI (0:Int),vI (0:Int)]
end Go.Sx
namespace Go.Sx
open Go.RowKit
section
variable {P:Program} {c:yO} {n:Sz} {σ:Fr} {M L:List bH} {d:Option Tmp} {ty:TypeId} {pos:String} {aft:Array Edge} {g:Option (Nat×Bool)} {α:Type} {e:bM α} {r:eJ α}
def Wb {α:Type} (e:bM α) (v:V0) (l:List V0) (i:List (List α)):bH where
 p w F:=∃A B:Nat->Prop,AV bM.raw w A v l/\(gN e l i).p w B/\(∀k,A k->F k)/\(∀k,B k->F k)/\∀k,A k->¬B k
 mono:=by
  rintro w x S u ⟨A,B,s,t,m,o,q⟩ j;exact⟨λk=>A k/\k<w.heap.size,λk=>B k/\k<w.heap.size,(Ar bM.raw v l).mono s λk f h=>⟨⟨f,h⟩,(j k (m k f) h).2⟩,(gN e l i).mono t λk f h=>⟨⟨f,h⟩,(j k (o k f) h).2⟩,λk f=>(j k (m k f.1) f.2).1,λk f=>(j k (o k f.1) f.2).1,λk a b=>q k a.1 b.1⟩
def wK {α:Type} (e:bM α) (vs:List V0) (wss:List (List V0)) (xsss:List (List (List α))):bH where
 p w F:=(vs.length=xsss.length/\wss.length=xsss.length)/\∃G:Nat->Nat->Prop,(∀i v h a,vs[i]? = some v->wss[i]? = some h->xsss[i]? = some a->(Wb e v h a).p w (G i))/\(∀i k,G i k->F k)/\∀i j k,G i k->G j k->i=j
 mono:=by
  rintro w B S A ⟨u,G,o,l,q⟩ m;exact⟨u,λi k=>G i k/\k<w.heap.size,λi v h a x y z=>(Wb e v h a).mono (o i v h a x y z) λk b f=>⟨⟨b,f⟩,(m k (l i k b) f).2⟩,λi k b=>(m k (l i k b.1) b.2).1,λi j k s t=>q i j k s.1 t.1⟩
theorem tX (e:bM α):dY M L (wK e [] [] []::M) L:=dY.add λw=>⟨⟨rfl,rfl⟩,λ_ _=>False,λi v f b a=>by simp at a,λ_ _ h=>h,λ_ _ _ h=>h.elim⟩
theorem Gy (i j:Nat) {v:V0} {f:List V0} {a:List (List α)} (b:Nat.beq i j=false) (m:M[i]? = some (Ar bM.raw v f)) (o:M[j]? = some (gN e f a)):dY M L ((M.set i (Wb e v f a)).eraseIdx j) L:=λc w t=>
 t.merge i j (λe=>by subst e;simp at b) m o λh k l=>⟨_,_,h,k,λ_=> .inl,λ_=> .inr,l⟩
theorem CM (i j:Nat) {u:V0} {us:List V0} {m:List (List α)} {vs:List V0} {wss:List (List V0)} {xsss:List (List (List α))} (p:Nat.beq i j=false) (K:M[i]? = some (wK e vs wss xsss)) (N:M[j]? = some (Wb e u us m)):dY M L ((M.set i (wK e (vs++[u]) (wss++[us]) (xsss++[m]))).eraseIdx j) L:=λc w t=>
 t.merge i j (λe=>by subst e;simp at p) K N (by
  rintro w Q D ⟨⟨s,x⟩,G,E,o,F⟩ J A;refine⟨⟨by simp[s],by simp[x]⟩,λq k=>(q<vs.length/\G q k)\/(q=vs.length/\D k),?_,?_,?_⟩
  ·intro q v O z f h l;by_cases B:q<vs.length
   ·rw[zAc B]at f;rw[zAc (by omega)]at h l;exact bH.same (E q v O z f h l) (λk a=> .inl ⟨B,a⟩) (λ_ _ _=>rfl)
   ·rw[zAb (by omega)]at f h l;have y:q - vs.length=0:=by have:=bK f;simp at this;omega
    rw[y]at f;rw[show q - wss.length=0 by omega]at h;rw[show q - xsss.length=0 by omega]at l;simp at f h l;subst f;subst h;subst l;exact bH.same J (λk a=> .inr ⟨by omega,a⟩) (λ_ _ _=>rfl)
  ·rintro q k (⟨_,a⟩|⟨_,a⟩)
   ·exact .inl (o q k a)
   ·exact .inr a
  ·rintro q C k (⟨H,a⟩|⟨H,a⟩) (⟨I,b⟩|⟨I,b⟩)
   ·exact F q C k a b
   ·exact absurd b (A k (o q k a))
   ·exact absurd a (A k (o C k b))
   ·omega)
theorem EH (i j:Nat) {us vs:List V0} {o wss:List (List V0)} {f xsss:List (List (List α))} (z:Nat.beq i j=false) (R:M[i]? = some (wK e vs wss xsss)) (S:M[j]? = some (wK e us o f)):dY M L ((M.set i (wK e (vs++us) (wss++o) (xsss++f))).eraseIdx j) L:=λc w t=>
 t.merge i j (λe=>by subst e;simp at z) R S (by
  rintro w T U ⟨⟨A,B⟩,G,K,x,N⟩ ⟨⟨C,D⟩,J,u,h,y⟩ E;refine⟨⟨by simp[A,C],by simp[B,D]⟩,λq k=>(q<vs.length/\G q k)\/(vs.length<=q/\J (q - vs.length) k),?_,?_,?_⟩
  ·intro q v I p s l m;by_cases F:q<vs.length
   ·rw[zAc F]at s;rw[zAc (by omega)]at l m;exact bH.same (K q v I p s l m) (λk a=> .inl ⟨F,a⟩) (λ_ _ _=>rfl)
   ·rw[zAb (by omega)]at s l m;rw[show q - wss.length=q - vs.length by omega]at l;rw[show q - xsss.length=q - vs.length by omega]at m;exact bH.same (u _ v I p s l m) (λk a=> .inr ⟨by omega,a⟩) (λ_ _ _=>rfl)
  ·rintro q k (⟨_,a⟩|⟨_,a⟩)
   ·exact .inl (x q k a)
   ·exact .inr (h _ k a)
  ·rintro q H k (⟨O,a⟩|⟨O,a⟩) (⟨Q,b⟩|⟨Q,b⟩)
   ·exact N q H k a b
   ·exact absurd (h _ k b) (E k (x q k a))
   ·exact absurd (h _ k a) (E k (x H k b))
   ·have:=y _ _ k a b;omega)
theorem jY (q:Nat) {vs:List V0} {wss:List (List V0)} {xsss:List (List (List α))} (a:M[q]? = some (wK e vs wss xsss)):∀c w,St c M L w->vs.length=xsss.length:=λc w t=>by
 obtain⟨_,h⟩:=t.res a;exact h.1.1
end
def Pw {e g:Type} (f:e->g->bH) (c:List e) (d:List g):bH where
 p w S:=c.length=d.length/\∀(i:Nat) a b,c[i]? = some a->d[i]? = some b->(f a b).p w S
 mono:=fun⟨j,k⟩ h=>⟨j,λi a b l m=>(f a b).mono (k i a b l m) h⟩
abbrev tA {a:Type} (r:eJ a):fY->List (List a)->bH:=Pw (Sl r)
abbrev AD {a:Type} (r:eJ a):AU->List (List (List a))->bH:=Pw (tA r)
abbrev De {a:Type} (r:eJ a):Mq->List (List (List (List a)))->bH:=Pw (AD r)
def eJ.raw:eJ V0:=⟨1,Nat.one_pos,λ_ _ cs x=>cs=[x],λh=>by simp[h],λh _=>h⟩
theorem Jd {w:World} {F:Nat->Prop} {v:V0} {d:fY} (h:AV bM.raw w F v d):FC eJ.raw w F v d:=by
 have f:=h;obtain⟨q,_,k⟩:=h;rcases k with⟨rfl,rfl⟩|⟨b,c,a,T,e,rfl,g,n,p,o,r⟩
 ·exact⟨none,0,rfl,by simp,.inl Z⟩
 ·refine⟨_,a,rfl,by omega,.inr ⟨b,c,rfl,g,λi x m=>⟨[x],λj u l=> ?_,rfl⟩⟩⟩
  have:=AV.cell f m (j:=j) (u:=u) l;simp only[Kr,fF]at this;exact this
theorem iU:eJ.raw.Cell 0 (λx=>x):=λh=>by simp[show _=[_]from h]
section
variable {M L:List bH} {α β:Type} {f:α->β->bH} {la cs:List α} {lb ds:List β} {a:α} {b:β}
theorem eD:aF M L (Pw f [] []):=λ_ _ _ _ _ _ _ _=>⟨rfl,λi a b c=>by simp at c⟩
theorem PX (n:Nat) (h:aF M L (f a b)):aF M L (Pw f (List.replicate n a) (List.replicate n b)):=λw S T U c d e g=>⟨by simp,λi x y j k=>by
 obtain⟨_,rfl⟩:=List.mem_replicate.1 (zA0 j);obtain⟨_,rfl⟩:=List.mem_replicate.1 (zA0 k);exact h w S T U c d e g⟩
theorem gF (h:aF M L (Pw f la lb)) (k:aF M L (Pw f cs ds)):aF M L (Pw f (la++cs) (lb++ds)):=λw S T U j l m n=>by
 obtain⟨g,o⟩:=h w S T U j l m n;obtain⟨p,q⟩:=k w S T U j l m n;refine⟨by simp[g,p],λi x y c d=> ?_⟩
 by_cases e:i<la.length
 ·rw[zAc e]at c;rw[zAc (by omega)]at d;exact o i x y c d
 ·rw[zAb (by omega)]at c;rw[zAb (by omega),<-g]at d;exact q _ x y c d
theorem PW (h:aF M L (f a b)):aF M L (Pw f [a] [b]):=PX 1 h
theorem gR (h:aF M L (f a b)) (k:aF M L (Pw f la lb)):aF M L (Pw f (a::la) (b::lb)):=gF (PW h) k
theorem iM (k:Nat) (h:aF M L (Pw f la lb)) (g:aF M L (f a b)):aF M L (Pw f (la.set k a) (lb.set k b)):=λw S T U j l m n=>by
 obtain⟨o,p⟩:=h w S T U j l m n;refine⟨by simp[o],λi x y c d=> ?_⟩
 by_cases e:k=i
 ·subst e;have q:=bK c;have r:=bK d;rw[zAh (by simpa using q)]at c;rw[zAh (by simpa using r)]at d;cases c;cases d;exact g w S T U j l m n
 ·rw[zAq e]at c d;exact p i x y c d
theorem bR [Inhabited α] [Inhabited β] {k:Int} (h:aF M L (Pw f la lb)) (c:0<=k) (e:k<lb.length):aF M L (f (at' la k) (at' lb k)):=h.mono λ{w U} hp=>by
 obtain⟨g,d⟩:=hp;exact d k.toNat _ _ (cX c (by omega)) (cX c e)
theorem Oo (m:Nat) (h:aF M L (Pw f la lb)):aF M L (Pw f (la.take m) (lb.take m)):=h.mono λ{w U} hp=>by
 obtain⟨e,g⟩:=hp;refine⟨by simp[e],λi x y c d=> ?_⟩
 rw[zAs]at c d;split at c
 ·rename_i h;rw[if_pos h]at d;exact g i x y c d
 ·cases c
theorem Ib (m:Nat) (h:aF M L (Pw f la lb)):aF M L (Pw f (la.drop m) (lb.drop m)):=h.mono λ{w U} hp=>by
 obtain⟨e,g⟩:=hp;refine⟨by simp[e],λi x y c d=> ?_⟩
 rw[zAt]at c d;exact g _ x y c d
theorem aW (h:aF M L (Pw f la lb)):∀c w,St c M L w->la.length=lb.length:=λc w t=>by
 obtain⟨S,d⟩:=h.st t;exact d.1
theorem mF {r:eJ α} {e:bM α} {j:Nat} {vs:List V0} {d:List (List α)} (m:M[j]? = some (gN e vs d)) (c:e.Fits r):aF M L (tA r vs d):=λw S T U u k x l=>by
 obtain⟨n,G,g,h,_⟩:=k j _ m;exact⟨n,λi v t p s=>(AV.sl c (g i v t p s)).mono λq o _=>⟨l j q (h _ q o),rfl⟩⟩
theorem cJ {g:bH} (h:aF [] L g):dY M L M (g::L):=λc w ⟨k,F,e,d⟩=>⟨k,F,e,λx hx=>by
 rcases zAm.1 hx with rfl|hx
 ·exact h w (Dy c F) (λ_ _=>False) (Dy c F) d (λi m j=>by simp at j) (λ_ h=>h) (λ_ _ h=>h.elim)
 ·exact d x hx⟩
theorem sU (n q:List bH) {g:bH} (u:aZ M (n++q)) (h:aF n L g):dY M L q (g::L):=λc w t=>by
 obtain⟨v,F,o,s⟩:=t.weak u (λ_ h=>h);refine⟨v,λi k=>i<q.length/\F (i+n.length) k,⟨λi m p=> ?_,λi k d=>o.rng _ k d.2,λi j k e r=>by have:=o.dis _ _ k e.2 r.2;omega⟩,λx hx=> ?_⟩
 ·have e:=bK p;exact bH.same (o.res (i+n.length) m (by rw[zAb (by omega),Nat.add_sub_cancel];exact p)) (λk d=>⟨e,d⟩) (λ_ _ _=>rfl)
 ·have l:∀k,Dy c F k->Dy c (λi k=>i<q.length/\F (i+n.length) k) k:=λk d=>⟨d.1,λi e=>d.2 _ e.2⟩
  rcases zAm.1 hx with rfl|hx
  ·refine h w (Dy c F) (λi k=>i<n.length/\F i k) _ s (λi m p=> ?_) l (λi k d=> ?_)
   ·have e:=bK p;exact bH.same (o.res i m (by rw[zAc e];exact p)) (λk d=>⟨e,d⟩) (λ_ _ _=>rfl)
   ·refine⟨.inr (o.rng i k d.2).1,λj r=> ?_⟩
    have:=o.dis _ _ k d.2 r.2;omega
  ·exact bH.same (s x hx) l (λ_ _ _=>rfl)
end
section
variable {M L:List bH} {α β γ:Type} {e:bM α} {r:eJ α}
abbrev S3 (r:eJ α) (v:V0) (a:List (V0×List (V0×List α))) (x:List (List (List α))):bH:=Sn (eJ.sl (eJ.sl r)) (λz=>z.2.map λy=>y.2) v a x
abbrev S4 (r:eJ α) (v:V0) (a:List (V0×List (V0×List (V0×List α)))) (x:List (List (List (List α)))):bH:=Sn (eJ.sl (eJ.sl (eJ.sl r))) (λz=>z.2.map λy=>y.2.map λq=>q.2) v a x
theorem cE {q:eJ γ} {c:γ->β} {v:V0} {b:List (V0×List γ)} {a:List (List β)} {i:Int} (h:aF M L (Sn (eJ.sl q) (λz=>z.2.map c) v b a)) (d:0<=i) (f:i<a.length):aF M L (Sn q c (at' b i).1 (at' b i).2 (at' a i)):=h.mono λ{w U} h=>by
 obtain⟨h,g⟩:=h;have j:i<b.length:=by rw[<-g]at f;simpa using f
 obtain⟨l,k,_⟩:=sl_cell h (cX d j);exact⟨k.2,by rw[<-g,TJ _ d j]⟩
theorem eI {P:Program} [d_ P] {c:yO} {n:Sz} {p:Fr} {d:Option Tmp} {F:TypeId} {k:String} {j:Array Edge} {g:Option (Nat×Bool)} {T:TypeId} {D E:Nat} {z:V0} {l:TypeDesc} {x:Operand} {q:eJ γ} {u:V0×List γ->β} {v:V0} {i:Int} {o:List (V0×List γ)} {b:List β} (C:ev p x=some (EL v (i.toNat*1))) (m:aF M L (Sn (eJ.sl q) u v o b))
  (A:d_.tab P T=some ⟨l,D,E,z⟩) (B:Bb l=false) (h:0<=i/\i<b.length):Y P c n p M L ⟨d,.load T x,F,k,j,g⟩ (at' o i).1:=λa w s t=>by
 obtain⟨_,y⟩:=m.st t;exact cK (r:=eJ.sl q) (f:=λz=>z.1) C m.sl A B Z (eJ.sl_cell q) (by rw[Sn.len y];exact h) a w s t
theorem JE {q:eJ γ} {w:World} {S F:Nat->Prop} {v:V0} {c:List V0} {d:List (V0×List γ)} (m:AV bM.raw w F v c) (n:c.length=d.length) (C:∀(i:Nat) u z,c[i]? = some u->d[i]? = some z->z.1=u/\FC q w S z.1 z.2) (A:∀k,F k->S k):FC (eJ.sl q) w S v d:=by
 have g:=m;obtain⟨K,_,B⟩:=m;rcases B with⟨rfl,rfl⟩|⟨b,l,f,E,s,rfl,h,G,J,H,N⟩
 ·have:d=[]:=zAn (by simpa using n.symm);subst this;exact⟨none,0,rfl,by simp,.inl Z⟩
 ·refine⟨_,f,by rw[n],by omega,.inr ⟨b,l,rfl,A _ h,λi x p=> ?_⟩⟩
  have I:=bK p;have o:c[i]? = some (c[i]'(by omega)):=zA2 _;obtain⟨t,y⟩:=C i _ x o p;refine⟨[x.1],λD u a=> ?_,rfl,y⟩
  rw[t]at a;have:=AV.cell g o (j:=D) (u:=u) a;simp only[Kr,fF]at this;exact this
def Z3 (vs:List V0) (wss:List (List V0)) (xsss:List (List (List α))):List (V0×List (V0×List α)):=vs.zip (List.zipWith List.zip wss xsss)
def Z4 (us:List V0) (wss:List (List V0)) (a:List (List (List V0))) (y:List (List (List (List α)))):List (V0×List (V0×List (V0×List α))):=us.zip (List.zipWith (λb p=>Z3 b p.1 p.2) wss (a.zip y))
theorem Pf {w:World} {S F:Nat->Prop} {v:V0} {d:List V0} {a:List (List α)} (j:AV bM.raw w F v d) (b:(tA r d a).p w S) (l:∀k,F k->S k):FC (eJ.sl r) w S v (d.zip a):=by
 obtain⟨m,b⟩:=b;refine JE j (by simp[m]) (λi u z g c=> ?_) l;rw[List.getElem?_zip_eq_some]at c;rw[g]at c;obtain⟨f,h⟩:=c;refine⟨(Option.some.inj f).symm,b i _ _ ?_ h⟩
 rw[g];exact f
theorem Ti {w:World} {S F:Nat->Prop} {v:V0} {vs:List V0} {wss:List (List V0)} {xsss:List (List (List α))} (hA:AV bM.raw w F v vs) (hR:(gN bM.raw vs wss).p w F) (hP:(AD r wss xsss).p w S) (hF:∀k,F k->S k):FC (eJ.sl (eJ.sl r)) w S v (Z3 vs wss xsss)/\(Z3 vs wss xsss).map (λz=>z.2.map λy=>y.2)=xsss:=by
 obtain⟨hl,hP⟩:=hP;obtain⟨hl2,G,g1,g2,_⟩:=hR;unfold Z3;refine⟨JE hA (by simp[hl2,hl]) (λi u z hu hz=> ?_) hF,?_⟩
 ·rw[List.getElem?_zip_eq_some]at hz;obtain⟨h1,h2⟩:=hz;rw[hu]at h1;have h1:=Option.some.inj h1;rw[List.getElem?_zipWith]at h2;split at h2
  ·rename_i ws xss hws hxs;have h2:=Option.some.inj h2;have:=Pf (g1 i u ws hu hws) (hP i ws xss hws hxs) (λk hk=>hF k (g2 i k hk));refine⟨h1.symm,?_⟩
   rw[<-h1,<-h2];exact this
  ·cases h2
 ·refine List.ext_getElem? λi=> ?_;rw[List.getElem?_map];by_cases hi:i<xsss.length
  ·have e1:vs[i]? = some (vs[i]'(by omega)):=zA2 _;have e2:wss[i]? = some (wss[i]'(by omega)):=zA2 _;have e3:xsss[i]? = some (xsss[i]'hi):=zA2 _;have e4:(vs.zip (List.zipWith List.zip wss xsss))[i]? = some (vs[i]'(by omega),(wss[i]'(by omega)).zip (xsss[i]'hi)):=by
    rw[List.getElem?_zip_eq_some];exact⟨e1,by rw[List.getElem?_zipWith,e2,e3]⟩
   rw[e4,e3];simp only[Option.map_some,Option.some.injEq];rw[List.map_snd_zip];have:=(hP i _ _ e2 e3).1;omega
  ·rw[zAo (by simp;omega),zAo (by omega)];rfl
theorem c_ {i j:Nat} {v:V0} {vs:List V0} {a:List (List α)} (h:M[i]? = some (Ar bM.raw v vs)) (k:L[j]? = some (tA r vs a)):aF M L (S2 r v (vs.zip a) a):=λw S T U c d f g=>by
 have b:=bH.wide (c _ (zA0 k)) f;refine⟨Pf (d i _ h) b (g i),?_⟩
 rw[List.map_snd_zip];have:=b.1;omega
theorem gA {i q j:Nat} {v:V0} {vs:List V0} {wss:List (List V0)} {xsss:List (List (List α))} (f:M[i]? = some (Ar bM.raw v vs)) (k:M[q]? = some (gN bM.raw vs wss)) (g:L[j]? = some (AD r wss xsss)):aF M L (S3 r v (Z3 vs wss xsss) xsss):=λw S T U c a d b=>
 Ti (F:=U) (bH.wide (a i _ f) (b i)) (bH.wide (a q _ k) (b q)) (bH.wide (c _ (zA0 g)) d) (λ_ h=>h)
theorem gM {i q j:Nat} {v:V0} {us:List V0} {wss:List (List V0)} {a:List (List (List V0))} {y:List (List (List (List α)))} (hi:M[i]? = some (Ar bM.raw v us)) (hq:M[q]? = some (wK bM.raw us wss a)) (hj:L[j]? = some (De r a y)):aF M L (S4 r v (Z4 us wss a y) y):=λw S T U V I X J=>by
 obtain⟨hl,W⟩:=bH.wide (V _ (zA0 hj)) X;obtain⟨⟨l1,l2⟩,G,Q,H,_⟩:=bH.wide (I q _ hq) (J q);have R:=bH.wide (I i _ hi) (J i);have c:∀(m:Nat) u z,us[m]? = some u->(Z4 us wss a y)[m]? = some z->z.1=u/\FC (eJ.sl (eJ.sl r)) w U z.1 z.2/\∃x,y[m]? = some x/\z.2.map (λy=>y.2.map λq=>q.2)=x:=by
  intro m u z o d;unfold Z4 at d;rw[List.getElem?_zip_eq_some]at d;obtain⟨g,b⟩:=d;rw[o]at g;have g:=Option.some.inj g;rw[List.getElem?_zipWith]at b;split at b
  ·rename_i K p D n;rw[List.getElem?_zip_eq_some]at n;have b:=Option.some.inj b;obtain⟨A,B,s,t,N,O,_⟩:=Q m u K p.1 o D n.1;have:=Ti (r:=r) (F:=U) (bH.wide (f:=Ar bM.raw u K) s (λk C=>H m k (N k C))) (bH.wide t (λk C=>H m k (O k C))) (W m p.1 p.2 n.1 n.2) (λ_ h=>h);refine⟨g.symm,?_,p.2,n.2,?_⟩
   ·rw[<-g,<-b];exact this.1
   ·rw[<-b];exact this.2
  ·cases b
 have l:us.length=(Z4 us wss a y).length:=by unfold Z4;simp;omega
 refine⟨JE (F:=U) R l (λm u z o d=>⟨(c m u z o d).1,(c m u z o d).2.1⟩) (λ_ h=>h),?_⟩
 refine List.ext_getElem? λm=> ?_;rw[List.getElem?_map];by_cases hm:m<us.length
 ·have P:us[m]? = some (us[m]'hm):=zA2 _;have E:(Z4 us wss a y)[m]? = some ((Z4 us wss a y)[m]'(by omega)):=zA2 _;obtain⟨_,_,x,hx,Y⟩:=c m _ _ P E;rw[E,hx,Option.map_some];exact congrArg some Y
 ·rw[zAo (by omega),zAo (by omega)];rfl
theorem Gu {q j:Nat} {vs:List V0} {wss:List (List V0)} {xsss:List (List (List α))} {k:Int} (p:M[q]? = some (gN bM.raw vs wss)) (n:L[j]? = some (AD r wss xsss)) (a:0<=k) (f:k<xsss.length):aF M L (S2 r (at' vs k) ((at' wss k).zip (at' xsss k)) (at' xsss k)):=λw S T U g h l m=>by
 obtain⟨s,i⟩:=bH.wide (g _ (zA0 n)) l;obtain⟨o,G,c,d,_⟩:=bH.wide (h q _ p) (m q);have b:=i k.toNat _ _ (cX a (by omega)) (cX a f);refine⟨Pf (c k.toNat _ _ (cX a (by omega)) (cX a (by omega))) b (d _),?_⟩
 rw[List.map_snd_zip];have:=b.1;omega
theorem yG {q j:Nat} {us:List V0} {wss:List (List V0)} {a:List (List (List V0))} {y:List (List (List (List α)))} {k:Int} (D:M[q]? = some (wK bM.raw us wss a)) (x:L[j]? = some (De r a y)) (b:0<=k) (o:k<y.length):aF M L (S3 r (at' us k) (Z3 (at' wss k) (at' a k) (at' y k)) (at' y k)):=λw S T U p s u v=>by
 obtain⟨E,t⟩:=bH.wide (p _ (zA0 x)) u;obtain⟨⟨H,I⟩,G,n,i,_⟩:=bH.wide (s q _ D) (v q);have C:=t k.toNat _ _ (cX b (by omega)) (cX b o);obtain⟨A,B,c,d,l,m,_⟩:=n k.toNat _ _ _ (cX b (by omega)) (cX b (by omega)) (cX b (by omega));exact Ti (r:=r) (F:=U) (bH.wide (f:=Ar bM.raw _ _) c (λz g=>i _ z (l z g))) (bH.wide d (λz g=>i _ z (m z g))) C (λ_ h=>h)
theorem AZ {q j:Nat} {us:List V0} {wss:List (List V0)} {a:List (List (List V0))} {y:List (List (List (List α)))} {k b:Int} (H:M[q]? = some (wK bM.raw us wss a)) (C:L[j]? = some (De r a y)) (h:0<=k/\k<y.length) (c:0<=b/\b<(at' y k).length):aF M L (S2 r (at' (at' wss k) b) ((at' (at' a k) b).zip (at' (at' y k) b)) (at' (at' y k) b)):=λw S T U s t v x=>by
 obtain⟨N,u⟩:=bH.wide (s _ (zA0 C)) v;obtain⟨⟨O,P⟩,G,n,o,_⟩:=bH.wide (t q _ H) (x q);have E:=u k.toNat _ _ (cX h.1 (by omega)) (cX h.1 h.2);obtain⟨A,B,p,f,K,i,_⟩:=n k.toNat _ _ _ (cX h.1 (by omega)) (cX h.1 (by omega)) (cX h.1 (by omega));obtain⟨D,J,l,m,_⟩:=f;obtain⟨F,g⟩:=E;have d:=g b.toNat _ _ (cX c.1 (by omega)) (cX c.1 c.2);refine⟨Pf (l b.toNat _ _ (cX c.1 (by omega)) (cX c.1 (by omega))) d (λz I=>o _ z (i z (m _ z I))),?_⟩
 rw[List.map_snd_zip];have:=d.1;omega
theorem JQ {q:Nat} {vs:List V0} {wss:List (List V0)} {k:Int} (i:M[q]? = some (gN bM.raw vs wss)) (a:0<=k) (d:k<wss.length):aF M L (Sl eJ.raw (at' vs k) (at' wss k)):=λw S T U l f m g=>by
 obtain⟨h,G,b,c,_⟩:=bH.wide (f q _ i) (g q);exact(Jd (b k.toNat _ _ (cX a (by omega)) (cX a d))).mono λz j _=>⟨c _ z j,rfl⟩
theorem nM {q:Nat} {us:List V0} {wss:List (List V0)} {a:List (List (List V0))} {k:Int} (m:M[q]? = some (wK bM.raw us wss a)) (b:0<=k) (h:k<a.length):aF M L (Sl eJ.raw (at' us k) (at' wss k)):=λw S T U p j s l=>by
 obtain⟨⟨t,u⟩,G,f,g,_⟩:=bH.wide (j q _ m) (l q);obtain⟨A,B,c,i,d,o,_⟩:=f k.toNat _ _ _ (cX b (by omega)) (cX b (by omega)) (cX b h);exact(Jd c).mono λz n _=>⟨g _ z (d z n),rfl⟩
theorem JP {q:Nat} {us:List V0} {wss:List (List V0)} {a:List (List (List V0))} {k b:Int} (s:M[q]? = some (wK bM.raw us wss a)) (h:0<=k/\k<a.length) (c:0<=b/\b<(at' a k).length):aF M L (Sl eJ.raw (at' (at' wss k) b) (at' (at' a k) b)):=λw S T U x n y o=>by
 obtain⟨⟨C,D⟩,G,j,l,_⟩:=bH.wide (n q _ s) (o q);obtain⟨A,B,m,d,v,f,_⟩:=j k.toNat _ _ _ (cX h.1 (by omega)) (cX h.1 (by omega)) (cX h.1 h.2);obtain⟨p,u,g,i,_⟩:=d;exact(Jd (g b.toNat _ _ (cX c.1 (by omega)) (cX c.1 c.2))).mono λz t _=>⟨l _ z (f z (i _ z t)),rfl⟩
theorem Cs (j:Nat) {vs:List V0} {wss:List (List V0)} {xsss:List (List (List α))} {k:Int} (Y:M[j]? = some (wK e vs wss xsss)) (x:0<=k/\k<xsss.length):dY M L (Ar bM.raw (at' vs k) (at' wss k)::gN e (at' wss k) (at' xsss k)::M.set j (wK e (vs.set k.toNat (.slice none 0 0)) (wss.set k.toNat []) (xsss.set k.toNat []))) L:=by
 rintro c w ⟨ho,F,l,hL⟩;obtain⟨⟨I,J⟩,G,X,p,D⟩:=l.res j _ Y;have K:=bK Y;obtain⟨A,B,hA,hB,P,Q,R⟩:=X k.toNat _ _ _ (cX x.1 (by omega)) (cX x.1 (by omega)) (cX x.1 x.2);have t:∀b,A b->F j b:=λb h=>p _ b (P b h);have u:∀b,B b->F j b:=λb h=>p _ b (Q b h);refine⟨ho,λq b=>(q=0/\A b)\/(q=1/\B b)\/∃r,q=r+2/\((r=j/\∃j',j'≠k.toNat/\G j' b)\/(r≠j/\F r b)),⟨?_,?_,?_⟩,λf H=> ?_⟩
 ·intro q m n
  match q,n with
  |0,n=>
   obtain rfl:=Option.some.inj n;exact bH.same hA (λb d=> .inl ⟨rfl,d⟩) (λ_ _ _=>rfl)
  |1,n=>
   obtain rfl:=Option.some.inj n;exact bH.same hB (λb d=> .inr (.inl ⟨rfl,d⟩)) (λ_ _ _=>rfl)
  | r + 2, n =>
   have n:(M.set j _)[r]? = some m:=n;by_cases C:r=j
   ·subst C;rw[zAh K]at n;cases n;refine⟨by simp[I,J],λj' q=>j'≠k.toNat/\G j' q,λj' v ws O s y z=> ?_,λj' q N=> .inr (.inr ⟨r,rfl,.inl ⟨rfl,j',N⟩⟩),λj1 j2 q h1 h2=>D _ _ q h1.2 h2.2⟩
    by_cases o:j'=k.toNat
    ·subst o;rw[zAh (by omega)]at s;rw[zAh (by omega)]at y;rw[zAh (by omega)]at z;cases s;cases y;cases z;exact⟨λ_=>False,λ_=>False,⟨by simp,rfl,.inl ⟨rfl,rfl⟩⟩,⟨rfl,λ_ _=>False,λi v xs s=>by simp at s,λ_ _ h=>h,λ_ _ _ h=>h.elim⟩,λ_ h=>h.elim,λ_ h=>h.elim,λ_ h=>h.elim⟩
    ·rw[zAq (Ne.symm o)]at s y z;exact bH.same (X j' v ws O s y z) (λq N=>⟨o,N⟩) (λ_ _ _=>rfl)
   ·rw[zAq (Ne.symm C)]at n;exact bH.same (l.res r m n) (λb d=> .inr (.inr ⟨r,rfl,.inr ⟨C,d⟩⟩)) (λ_ _ _=>rfl)
 ·rintro q b (⟨_,d⟩|⟨_,d⟩|⟨r,_,⟨_,j',_,d⟩|⟨_,d⟩⟩)
  ·exact l.rng _ b (t b d)
  ·exact l.rng _ b (u b d)
  ·exact l.rng _ b (p _ b d)
  ·exact l.rng _ b d
 ·have S:∀b j',A b->j'≠k.toNat->¬G j' b:=λb j' h g E=>g (D _ _ b E (P b h));have T:∀b j',B b->j'≠k.toNat->¬G j' b:=λb j' h g E=>g (D _ _ b E (Q b h));rintro q q' b (⟨U,d⟩|⟨U,d⟩|⟨r,U,d⟩) (⟨o,a⟩|⟨o,a⟩|⟨r',o,a⟩)
  ·omega
  ·exact absurd a (R b d)
  ·rcases a with⟨_,j',g,a⟩|⟨g,a⟩
   ·exact absurd a (S b j' d g)
   ·exact absurd (l.dis _ _ b a (t b d)) g
  ·exact absurd d (R b a)
  ·omega
  ·rcases a with⟨_,j',g,a⟩|⟨g,a⟩
   ·exact absurd a (T b j' d g)
   ·exact absurd (l.dis _ _ b a (u b d)) g
  ·rcases d with⟨_,j',g,d⟩|⟨g,d⟩
   ·exact absurd d (S b j' a g)
   ·exact absurd (l.dis _ _ b d (t b a)) g
  ·rcases d with⟨_,j',g,d⟩|⟨g,d⟩
   ·exact absurd d (T b j' a g)
   ·exact absurd (l.dis _ _ b d (u b a)) g
  ·rcases d with⟨V,j',_,d⟩|⟨V,d⟩<;>rcases a with⟨W,aa,_,a⟩|⟨W,a⟩
   ·omega
   ·exact absurd (l.dis _ _ b a (p _ b d)) W
   ·exact absurd (l.dis _ _ b d (p _ b a)) V
   ·have:=l.dis _ _ b d a;omega
 ·refine bH.same (hL f H) (λb d=>⟨d.1,?_⟩) (λ_ _ _=>rfl);rintro q (⟨_,h⟩|⟨_,h⟩|⟨r,_,⟨_,j',_,h⟩|⟨_,h⟩⟩)
  ·exact d.2 _ (t b h)
  ·exact d.2 _ (u b h)
  ·exact d.2 _ (p _ b h)
  ·exact d.2 _ h
theorem Si (i j:Nat) {u:V0} {C:List V0} {h:List (List α)} {k:Int} {D:List V0} {g:List (List V0)} {d:List (List (List α))} (p:Nat.beq i j=false) (N:M[i]? = some (wK e D g d)) (O:M[j]? = some (Wb e u C h)) (R:0<=k/\k<d.length):
  dY M L ((M.set i (wK e (D.set k.toNat u) (g.set k.toNat C) (d.set k.toNat h))).eraseIdx j) L:=λc w t=>
 t.merge i j (λe=>by subst e;simp at p) N O (by
  rintro w Q E ⟨⟨s,x⟩,G,F,o,H⟩ K A;refine⟨⟨by simp[s],by simp[x]⟩,λq b=>(q=k.toNat/\E b)\/(q≠k.toNat/\G q b),?_,?_,?_⟩
  ·intro q v P z l m n;by_cases y:q=k.toNat
   ·subst y;rw[zAh (by omega)]at l;rw[zAh (by omega)]at m;rw[zAh (by omega)]at n;cases l;cases m;cases n;exact bH.same K (λb a=> .inl ⟨rfl,a⟩) (λ_ _ _=>rfl)
   ·rw[zAq (Ne.symm y)]at l m n;exact bH.same (F q v P z l m n) (λb a=> .inr ⟨y,a⟩) (λ_ _ _=>rfl)
  ·rintro q b (⟨_,a⟩|⟨_,a⟩)
   ·exact .inr a
   ·exact .inl (o q b a)
  ·rintro q B b (⟨I,a⟩|⟨I,a⟩) (⟨J,f⟩|⟨J,f⟩)
   ·omega
   ·exact absurd a (A b (o B b f))
   ·exact absurd f (A b (o q b a))
   ·exact H q B b a f)
theorem Dk (i j q:Nat) {us:List V0} {a:List (List α)} {k:Int} {vs:List V0} {wss:List (List V0)} {xsss:List (List (List α))} {i' j':Nat} (g:Nat.beq j q=false) (f:Nat.beq i' j'=false) (p:M[i]? = some (wK e (vs.set k.toNat (.slice none 0 0)) (wss.set k.toNat []) (xsss.set k.toNat []))) (n:M[j]? = some (Ar bM.raw (at' vs k) us)) (o:M[q]? = some (gN e us a))
  (d:((M.set j (Wb e (at' vs k) us a)).eraseIdx q)[i']? = some (wK e (vs.set k.toNat (.slice none 0 0)) (wss.set k.toNat []) (xsss.set k.toNat []))) (b:((M.set j (Wb e (at' vs k) us a)).eraseIdx q)[j']? = some (Wb e (at' vs k) us a)) (m:0<=k/\k<xsss.length):
  dY M L ((((M.set j (Wb e (at' vs k) us a)).eraseIdx q).set i' (wK e vs (wss.set k.toNat us) (xsss.set k.toNat a))).eraseIdx j') L:=by
 rintro c w t;have s:vs.length=xsss.length:=by obtain⟨_,h⟩:=t.res p;simpa using h.1.1
 have u:=Gy (L:=L) j q g n o c w t;have l:=Si (L:=L) (k:=k) _ _ f d b (by simpa using m) c w u;simp only[List.set_set]at l;rw[Fe vs k (by omega) m.1]at l;exact l
end
section
variable {P:Program} {rd:Option Nat} {c:yO} {n:Sz} {σ:Fr} {M L:List bH} {Q:Exit->Act->World->Prop} {ops:Array Oper} {rest:List Oper} {d:Option Tmp} {ty:TypeId} {pos:String} {aft:Array Edge} {g:Option (Nat×Bool)} {α:Type} {e:bM α} {r:eJ α}
@[reducible] def tg {a:Type} (_:Nat) (x:a):a:=x
def FH:eJ V0:=⟨1,Nat.one_pos,λ_ _ a x=>a=[x]/\one x=true,λh=>by simp[h.1],λh _=>h⟩
def acu {α:Type} (e:bM α) (r:eJ α):Prop:=r.sz=e.sz/\∀{w S es x},r.R w S es x->es=e.enc x/\(e.enc x).all one=true
theorem Hh:acu bM.raw FH:=⟨rfl,λh=>⟨h.1,by show[_].all one=true;simp[h.2]⟩⟩
theorem La {w:World} {F:Nat->Prop} {v:V0} {l:List V0} (h:AV bM.raw w F v l):FC FH w F v l:=by
 have o:=h;obtain⟨B,p,s⟩:=h;rcases s with⟨rfl,rfl⟩|⟨b,f,a,T,m,rfl,q,y,A,z,C⟩
 ·exact⟨none,0,rfl,by simp,.inl Z⟩
 ·refine⟨_,a,rfl,by omega,.inr ⟨b,f,rfl,q,λi x k=>⟨[x],λj u t=> ?_,rfl,?_⟩⟩⟩
  ·have:=AV.cell o k (j:=j) (u:=u) t;simp only[Kr,fF]at this;exact this
  ·exact zA8.1 p x (by simp only[cellsOf,List.mem_flatMap];exact⟨x,zA0 k,by simp[bM.raw]⟩)
theorem Qe [d_ P] (b:acu e r) {w:World} {S:Nat->Prop} {v:V0} {f:List α} {T E:TypeId} {D F:Nat} {z:V0} (h:FC r w S v f) (p:d_.tab P T=some ⟨.slice E,D,F,z⟩):
  Src P e.sz T v f.length (cellsOf e f) w/\(cellsOf e f).all one=true:=by
 obtain⟨a,k⟩:=b;obtain⟨m,A,y,t,q⟩:=FC.src h p (λ{w S o x} hr=>by rw[(k hr).1];exact(k hr).2);have:m=cellsOf e f:=JX (by rw[t,a]) (λi x C j u B=>by
  obtain⟨o,l,s⟩:=q i x C;rw[<-a];exact s j u (by rw[(k l).1];exact B))
 subst this;rw[<-a];exact⟨A,y⟩
theorem tW {i:Nat} {v:V0} {vs:List V0} (a:M[i]? = some (Ar bM.raw v vs)):aF M L (Sl FH v vs):=(aF.res i a).mono λh=>La h
theorem jV (q:Nat) {vs:List V0} {wss:List (List V0)} {xsss:List (List (List α))} (j:M[q]? = some (wK e vs wss xsss)) {k:Int} (h:0<=k/\k<xsss.length):∀c w,St c M L w->(at' wss k).length=(at' xsss k).length:=λc w t=>by
 obtain⟨_,⟨f,i⟩,G,a,l,_⟩:=t.res j;obtain⟨A,B,m,b,_⟩:=a k.toNat _ _ _ (cX h.1 (by omega)) (cX h.1 (by omega)) (cX h.1 h.2);exact b.1
theorem mX {a f:Type} {q:eJ a} {b:a->f}:aF M L (Sn q b (.slice none 0 0) [] []):=λ_ _ _ _ _ _ _ _=>⟨⟨none,0,rfl,by simp,.inl Z⟩,rfl⟩
theorem Lh [d_ P] (q:Nat) {x y:Operand} {v:V0} {f:List V0} {i j:Int} {T E:TypeId} {s1 s2 D s4:Nat} {z z':V0} {dE:TypeDesc} (hx:ev σ x=some (slq v (0:Int).toNat i.toNat D)) (hy:ev σ y=some (slq v j.toNat (f.length:Int).toNat D)) (hf:M[q]? = some (Ar bM.raw v f))
  (hT:d_.tab P T=some ⟨.slice E,s1,s2,z⟩) (hE:d_.tab P E=some ⟨dE,D,s4,z'⟩) (h3:bM.raw.sz=D) (h:0<=i/\i<j/\j<=f.length):
  aP P c n σ M L ⟨d,.call ⟨.builtin .append,#[x,y],#[T,T]⟩,ty,pos,aft,g⟩ (λ_:Unit=>slq v 0 (i+((f.length:Int) - j)).toNat D) (λ_=>M.set q (Ar bM.raw (slq v 0 (i+((f.length:Int) - j)).toNat D) (f.take i.toNat++f.drop j.toNat))) (λ_=>L):=λa w s t=>by
 subst h3;have t0:=t;obtain⟨ho,W,hO,N⟩:=t0;have Y:=hO.res q _ hf;have V:=La Y;have U:=FC.part V (l:=j.toNat) (h:=f.length) (by omega) (zAe _);have U:FC FH w (W q) (slq v j.toNat f.length bM.raw.sz) ((f.take f.length).drop j.toNat):=U;obtain⟨hs,F⟩:=Qe Hh U hT;obtain⟨h0,K,hh⟩:=Y;rcases hh with⟨_,rfl⟩|⟨b,o,p,X,m,rfl,G,H,hk,hc,ht⟩
 ·simp at h;omega
 have J:((f.take f.length).drop j.toNat)=f.drop j.toNat:=by rw[zB3]
 rw[J]at hs F;have A:(f.drop j.toNat).length=f.length - j.toNat:=by simp
 have hn:(i+((f.length:Int) - j)).toNat=i.toNat+(f.length - j.toNat):=by omega
 rw[show(0:Int).toNat=0 from rfl,Mb]at hx;rw[show(f.length:Int).toNat=f.length by omega]at hy;have C:i.toNat+(f.drop j.toNat).length<=p:=by omega
 have hr:=L_ (P:=P) (ty:=ty) (d_.ok hT) Z (d_.ok hE) H hs C hc;simp only[Oper.wp,AA s hx hy w,hr,Result.andThen_ok,Oper.upon];have aa:(i.toNat+(f.length - j.toNat))*bM.raw.sz<=p*bM.raw.sz:=zAr _ (by omega);have I:(cellsOf bM.raw (f.drop j.toNat)).length=(f.length - j.toNat)*bM.raw.sz:=by rw[fM,A]
 have B:(i.toNat+(f.length - j.toNat))*bM.raw.sz=i.toNat*bM.raw.sz+(f.length - j.toNat)*bM.raw.sz:=zAy _ _ _;have S:o+i.toNat*bM.raw.sz+(cellsOf bM.raw (f.drop j.toNat)).length<=m.toList.length:=by
  rw[I];simp;omega
 refine⟨(),?_,?_⟩
 ·rw[Mb,hn,A]
 ·rw[Mb,hn];refine Gw ho hO N hf Z Z Z (by simp) (λk _ O=>setRow_other w b k _ (λe=>O (by subst e;exact G))) (F':=W q) ?_ (λk hk=> .inl hk);refine⟨by simp;omega,?_,.inr ⟨b,o,p,X,_,by simp;omega,G,setRow_heap w b _ _ X _ H,by simp;omega,?_,?_⟩⟩
  ·rw[mK,List.all_append,F,Bool.and_true];refine zA8.2 λu hu=>zA8.1 K u ?_;rw[<-zBc i.toNat f,mK];exact List.mem_append_left _ hu
  ·simp only[List.size_toArray,zA4,List.length_take,List.length_drop];have:m.size=m.toList.length:=by simp
   omega
  ·have hd:=Nr m.toList o (i.toNat*bM.raw.sz) (cellsOf bM.raw (f.drop j.toNat)) S;have e1:(f.take i.toNat++f.drop j.toNat).length*bM.raw.sz=i.toNat*bM.raw.sz+(cellsOf bM.raw (f.drop j.toNat)).length:=by
    rw[I,zA4,List.length_take,A,Nat.min_eq_left (by omega)];exact B
   have e2:(m.toList.drop o).take (i.toNat*bM.raw.sz)=cellsOf bM.raw (f.take i.toNat):=by
    have:(m.toList.drop o).take (i.toNat*bM.raw.sz)=((m.toList.drop o).take (f.length*bM.raw.sz)).take (i.toNat*bM.raw.sz):=by
     rw[List.take_take,Nat.min_eq_left (zAr _ (by omega))]
    rw[this,ht]
    conv=>lhs;rw[<-zBc i.toNat f,mK]
    have R:(cellsOf bM.raw (f.take i.toNat)).length=i.toNat*bM.raw.sz:=by rw[fM,List.length_take,Nat.min_eq_left (by omega)]
    rw[<-R,List.take_left]
   rw[e1,mK,<-e2];exact hd
theorem MB [d_ P] (i:Nat) (b:acu e r) {x y:Operand} {v u:V0} {h j:List α} {T E:TypeId} {V W m k:Nat} {z p:V0} {q:TypeDesc} (R:ev σ x=some v) (S:ev σ y=some u) (I:M[i]? = some (Ar e v h)) (J:aF M L (Sl r u j))
  (o:d_.tab P T=some ⟨.slice E,V,W,z⟩) (D:d_.tab P E=some ⟨q,m,k,p⟩) (B:e.sz=m) (C:Nat.ble k 1024=true) (X:(h.length:Int)+j.length<=1099511627) (U:p.cells.size=m):
  aP P c n σ M L ⟨d,.call ⟨.builtin .append,#[x,y],#[T,T]⟩,ty,pos,aft,g⟩ (λf:V0=>f) (λf=>M.set i (Ar e f (h++j))) (λ_=>L):=λa w s t=>by
 subst B;obtain⟨F,G⟩:=J.st t;obtain⟨N,A⟩:=Qe b G o;have l:k<=1024:=by simpa using C
 have H:(h.length+j.length)*k<=140737488355328:=zB1 (Nat.mul_le_mul (show h.length+j.length<=1099511627 by omega) l) (by decide);obtain⟨f,Y,K,O⟩:=t.append (ty:=ty) I N A o D H (by omega) U;simp only[Oper.wp,AA s R S w,K,Result.andThen_ok,Oper.upon];exact⟨f,rfl,O⟩
theorem dG {a h:Type} {q:eJ a} {i:a->h} {v:V0} {k:List a} {f:List h} (b:aF M L (Sn q i v k f)):∀c w,St c M L w->acC v f.length:=λc w t=>by
 obtain⟨_,j⟩:=b.st t;rw[<-Sn.len j];exact Know.len b.sl c w t
theorem Ve [d_ P] {T E:TypeId} {F G m H:Nat} {z I:V0} {u:TypeDesc} {x l:Operand} {v:V0} {i:Int} {j p:Type} {q:eJ j} {y:j->p} {o:List j} {b:List p} (D:ev σ x=some v) (f:ev σ l=some (.int .i64 i)) (k:aF M L (Sn q y v o b))
  (C:d_.tab P T=some ⟨.slice E,F,G,z⟩) (B:d_.tab P E=some ⟨u,m,H,I⟩) (h:0<=i/\i<=(b.length:Int)):Y P c n σ M L ⟨d,.slice T x (some l) none none,ty,pos,aft,g⟩ (slq v i.toNat b.length m):=λa w s t=>by
 obtain⟨_,A⟩:=k.st t;have J:=Sn.len A;have:=Qk (P:=P) (c:=c) (n:=n) (d:=d) (ty:=ty) (pos:=pos) (aft:=aft) (g:=g) D f k.sl C B (by omega) a w s t;rw[show((o.length:Nat):Int).toNat=b.length by omega]at this;exact this
theorem AV.tail {w:World} {F:Nat->Prop} {v:V0} {f:List α} {i m:Nat} (x:AV e w F v f) (E:f.length=m) (D:i<=m):AV e w F (slq v i m e.sz) (f.drop i):=by
 subst E;have p:(cellsOf e (f.drop i))=(cellsOf e f).drop (i*e.sz):=by
  have:cellsOf e f=cellsOf e (f.take i)++cellsOf e (f.drop i):=by rw[<-mK,zBc]
  have z:(cellsOf e (f.take i)).length=i*e.sz:=by rw[fM,List.length_take,Nat.min_eq_left (by omega)]
  rw[this,<-z,List.drop_left]
 have o:(cellsOf e (f.drop i)).all one=true:=by
  rw[p,zA8];intro u H;exact zA8.1 x.2.1 u (List.mem_of_mem_drop H)
 obtain⟨z,B,C⟩:=x;rcases C with⟨rfl,rfl⟩|⟨b,h,a,t,k,rfl,l,y,J,I,G⟩
 ·have s:i=0:=by simp at D;omega
  subst s;exact⟨by simp,rfl,.inl ⟨rfl,rfl⟩⟩
 ·refine⟨by simp;omega,o,.inr ?_⟩
  have A:slq (.slice (some ⟨b,h,none⟩) f.length a) i f.length e.sz = .slice (if a=i then some ⟨b,h,none⟩else some ⟨b,h+i*e.sz,none⟩) (f.length - i) (a - i):=by simp[slq,fF]
  rw[A];by_cases j:a=i
  ·have q:f.drop i=[]:=List.drop_of_length_le (by omega);rw[if_pos j,q];exact⟨b,h,a - i,t,k,by simp;omega,l,y,by simp,by have:=zAr e.sz (show a - i<=a by omega);omega,by simp[cellsOf]⟩
  ·rw[if_neg j];refine⟨b,h+i*e.sz,a - i,t,k,by simp,l,y,by simp;omega,?_,?_⟩
   ·have:=zAr e.sz (show i<=a by omega);rw[Nat.sub_mul];omega
   ·rw[p,<-G,List.drop_take,List.drop_drop,List.length_drop,Nat.sub_mul]
theorem Vb (j:Nat) {v:V0} {k:List α} {i:Int} {m:Nat} (o:M[j]? = some (Ar e v k)) (s:k.length=m) (h:0<=i/\i<=(m:Int)):dY M L (M.set j (Ar e (slq v i.toNat m e.sz) (k.drop i.toNat))) L:=λc w t=>by
 obtain⟨u,F,a,p⟩:=t;have f:=bK o;refine⟨u,F,⟨λq x b=> ?_,a.rng,a.dis⟩,p⟩
 by_cases l:j=q
 ·subst l;rw[zAh f]at b;cases b;exact AV.tail (a.res j _ o) s (by omega)
 ·rw[zAq l]at b;exact a.res q x b
theorem fQ (i:Nat) {a g:bH} (b:M[i]? = some a) (h:aF [a] L g):dY M L (M.eraseIdx i) (g::L):=sU [a] _ (aZ.cons i b (aZ.refl _)) h
theorem t_ {x:Operand} {v:V0} {o:Nat} (b:ev σ x=some (EL v o)):Y P c n σ M L ⟨d,.nilCheck x,ty,pos,aft,g⟩ (EL v o):=λa w s _=>by
 simp[execOp,s.eval b,EL]
end
end Go.Sx
namespace Go.Proofs.YtflciafboapaaaaGreat
open Go.Sx
theorem _root_.Go.Sx.Y.bld5 {P:Program} {c:yO} {n:Sz} {a:Fr} {M L:List bH} {d:Option Tmp} {E:TypeId} {k:String} {j:Array Edge} {g:Option (Nat×Bool)} {T:TypeId} {b e f h i:Nat} {s t u v x:Operand} {l m o p q r:V0} (y:ev a s=some l) (z:ev a t=some m) (A:ev a u=some o) (B:ev a v=some p) (C:ev a x=some q) (D:∀w,(Instr.build T ([(b,l),(e,m),(f,o),(h,p),(i,q)]:List (Nat×V0)).toArray).run P w = .ok r w):Y P c n a M L ⟨d,.build T #[(b,s),(e,t),(f,u),(h,v),(i,x)],E,k,j,g⟩ r:=
 CJ (ps:=[(b,s),(e,t),(f,u),(h,v),(i,x)]) (vs:=[(b,l),(e,m),(f,o),(h,p),(i,q)]) (by simp[y,z,A,B,C]) D
abbrev ESt:bM ByteArray:=⟨1,Nat.one_pos,λx=>[.string x],λ_=>rfl⟩
abbrev RSt:eJ ByteArray:=⟨1,Nat.one_pos,λ_ _ a x=>a=[.string x],λh=>by simp[h],λh _=>h⟩
theorem FSt:ESt.Fits RSt:=⟨rfl,λh=>h,rfl,λ_=>rfl⟩
abbrev fW:bM Int:=bM.int .i64
abbrev aN:eJ Int:=eJ.int .i64
theorem jA:fW.Fits aN:=Oh .i64
theorem eY:aN.Cell 0 (λx=> .int .i64 x):=Ou .i64
abbrev lG:bM UH:=bM.pair ESt (bM.pair fW (bM.pair fW (bM.pair fW (bM.pair fW (fW)))))
abbrev aH:eJ UH:=eJ.pair RSt (eJ.pair aN (eJ.pair aN (eJ.pair aN (eJ.pair aN (aN)))))
theorem nC:lG.Fits aH:=mD FSt (mD jA (mD jA (mD jA (mD jA (jA)))))
theorem lR:aH.Cell 1 (λx=> .int .i64 x.2.1):=dK (kY (eY))
theorem AJ:aH.Cell 2 (λx=> .int .i64 x.2.2.1):=dK (dK (kY (eY)))
theorem AK:aH.Cell 3 (λx=> .int .i64 x.2.2.2.1):=dK (dK (dK (kY (eY))))
theorem AL:aH.Cell 4 (λx=> .int .i64 x.2.2.2.2.1):=dK (dK (dK (dK (kY (eY)))))
theorem AM:aH.Cell 5 (λx=> .int .i64 x.2.2.2.2.2):=dK (dK (dK (dK (dK (eY)))))
abbrev b_:bM i_:=bM.pair fW (fW)
abbrev aX:eJ i_:=eJ.pair aN (aN)
theorem cW:b_.Fits aX:=mD jA (jA)
theorem gT:aX.Cell 0 (λx=> .int .i64 x.1):=kY (eY)
theorem EG:aX.Cell 1 (λx=> .int .i64 x.2):=dK (eY)
abbrev nN:eJ (Int×(V0×fL)):=eJ.pair aN ((eJ.sl aX))
theorem MA:nN.All 2 (λx=>[Value.int .i64 (x.1),x.2.1]):=(Ot (Se jA) (Sf aX))
theorem Fp:nN.Cell 0 (λx=> .int .i64 x.1):=kY (eY)
theorem Kq:nN.Cell 1 (λx=>x.2.1):=dK (eJ.sl_cell aX)
theorem Ca:nN.Deep aX (λx=>x.2):=Gv (FI aX)
abbrev aE:eJ (ByteArray×(V0×fL)×(V0×List (Int×(V0×fL)))):=eJ.pair RSt (eJ.pair (eJ.sl aX) ((eJ.sl nN)))
theorem tE:aE.Cell 1 (λx=>x.2.1.1):=dK (kY (eJ.sl_cell aX))
theorem tG:aE.Deep aX (λx=>x.2.1):=Gv (Va (FI aX))
theorem tF:aE.Cell 2 (λx=>x.2.2.1):=dK (dK (eJ.sl_cell nN))
theorem cQ:aE.Deep nN (λx=>x.2.2):=Gv (Gv (FI nN))
abbrev EFn:bM Nat:=bM.fn
abbrev RFn:eJ Nat:=eJ.fn
theorem FFn:EFn.Fits RFn:=PS
abbrev KC:bM (Int×Nat):=bM.pair fW (EFn)
abbrev ZG:eJ (Int×Nat):=eJ.pair aN (RFn)
theorem Dj:KC.Fits ZG:=mD jA (FFn)
abbrev EBo:bM Bool:=bM.bool
abbrev bS:bM (Int×Int×Int):=bM.pair fW (bM.pair fW (fW))
abbrev cD:eJ (Int×Int×Int):=eJ.pair aN (eJ.pair aN (aN))
theorem bZ:bS.Fits cD:=mD jA (mD jA (jA))
theorem MD:cD.Cell 0 (λx=> .int .i64 x.1):=kY (eY)
theorem ME:cD.Cell 1 (λx=> .int .i64 x.2.1):=dK (kY (eY))
theorem MF:cD.Cell 2 (λx=> .int .i64 x.2.2):=dK (dK (eY))
def Rz (x:Int):V0:=Value.int .i64 (x)
def oQ (x:gK):V0:=Value.agg #[Value.int .i64 (x.1),Value.int .i64 (x.2)]
theorem abf (x y:Int×Int×Int) (m:Nat) (w:World):(Op.equalIn (m+2) 28 (.agg #[.int .i64 x.1,.int .i64 x.2.1,.int .i64 x.2.2]) (.agg #[.int .i64 y.1,.int .i64 y.2.1,.int .i64 y.2.2])).run Tryz.prog w = .ok (decide (x=y)) w:=by
 have c:∀a b:Int,(Op.equalIn (m+1) 3 (.int .i64 a) (.int .i64 b)).run Tryz.prog w = .ok (a==b) w:=by
  intro a b;simp[Op.equalIn]
 have n:Tryz.prog.stoodInHeld 28=false:=by kernel_rfl
 unfold Op.equalIn;simp[n,part,isAgg,c];obtain⟨d,e,f⟩:=x;obtain⟨g,h,i⟩:=y;by_cases j:d=g<;>by_cases k:e=h<;>by_cases l:f=i<;>simp[j,k,l,c]
theorem Vz (x y:Operand) (u v:Array V0) (a:BinOp) (w:World):(eqGuard a 28 x y (.agg u) (.agg v)).run Tryz.prog w = .ok () w:=by
 have b:Tryz.prog.eqGuardType Tryz.prog.depth 28=false:=by kernel_rfl
 unfold eqGuard;cases a<;>simp[b]
theorem aaO (x y:Int×Int×Int) (p q:Operand) (w:World):(eqGuard .neq 28 p q (.agg #[.int .i64 x.1,.int .i64 x.2.1,.int .i64 x.2.2]) (.agg #[.int .i64 y.1,.int .i64 y.2.1,.int .i64 y.2.2])).run Tryz.prog w = .ok () w/\(binOp .neq 28 (.agg #[.int .i64 x.1,.int .i64 x.2.1,.int .i64 x.2.2]) (.agg #[.int .i64 y.1,.int .i64 y.2.1,.int .i64 y.2.2])).run Tryz.prog w = .ok (.bool (decide (x≠y))) w:=by
 refine⟨Vz _ _ _ _ _ _,?_⟩
 have h:(Op.equal 28 (.agg #[.int .i64 x.1,.int .i64 x.2.1,.int .i64 x.2.2]) (.agg #[.int .i64 y.1,.int .i64 y.2.1,.int .i64 y.2.2])).run Tryz.prog w = .ok (decide (x=y)) w:=abf x y 9998 w;simp[binOp,h]
theorem XY (x y:gK) (m:Nat) (w:World):(Op.equalIn (m+2) 138 (.agg #[.int .i64 x.1,.int .i64 x.2]) (.agg #[.int .i64 y.1,.int .i64 y.2])).run Tryz.prog w = .ok (decide (x=y)) w:=by
 have c:∀a b:Int,(Op.equalIn (m+1) 3 (.int .i64 a) (.int .i64 b)).run Tryz.prog w = .ok (a==b) w:=by
  intro a b;simp[Op.equalIn]
 unfold Op.equalIn;simp[show List.range' 0 2=[0,1]from rfl,part,isAgg,c];obtain⟨d,e⟩:=x;obtain⟨f,g⟩:=y;by_cases h:d=f<;>by_cases i:e=g<;>simp[h,i,c]
theorem Xi (b:Bool) (k:gK) (w:World):(Instr.checkKey b 10000 138 (oQ k)).run Tryz.prog w = .ok () w:=by
 have a:∀m:Nat,(Instr.checkKey b (m+2) 138 (oQ k)).run Tryz.prog w = .ok () w:=by
  intro m;simp[Instr.checkKey,oQ,part,isAgg,show List.range' 0 2=[0,1]from rfl]
 exact a 9998
theorem OT:Lg Tryz.prog 138 oQ:=Sa Tryz.underlying138 Xi (λ_ _=>rfl) (λa b w=>XY a b 9998 w) (λk=>by
 have c:∀m:Nat,Instr.sameBits (m+2) (oQ k) (oQ k)=true:=λm=>by simp[Instr.sameBits,oQ]
 exact c 9998)
theorem jO (b:V0) (c:one b=true) (a:Array V0) (h:a.size=1*1):Instr.fill (λi=>some (i*1,1)) a [(0,b)]=some [b].toArray:=by
 obtain⟨l⟩:=a
 match l,h with
 | [z0],_=>simp[Instr.fill,iY c]
theorem Iq (b c:V0) (a:Array V0) (h:a.size=1*2):Instr.fill (λi=>some (i*2,2)) a [(0,.agg #[b,c])]=some [b,c].toArray:=by
 obtain⟨l⟩:=a
 match l,h with
 | [z0,z1],_=>simp[Instr.fill,Value.cells]
theorem Ee (b c d:V0) (a:Array V0) (h:a.size=1*3):Instr.fill (λi=>some (i*3,3)) a [(0,.agg #[b,c,d])]=some [b,c,d].toArray:=by
 obtain⟨l⟩:=a
 match l,h with
 | [z0,z1,z2],_=>simp[Instr.fill,Value.cells]
theorem XE (b c d e f g:V0) (a:Array V0) (h:a.size=3*2):Instr.fill (λi=>some (i*2,2)) a [(0,.agg #[b,c]),(1,.agg #[d,e]),(2,.agg #[f,g])]=some [b,c,d,e,f,g].toArray:=by
 obtain⟨l⟩:=a
 match l,h with
 | [z0,z1,z2,z3,z4,z5],_=>simp[Instr.fill,Value.cells]
theorem XF (m n o p q r s t u v b c d e f g j k:V0) (a:Array V0) (h:a.size=3*6):Instr.fill (λi=>some (i*6,6)) a [(0,.agg #[m,n,o,p,q,r]),(1,.agg #[s,t,u,v,b,c]),(2,.agg #[d,e,f,g,j,k])]=some [m,n,o,p,q,r,s,t,u,v,b,c,d,e,f,g,j,k].toArray:=by
 obtain⟨l⟩:=a
 match l,h with
 | [z0,z1,z2,z3,z4,z5,z6,z7,z8,z9,z10,z11,z12,z13,z14,z15,z16,z17],_=>simp[Instr.fill,Value.cells]
def BL (a:Int) (b:Bool):Option (Int):=
 if b=true then(some (-1:Int))else(if a<=(17:Int)then(some (0:Int))else(if a<=(29:Int)then(some (1:Int))else(if a<=(42:Int)then(some (2:Int))else(some (3:Int)))))
def zP (U:Nat) (a:Int):Option (Int):=
 if a<(1:Int)then(BL a (true))else(BL a (decide ((43:Int)<a)))
theorem aaA:bB Tryz.prog 246:=Tryz.call246
theorem PG (U:Nat) {b:Int} (r:Int) (h:zP U b=some r):
  bD Tryz.prog 246 #[vI (b)] [] (λx:Unit=>vI (r)) (λx l=>l) (λ_ l=>l):=by
 refine bD.of Tryz.func246 Z Tryz.ntmps246 Z λc=>?_;refine aU<|aC Z<|aO<|aL<|aS<|aL<|eR (λa=>BL b a=some r) (λa d=>[(0,vI (b)),(3,vB (a))]) (λa d=>[]) ?_ ?_
 ·refine aQ<|aA Z<|cV Z<|aA Z ?_;refine BZ h Z (λ_ h=>?_) λ_ h=>?_
  ·refine aM Z<|aM Z<|dR Z<|aC Z<|aO ?_;exact fT (true) () h SF Z
  refine dC Z<|aT Z (tH Z Z) Z<|eV Z<|aC Z<|aO ?_;exact fT (decide ((43:Int)<b)) () h SF Z
 intro a d h;refine tC h Z (λ_ h=>?_) λ_ h=>?_
 ·refine aU<|aC Z<|aO<|aR<|bI<|aG ?_;cases h;exact iZ Z
 refine aU<|aA Z<|aB (Cp Z Z) Z<|aC Z<|aO ?_;refine eN h Z (λh=>?_) λh=>?_
 ·refine aU<|aC Z<|aO<|aR<|bI<|aG ?_;cases h;exact iZ Z
 refine aU<|aA Z<|aB (Cp Z Z) Z<|aC Z<|aO ?_;refine eN h Z (λh=>?_) λh=>?_
 ·refine aU<|aC Z<|aO<|aR<|bI<|aG ?_;cases h;exact iZ Z
 refine aU<|aA Z<|aB (Cp Z Z) Z<|aC Z<|aO ?_;refine eN h Z (λh=>?_) λh=>?_
 ·refine aU<|aC Z<|aO<|aR<|bI<|aG ?_;cases h;exact iZ Z
 refine eM<|lL<|aU<|aC Z<|aO<|aR ?_;cases h;exact iZ Z
def Gp (a:Unit):Option (Int):=
 some (-1:Int)
def mR (U:Nat) (d:fL) (a:gK) (c:i_->Option (Int)):Option (Int):=
 if a.1<(d.length:Int)then(ck (0<=a.1/\a.1<(d.length:Int)) (Option.bind (zP U ((at' d a.1).1)) λb=>(if b<(0:Int)then(some (-1:Int))else(if(wI .i64 (a.2+(wI .i64 (b - (1:Int)))))=(0:Int)then(some (wI .i64 (a.1+(1:Int))))else(c ((wI .i64 (a.1+(1:Int))),(wI .i64 (a.2+(wI .i64 (b - (1:Int)))))))))))else(Gp (()))
def Dx (U:Nat) (b:fL) (c:Int) (a:Bool):Option (Int):=
 if a=true then(some (-1:Int))else(bJ (mR U b) U (c,(1:Int)))
def EU (U:Nat) (b:fL) (a:Int):Option (Int):=
 if a<(0:Int)then(Dx U b a (true))else(Dx U b a (decide ((b.length:Int)<=a)))
theorem aat:bB Tryz.prog 217:=Tryz.call217
theorem Ts (U:Nat) {g:fL} {b:Int} (k:V0) (r:Int) (h:EU U g b=some r):
  bD Tryz.prog 217 #[k,vI (b)] [Sl aX k g] (λx:Unit=>vI (r)) (λx l=>l) (λ_ l=>l):=by
 refine bD.of Tryz.func217 Z Tryz.ntmps217 Z λc=>?_;refine aU<|aC Z<|aO<|aL<|aL<|eR (λd=>Dx U g b d=some r) (λd n=>[(0,k),(1,vI (b)),(14,vB (d))]) (λd n=>[]) ?_ ?_
 ·refine aQ<|aA Z<|cV Z<|aA Z ?_;refine BZ h Z (λ_ h=>?_) λ_ h=>?_
  ·refine aM Z<|aM Z<|aM Z<|aM Z<|dR Z<|aO ?_;exact fT (true) () h SF Z
  refine dC Z<|dC Z<|aT Z (fE Z (cA Z) Z) Z<|aT Z (yV Z Z) Z<|eV Z<|aO ?_;exact fT (decide ((g.length:Int)<=b)) () h SF Z
 intro d n h;refine tC h Z (λ_ h=>?_) λ_ h=>?_
 ·refine aU<|aC Z<|aO<|aR<|aG ?_;cases h;exact iZ Z
 refine cL<|aL<|eR (λj=>Gp j=some r) (λj o=>[]) (λj o=>[]) ?_ ?_
 ·refine aU<|aC Z<|aO<|aS<|fI (mR U g) (λa e=>[(0,k),(1,vI (a.1)),(5,vI (a.2))]) (λa e=>[]) (b,(1:Int)) () h SF (aZ.refl _) ?_;intro p a e h;refine aL<|aU<|aA Z<|aA Z<|iH (cA Z) Z<|cV Z<|aO ?_;refine eN h Z (λh=>?_) λh=>?_
  ·refine cL<|aL<|aS<|aU<|aA Z<|aA Z<|cU h λf h=>aB (bE Z Z (cA Z) Z Z f) Z<|aB (cZ Z Z Z Z Z) Z<|aB (eL Z (cA Z) Z Z Z gT f) Z<|eT h λi m h=>aK (zBg aaA (PG U i m) Z .nil) Z λq=>aC Z<|aO<|aL<|aU<|aA Z<|cV Z<|aO ?_;refine eN h Z (λh=>?_) λh=>?_
   ·refine aU<|aC Z<|aO<|aR<|aG<|bI<|aG<|aG<|bI<|aG ?_;cases h;exact iZ Z
   refine cL<|aU<|aA Z<|aA Z<|aB (nY Z Z) Z<|cP Z<|aC Z<|aO<|aU<|aA Z<|cC Z<|aO ?_;refine eN h Z (λh=>?_) λh=>?_
   ·refine aU<|aA Z<|cP Z<|aC Z<|aO<|aR<|bI<|aG<|aG<|bI<|aG ?_;cases h;exact iZ Z
   refine eM<|lL<|aQ<|aA Z<|cP Z<|aC Z<|aO ?_;exact xY ((wI .i64 (a.1+(1:Int))),(wI .i64 (a.2+(wI .i64 (i - (1:Int)))))) () h SF Z
  refine fG ?_;exact fT () (()) h SF Z
 intro j o h;unfold Gp at h;refine aU<|aC Z<|aO<|aR ?_;cases h;exact iZ Z
def kA (U:Nat) (a:Bool):Option (Int):=
 if a=true then(some (1:Int))else(some (0:Int))
theorem Bl:bB Tryz.prog 260:=Tryz.call260
theorem mH (U:Nat) {a:Bool} (r:Int) (h:kA U a=some r):
  bD Tryz.prog 260 #[vB (a)] [] (λx:Unit=>vI (r)) (λx l=>l) (λ_ l=>l):=by
 refine bD.of Tryz.func260 Z Tryz.ntmps260 Z λc=>?_;refine aU<|aC Z<|aO<|aL<|aU<|aA Z<|aO ?_;refine tC h Z (λ_ h=>?_) λ_ h=>?_
 ·refine aU<|aC Z<|aO<|aR<|aG ?_;cases h;exact iZ Z
 refine cL<|aU<|aC Z<|aO<|aR ?_;cases h;exact iZ Z
def uG (U:Nat) (a:NS) (d b c:Int):Option (Int):=
 if d=(6:Int)then(some (a.2.1.1.length:Int))else(if d=(7:Int)then(some (a.2.2.1))else(if d=(8:Int)then(ck (0<=b/\b<(a.2.1.1.length:Int)) (some (at' a.2.1.1 b)))else(if d=(9:Int)then(ck (0<=b/\b<(a.2.1.2.length:Int)) (some ((at' a.2.1.2 b).length:Int)))else(if d=(10:Int)then(Option.bind (kA U (decide (b=(0:Int)))) λf=>(some (f)))else(if d=(11:Int)then(some (c))else(ck (0<=b/\b<(a.2.1.2.length:Int)) (ck (0<=c/\c<((at' a.2.1.2 b).length:Int)) (if d=(13:Int)then(ck (0<=((at' (at' a.2.1.2 b) c).1)/\((at' (at' a.2.1.2 b) c).1)<(a.2.1.1.length:Int)) (some (at' a.2.1.1 ((at' (at' a.2.1.2 b) c).1))))else(if d=(14:Int)then(ck (0<=((at' (at' a.2.1.2 b) c).1)/\((at' (at' a.2.1.2 b) c).1)<(a.2.1.2.length:Int)) (some ((at' a.2.1.2 ((at' (at' a.2.1.2 b) c).1)).length:Int)))else(if d=(15:Int)then(Option.bind (kA U (decide (((at' (at' a.2.1.2 b) c).1)=(0:Int)))) λe=>(some (e)))else(if d=(16:Int)then(some ((at' (at' a.2.1.2 b) c).2))else(ck (0<=b/\b<(a.2.2.2.length:Int)) (ck (0<=c/\c<((at' a.2.2.2 b).length:Int)) (some (at' (at' a.2.2.2 b) c)))))))))))))))
theorem aaB:bB Tryz.prog 259:=Tryz.call259
theorem Ge (U:Nat) {d:NS} {t k m:Int} (f:Nat) (u v w y:V0) (G:lE) (A:V0) (H:kD) (r:Int) (h:uG U d t k m=some r):
  bD Tryz.prog 259 #[vP f,vI (t),vI (k),vI (m)] [bL f [vS (d.1.1),u,v,w,y,vI (d.2.2.1),A] 206,Sl aH u d.1.2.1,Sl aE v d.1.2.2,Sl aN w d.2.1.1,S2 aX y G d.2.1.2,S2 aN A H d.2.2.2] (λx:Unit=>vI (r)) (λx l=>l) (λ_ l=>l):=by
 let n:=(at' (at' d.2.1.2 k) m)
 refine bD.of Tryz.func259 Z Tryz.ntmps259 Z λc=>?_;refine aU<|aC Z<|aO<|aL<|aU<|aA Z<|aO<|aS<|aU<|cC Z<|aC Z<|aO ?_;refine eN h Z (λh=>?_) λh=>?_
 ·refine aU<|aA Z<|aB (bX Z) Z<|bU Z<|bU Z<|aB (fZ Z (cA Z) Z Z Z) Z<|iH (Dh Z) Z<|aC Z<|aO<|aR<|bI<|aG ?_;cases h;exact iZ Z
 refine aU<|cC Z<|aC Z<|aO ?_;refine eN h Z (λh=>?_) λh=>?_
 ·refine aU<|aA Z<|aB (bX Z) Z<|bU Z<|aB (fZ Z (cA Z) Z Z Z) Z<|aC Z<|aO<|aR<|bI<|aG ?_;cases h;exact iZ Z
 refine aU<|cC Z<|aC Z<|aO ?_;refine eN h Z (λh=>?_) λh=>?_
 ·refine aU<|aA Z<|aB (bX Z) Z<|bU Z<|bU Z<|aB (fZ Z (cA Z) Z Z Z) Z<|aA Z<|cU h λs h=>aB (bE Z Z (Dh Z) Z Z s) Z<|aB (cK Z (Dh Z) Z Z Z eY s) Z<|aC Z<|aO<|aR<|bI<|aG ?_;cases h;exact iZ Z
 refine aU<|cC Z<|aC Z<|aO ?_;refine eN h Z (λh=>?_) λh=>?_
 ·refine aU<|aA Z<|aB (bX Z) Z<|bU Z<|bU Z<|aB (fZ Z (cA Z) Z Z Z) Z<|aA Z<|cU h λo h=>aB (bN Z Z (Ek Z) Z Z o) Z<|aB (bT Z (Ek Z) Z Z o) Z<|aB (fE Z (zBh (Ek Z) o.1 o.2) Z) Z<|aC Z<|aO<|aR<|bI<|aG ?_;cases h;exact iZ Z
 refine aU<|cC Z<|aC Z<|aO ?_;refine eN h Z (λh=>?_) λh=>?_
 ·refine aU<|aA Z<|cC Z<|eT h λC D h=>aK (zBg Bl (mH U C D) Z .nil) Z λE=>aC Z<|aO<|aR<|bI<|aG ?_;cases h;exact iZ Z
 refine aU<|cC Z<|aC Z<|aO ?_;refine eN h Z (λh=>?_) λh=>?_
 ·refine aU<|aA Z<|aC Z<|aO<|aR<|bI<|aG ?_;cases h;exact iZ Z
 refine eM<|lL<|aU<|aA Z<|aB (bX Z) Z<|bU Z<|bU Z<|aB (fZ Z (cA Z) Z Z Z) Z<|aA Z<|cU h λa h=>aB (bN Z Z (Ek Z) Z Z a) Z<|aB (bT Z (Ek Z) Z Z a) Z<|aA Z<|cU h λg h=>aB (bE Z Z (zBh (Ek Z) a.1 a.2) Z Z g) Z<|aB (gU (cs:=[vI (n.1),vI (n.2)]) Z (zBh (Ek Z) a.1 a.2) cW Z Z Z Z g) Z<|aK (aP.alloc (cs:=Wi) Z Z) Z λB=>cG 0 (vs:=[vI ((at' (at' d.2.1.2 k) m).1),vI ((at' (at' d.2.1.2 k) m).2)]) Z Z Z Z Z Z<|aO<|aL<|aU<|aA Z<|aO<|aS<|aU<|cC Z<|aC Z<|aO ?_;refine eN h Z (λh=>?_) λh=>?_
 ·refine aL ?_;refine sW [0,1,3,7,15,0,32,127,255,511] 7 mixedOrders ?_;refine aV Z<|gC Z (bX Z)<|cH Z<|cH Z<|aY Z .nil (fN 0 Z) (fZ Z (cA Z) Z Z Z) aJ.z<|cH Z<|fO 0 Z<|bP 7 Z Z<|cU h λi h=>aB (bE Z Z (Dh Z) Z Z i) Z<|aB (cK Z (Dh Z) Z Z Z eY i) Z<|aC Z<|aO<|aR<|bI<|aG ?_;cases h;exact nH Z
 refine aU<|cC Z<|aC Z<|aO ?_;refine eN h Z (λh=>?_) λh=>?_
 ·refine aL ?_;refine sW [0,1,3,7,15,0,32,127,255,511,1023] 7 mixedOrders ?_;refine aV Z<|gC Z (bX Z)<|cH Z<|cH Z<|aY Z .nil (fN 0 Z) (fZ Z (cA Z) Z Z Z) aJ.z<|cH Z<|fO 0 Z<|bP 7 Z Z<|cU h λe h=>aB (bN Z Z (Ek Z) Z Z e) Z<|aB (bT Z (Ek Z) Z Z e) Z<|aB (fE Z (zBh (Ek Z) e.1 e.2) Z) Z<|aC Z<|aO<|aR<|bI<|aG ?_;cases h;exact nH Z
 refine aU<|cC Z<|aC Z<|aO ?_;refine eN h Z (λh=>?_) λh=>?_
 ·refine aU<|bU Z<|dQ 0 Z<|cC Z<|eT h λp q h=>aK (zBg Bl (mH U p q) Z .nil) Z λF=>aC Z<|aO<|aR<|bI<|aG ?_;cases h;exact nH Z
 refine aU<|cC Z<|aC Z<|aO ?_;refine eN h Z (λh=>?_) λh=>?_
 ·refine aU<|bU Z<|dQ 0 Z<|aC Z<|aO<|aR<|bI<|aG ?_;cases h;exact nH Z
 refine eM<|lL<|aU<|aA Z<|aB (bX Z) Z<|bU Z<|aB (fZ Z (cA Z) Z Z Z) Z<|aA Z<|cU h λb h=>aB (bN Z Z (Di Z) Z Z b) Z<|aB (bT Z (Di Z) Z Z b) Z<|aA Z<|cU h λj h=>aB (bE Z Z (zBh (Di Z) b.1 b.2) Z Z j) Z<|aB (cK Z (zBh (Di Z) b.1 b.2) Z Z Z eY j) Z<|aC Z<|aO<|aR ?_;cases h;exact nH Z
def nF (U:Nat) (a:PK) (b:gK) (c:Int):Option (Int):=
 if b.1=(1:Int)then(some (b.2))else(if b.1=(2:Int)then(some (1:Int))else(if b.1=(3:Int)then(some (0:Int))else(if b.1=(4:Int)then(some (-1:Int))else(if b.1=(5:Int)then(ck (0<=a.2.2.1/\a.2.2.1<(a.2.1.length:Int)) (ck (0<=b.2/\b.2<((at' a.2.1 a.2.2.1).length:Int)) (some (at' (at' a.2.1 a.2.2.1) b.2))))else(if b.1=(12:Int)then(ck (0<=a.2.2.1/\a.2.2.1<(a.1.2.1.2.length:Int)) (ck (0<=c/\c<((at' a.1.2.1.2 a.2.2.1).length:Int)) (ck (0<=((at' (at' a.1.2.1.2 a.2.2.1) c).1)/\((at' (at' a.1.2.1.2 a.2.2.1) c).1)<(a.2.1.length:Int)) (ck (0<=b.2/\b.2<((at' a.2.1 ((at' (at' a.1.2.1.2 a.2.2.1) c).1)).length:Int)) (some (at' (at' a.2.1 ((at' (at' a.1.2.1.2 a.2.2.1) c).1)) b.2))))))else(Option.bind (uG U ((((a.1.1.1,a.1.1.2.1,a.1.1.2.2)),((a.1.2.1.1,a.1.2.1.2)),a.1.2.2.1,a.1.2.2.2)) b.1 a.2.2.1 c) λd=>(some (d))))))))
theorem aax:bB Tryz.prog 235:=Tryz.call235
theorem Hb (U:Nat) {d:PK} {k:gK} {y:Int} (g e:Nat) (o p q s:V0) (B:lE) (t:V0) (C:kD) (A:V0) (v:kD) (m:V0) (r:Int) (h:nF U d k y=some r):
  bD Tryz.prog 235 #[vP g,Value.agg #[vI (k.1),vI (k.2)],vI (y)] [bL g [vP e,A,vI (d.2.2.1),m] 237,bL e [vS (d.1.1.1),o,p,q,s,vI (d.1.2.2.1),t] 206,Sl aH o d.1.1.2.1,Sl aE p d.1.1.2.2,Sl aN q d.1.2.1.1,S2 aX s B d.1.2.1.2,S2 aN t C d.1.2.2.2,S2 aN A v d.2.1,Sl aX m d.2.2.2] (λx:Unit=>vI (r)) (λx l=>l) (λ_ l=>l):=by
 refine bD.of Tryz.func235 Z Tryz.ntmps235 Z λc=>?_;refine aU<|aK (aP.box (cs:=[vI (k.1),vI (k.2)]) Z Z) Z λE=>aC Z<|aO<|aL<|aU<|bU Z<|dQ 0 Z<|aO<|aS<|aU<|cC Z<|aC Z<|aO ?_;refine eN h Z (λh=>?_) λh=>?_
 ·refine aU<|bU Z<|dQ 0 Z<|aC Z<|aO<|aR<|bI<|aG ?_;cases h;exact nH Z
 refine aU<|cC Z<|aC Z<|aO ?_;refine eN h Z (λh=>?_) λh=>?_
 ·refine aU<|aC Z<|aO<|aR<|bI<|aG ?_;cases h;exact nH Z
 refine aU<|cC Z<|aC Z<|aO ?_;refine eN h Z (λh=>?_) λh=>?_
 ·refine aU<|aC Z<|aO<|aR<|bI<|aG ?_;cases h;exact nH Z
 refine aU<|cC Z<|aC Z<|aO ?_;refine eN h Z (λh=>?_) λh=>?_
 ·refine aU<|aC Z<|aO<|aR<|bI<|aG ?_;cases h;exact nH Z
 refine aU<|cC Z<|aC Z<|aO ?_;refine eN h Z (λh=>?_) λh=>?_
 ·refine aL ?_;refine sW [0,1,3,7,0,16,48,112,255,511,0,1024,4095,8191,16383] 12 mixedOrders ?_;refine aV Z<|gC Z (bX Z)<|cH Z<|aY Z .nil (fN 0 Z) (fZ Z (cA Z) Z Z Z) aJ.z<|aV Z<|gC Z (bX Z)<|cH Z<|aY Z .nil (fN 0 Z) (fZ Z (cA Z) Z Z Z) aJ.z<|cU h λf h=>aY Z .nil (fN 7 Z) (bN Z Z (cA Z) Z Z f) aJ.z<|aY Z .nil (fN 7 Z) (bT Z (cA Z) Z Z f) aJ.z<|cH Z<|fO 0 Z<|bP 12 Z Z<|cU h λw h=>aB (bE Z Z (zBh (ED Z) f.1 f.2) Z Z w) Z<|aB (cK Z (zBh (ED Z) f.1 f.2) Z Z Z eY w) Z<|aC Z<|aO<|aR<|bI<|aG ?_;cases h;exact nH Z
 refine aU<|cC Z<|aC Z<|aO ?_;refine eN h Z (λh=>?_) λh=>?_
 ·refine aL ?_;refine sW [0,1,3,7,0,16,48,112,240,496,1008,2032,0,4096,12288,28672,65520,131056,0,524272,1048560,2097136,4194303,8388607,0,16777216,67108863,134217727,268435455] 26 mixedOrders ?_;refine aV Z<|gC Z (bX Z)<|cH Z<|aY Z .nil (fN 0 Z) (fZ Z (cA Z) Z Z Z) aJ.z<|aV Z<|gC Z (bX Z)<|cH Z<|aY Z .nil (fN 0 Z) (fZ Z (cA Z) Z Z Z) aJ.z<|gC Z (bX Z)<|cH Z<|cH Z<|aY Z .nil (fN 1 Z) (fZ Z (cA Z) Z Z Z) aJ.z<|aV Z<|gC Z (bX Z)<|cH Z<|aY Z .nil (fN 0 Z) (fZ Z (cA Z) Z Z Z) aJ.z<|cU h λa h=>aY Z .nil (fN 5 Z) (bN Z Z (cA Z) Z Z a) aJ.z<|aY Z .nil (fN 5 Z) (bT Z (cA Z) Z Z a) aJ.z<|aV Z<|cU h λi h=>aY Z .nil (fN 5 Z) (bE Z Z (zBh (cA Z) a.1 a.2) Z Z i) aJ.z<|gC Z (cZ Z Z Z Z Z)<|aY Z .nil (fN 5 Z) (eL Z (zBh (cA Z) a.1 a.2) Z Z Z gT i) aJ.z<|cU h λb h=>aY Z .nil (fN 7 Z) (bN Z Z (cA Z) Z Z b) aJ.z<|aY Z .nil (fN 7 Z) (bT Z (cA Z) Z Z b) aJ.z<|cH Z<|fO 0 Z<|bP 26 Z Z<|cU h λj h=>aB (bE Z Z (zBh (ED Z) b.1 b.2) Z Z j) Z<|aB (cK Z (zBh (ED Z) b.1 b.2) Z Z Z eY j) Z<|aC Z<|aO<|aR<|bI<|aG ?_;cases h;exact nH Z
 refine eM<|lL<|aL ?_;refine sW [0,1,3,7,0,16,0,64,192,448,0,2047,4095] 11 mixedOrders ?_;refine aV Z<|gC Z (bX Z)<|cH Z<|aY Z .nil (fN 0 Z) (fZ Z (cA Z) Z Z Z) aJ.z<|cH Z<|fO 0 Z<|aV Z<|gC Z (bX Z)<|cH Z<|aY Z .nil (fN 0 Z) (fZ Z (cA Z) Z Z Z) aJ.z<|aV Z<|bP 11 Z Z<|eT h λn u h=>aK (zBg aaB (Ge U e o p q s B t C n u) Z (iN [1,2,3,4,5,6] Z)) Z λD=>aC Z<|aO<|aR ?_;cases h;exact nH Z
def Cw (U:Nat) (b a:Int):Option (Int):=
 if b=(18:Int)then(some (wI .i64 (0 - a)))else(Option.bind (kA U (decide (a=(0:Int)))) λc=>(some (c)))
theorem aay:bB Tryz.prog 236:=Tryz.call236
theorem Pr (U:Nat) {a b:Int} (r:Int) (h:Cw U a b=some r):
  bD Tryz.prog 236 #[vI (a),vI (b)] [] (λx:Unit=>vI (r)) (λx l=>l) (λ_ l=>l):=by
 refine bD.of Tryz.func236 Z Tryz.ntmps236 Z λc=>?_;refine aU<|aC Z<|aO<|aL<|aU<|aA Z<|cC Z<|aO ?_;refine eN h Z (λh=>?_) λh=>?_
 ·refine aU<|aA Z<|aB (abV Z) Z<|aC Z<|aO<|aR<|aG ?_;cases h;exact iZ Z
 refine cL<|aU<|aA Z<|cC Z<|eT h λd e h=>aK (zBg Bl (mH U d e) Z .nil) Z λf=>aC Z<|aO<|aR ?_;cases h;exact iZ Z
def kS (U:Nat) (a:Int):Option (Int):=
 some (max (-1073741824:Int) (min a (1073741824:Int)))
theorem GC:bB Tryz.prog 262:=Tryz.call262
theorem nV (U:Nat) {a:Int} (r:Int) (h:kS U a=some r):
  bD Tryz.prog 262 #[vI (a)] [] (λx:Unit=>vI (r)) (λx l=>l) (λ_ l=>l):=by
 refine bD.of Tryz.func262 Z Tryz.ntmps262 Z λc=>?_;unfold kS at h;refine aU<|aC Z<|aO<|aU<|aA Z<|aB (Nl Z Z) Z<|aB (Hj Z Z) Z<|aC Z<|aO<|aR ?_;cases h;exact iZ Z
def qX (a:Int):Option (Int):=
 some (a)
def vL (a b:Int) (c:Bool):Option (Int):=
 if c=true then(qX (wI .i64 ((wI .i64 (Int.tdiv a b)) - (1:Int))))else(qX (wI .i64 (Int.tdiv a b)))
def sN (U:Nat) (b a:Int):Option (Int):=
 if a=(0:Int)then(some (0:Int))else(ck (a≠0) (ck (a≠0) (if(Int.tmod b a)≠(0:Int)then(vL b a (((decide (b<(0:Int))) != (decide (a<(0:Int))))))else(vL b a (false)))))
theorem TX:bB Tryz.prog 263:=Tryz.call263
theorem Fu (U:Nat) {a b:Int} (r:Int) (h:sN U a b=some r):
  bD Tryz.prog 263 #[vI (a),vI (b)] [] (λx:Unit=>vI (r)) (λx l=>l) (λ_ l=>l):=by
 refine bD.of Tryz.func263 Z Tryz.ntmps263 Z λc=>?_;refine aU<|aC Z<|aO<|aL<|aU<|aA Z<|cC Z<|aO ?_;refine eN h Z (λh=>?_) λh=>?_
 ·refine aU<|aC Z<|aO<|aR<|aG ?_;cases h;exact iZ Z
 refine cL<|aU<|aA Z<|aA Z<|cU h λj h=>aB (WI Z Z j) Z<|aC Z<|aO<|aL<|eR (λd=>qX d=some r) (λd g=>[(5,vI (d))]) (λd g=>[]) ?_ ?_
 ·refine aL<|eR (λe=>vL a b e=some r) (λe i=>[(5,vI (wI .i64 (Int.tdiv a b))),(21,vB (e))]) (λe i=>[]) ?_ ?_
  ·refine aQ<|aA Z<|aA Z<|cU h λf h=>aB (Nm Z Z f) Z<|k_ Z<|aA Z ?_;refine BZ h Z (λ_ h=>?_) λ_ h=>?_
   ·refine dC Z<|aT Z (CO Z Z) Z<|dC Z<|aT Z (CO Z Z) Z<|aT Z (WH Z Z Z) Z<|dR Z<|aO ?_;exact fT (((decide (a<(0:Int))) != (decide (b<(0:Int))))) () h SF Z
   refine aM Z<|aM Z<|aM Z<|aM Z<|aM Z<|eV Z<|aO ?_;exact fT (false) () h SF Z
  intro e i h;refine tC h Z (λ_ h=>?_) λ_ h=>?_
  ·refine aQ<|aA Z<|aB (nY Z Z) Z<|aC Z<|aO ?_;exact fT (wI .i64 ((wI .i64 (Int.tdiv a b)) - (1:Int))) () h SF Z
  refine cL ?_;exact fT (wI .i64 (Int.tdiv a b)) () h SF Z
 intro d g h;unfold qX at h;refine aU<|aA Z<|aC Z<|aO<|aR ?_;cases h;exact iZ Z
def xN (U:Nat) (c a b:Int):Option Bool:=
 if c=(35:Int)then(some (decide (a=b)))else(if c=(36:Int)then(some (decide (a≠b)))else(if c=(37:Int)then(some (decide (a<b)))else(if c=(38:Int)then(some (decide (a<=b)))else(if c=(39:Int)then(some (decide (b<a)))else(some (decide (b<=a)))))))
theorem aaD:bB Tryz.prog 264:=Tryz.call264
theorem Kw (U:Nat) {a b d:Int} (r:Bool) (h:xN U a b d=some r):
  bD Tryz.prog 264 #[vI (a),vI (b),vI (d)] [] (λx:Unit=>vB (r)) (λx l=>l) (λ_ l=>l):=by
 refine bD.of Tryz.func264 Z Tryz.ntmps264 Z λc=>?_;refine aU<|aC Z<|aO<|aL<|aU<|aA Z<|aO<|aS<|aU<|cC Z<|aC Z<|aO ?_;refine eN h Z (λh=>?_) λh=>?_
 ·refine aU<|aA Z<|aA Z<|cC Z<|aC Z<|aO<|aR<|bI<|aG ?_;cases h;exact iZ Z
 refine aU<|cC Z<|aC Z<|aO ?_;refine eN h Z (λh=>?_) λh=>?_
 ·refine aU<|aA Z<|aA Z<|k_ Z<|aC Z<|aO<|aR<|bI<|aG ?_;cases h;exact iZ Z
 refine aU<|cC Z<|aC Z<|aO ?_;refine eN h Z (λh=>?_) λh=>?_
 ·refine aU<|aA Z<|aA Z<|cV Z<|aC Z<|aO<|aR<|bI<|aG ?_;cases h;exact iZ Z
 refine aU<|cC Z<|aC Z<|aO ?_;refine eN h Z (λh=>?_) λh=>?_
 ·refine aU<|aA Z<|aA Z<|aB (Cp Z Z) Z<|aC Z<|aO<|aR<|bI<|aG ?_;cases h;exact iZ Z
 refine aU<|cC Z<|aC Z<|aO ?_;refine eN h Z (λh=>?_) λh=>?_
 ·refine aU<|aA Z<|aA Z<|aB (tH Z Z) Z<|aC Z<|aO<|aR<|bI<|aG ?_;cases h;exact iZ Z
 refine eM<|lL<|aU<|aA Z<|aA Z<|aB (yV Z Z) Z<|aC Z<|aO<|aR ?_;cases h;exact iZ Z
def qV (a:Int):Option (Int):=
 some (a)
def qW (a:Int):Option (Int):=
 some (a)
def Bq (U:Nat) (c b a:Int):Option (Int):=
 if c=(30:Int)then(Option.bind (kS U (wI .i64 (b*a))) λn=>(some (n)))else(if c=(31:Int)then(Option.bind (sN U b a) λo=>(Option.bind (kS U o) λp=>(some (p))))else(if c=(32:Int)then(if a=(0:Int)then(some (0:Int))else(Option.bind (sN U b a) λd=>(Option.bind (kS U (wI .i64 (b - (wI .i64 (a*d))))) λe=>(some (e)))))else(if c=(33:Int)then(Option.bind (kS U (wI .i64 (b+a))) λf=>(some (f)))else(if c=(34:Int)then(Option.bind (kS U (wI .i64 (b - a))) λg=>(some (g)))else(if c=(41:Int)then(if b≠(0:Int)then(Option.bind (kA U (decide (a≠(0:Int)))) λh=>(qV (h)))else(Option.bind (kA U false) λi=>(qV (i))))else(if c=(42:Int)then(if b≠(0:Int)then(Option.bind (kA U true) λj=>(qW (j)))else(Option.bind (kA U (decide (a≠(0:Int)))) λk=>(qW (k))))else(Option.bind (xN U c b a) λl=>(Option.bind (kA U l) λm=>(some (m))))))))))
theorem aaz:bB Tryz.prog 238:=Tryz.call238
theorem MK (U:Nat) {E F G:Int} (r:Int) (h:Bq U E F G=some r):
  bD Tryz.prog 238 #[vI (E),vI (F),vI (G)] [] (λx:Unit=>vI (r)) (λx l=>l) (λ_ l=>l):=by
 refine bD.of Tryz.func238 Z Tryz.ntmps238 Z λc=>?_;refine aU<|aC Z<|aO<|aL<|aU<|aA Z<|aO<|aS<|aU<|cC Z<|aC Z<|aO ?_;refine eN h Z (λh=>?_) λh=>?_
 ·refine aU<|aA Z<|aA Z<|aB (wB Z Z) Z<|eT h λH K h=>aK (zBg GC (nV U H K) Z .nil) Z λY=>aC Z<|aO<|aR<|bI<|aG ?_;cases h;exact iZ Z
 refine aU<|cC Z<|aC Z<|aO ?_;refine eN h Z (λh=>?_) λh=>?_
 ·refine aU<|aA Z<|aA Z<|eT h λI L h=>aK (zBg TX (Fu U I L) Z .nil) Z λx8=>eT h λJ s h=>aK (zBg GC (nV U J s) Z .nil) Z λM=>aC Z<|aO<|aR<|bI<|aG ?_;cases h;exact iZ Z
 refine aU<|cC Z<|aC Z<|aO ?_;refine eN h Z (λh=>?_) λh=>?_
 ·refine aL<|aU<|aA Z<|cC Z<|aO ?_;refine eN h Z (λh=>?_) λh=>?_
  ·refine aU<|aC Z<|aO<|aR<|aG<|bI<|aG ?_;cases h;exact iZ Z
  refine cL<|aU<|aA Z<|aA Z<|aA Z<|aA Z<|eT h λk t h=>aK (zBg TX (Fu U k t) Z .nil) Z λN=>aB (wB Z Z) Z<|aB (nY Z Z) Z<|eT h λm u h=>aK (zBg GC (nV U m u) Z .nil) Z λO=>aC Z<|aO<|aR<|bI<|aG ?_;cases h;exact iZ Z
 refine aU<|cC Z<|aC Z<|aO ?_;refine eN h Z (λh=>?_) λh=>?_
 ·refine aU<|aA Z<|aA Z<|cP Z<|eT h λn v h=>aK (zBg GC (nV U n v) Z .nil) Z λP=>aC Z<|aO<|aR<|bI<|aG ?_;cases h;exact iZ Z
 refine aU<|cC Z<|aC Z<|aO ?_;refine eN h Z (λh=>?_) λh=>?_
 ·refine aU<|aA Z<|aA Z<|aB (nY Z Z) Z<|eT h λo w h=>aK (zBg GC (nV U o w) Z .nil) Z λQ=>aC Z<|aO<|aR<|bI<|aG ?_;cases h;exact iZ Z
 refine aU<|cC Z<|aC Z<|aO ?_;refine eN h Z (λh=>?_) λh=>?_
 ·refine aL<|eR (λa=>qV a=some r) (λa d=>[(6,vI (a))]) (λa d=>[]) ?_ ?_
  ·refine aQ<|aA Z<|k_ Z<|aA Z ?_;refine BZ h Z (λ_ h=>?_) λ_ h=>?_
   ·refine dC Z<|aT Z (BP Z Z) Z<|dR Z<|eT h λf y h=>aK (zBg Bl (mH U f y) Z .nil) Z λR=>aC Z<|aO ?_;exact fT (f) () h SF Z
   refine aM Z<|aM Z<|eV Z<|eT h λg z h=>aK (zBg Bl (mH U g z) Z .nil) Z λS=>aC Z<|aO ?_;exact fT (g) () h SF Z
  intro a d h;unfold qV at h;refine aR<|bI<|aG ?_;cases h;exact iZ Z
 refine aU<|cC Z<|aC Z<|aO ?_;refine eN h Z (λh=>?_) λh=>?_
 ·refine aL<|eR (λb=>qW b=some r) (λb e=>[(6,vI (b))]) (λb e=>[]) ?_ ?_
  ·refine aQ<|aA Z<|k_ Z<|aA Z ?_;refine BZ h Z (λ_ h=>?_) λ_ h=>?_
   ·refine aM Z<|aM Z<|dR Z<|eT h λi A h=>aK (zBg Bl (mH U i A) Z .nil) Z λT=>aC Z<|aO ?_;exact fT (i) () h SF Z
   refine dC Z<|aT Z (BP Z Z) Z<|eV Z<|eT h λj B h=>aK (zBg Bl (mH U j B) Z .nil) Z λV=>aC Z<|aO ?_;exact fT (j) () h SF Z
  intro b e h;unfold qW at h;refine aR<|bI<|aG ?_;cases h;exact iZ Z
 refine eM<|lL<|aU<|aA Z<|aA Z<|aA Z<|eT h λp C h=>aK (zBg aaD (Kw U p C) Z .nil) Z λW=>eT h λq D h=>aK (zBg Bl (mH U q D) Z .nil) Z λX=>aC Z<|aO<|aR ?_;cases h;exact iZ Z
def Bm (a:Int):Option (Int):=
 some (a)
def wM (c:gK) (b:i_->Option (Int)) (a:Int):Option (Int):=
 b (a,(wI .i64 (c.2+(1:Int))))
def sV (c:bQ) (a:gK) (b:i_->Option (Int)):Option (Int):=
 if a.2<(c.length:Int)then(ck (0<=a.2/\a.2<(c.length:Int)) (if(at' c a.2)≠(0:Int)then(wM a b (wI .i64 (a.1+(1:Int))))else(wM a b (a.1))))else(Bm (a.1))
def rU (U:Nat) (a:bQ):Option (Int):=
 bJ (sV a) U ((0:Int),(0:Int))
theorem OD:bB Tryz.prog 280:=Tryz.call280
theorem Fh (U:Nat) {d:bQ} (i:V0) (r:Int) (h:rU U d=some r):
  bD Tryz.prog 280 #[i] [Sl aN i d] (λx:Unit=>vI (r)) (λx l=>l) (λ_ l=>l):=by
 refine bD.of Tryz.func280 Z Tryz.ntmps280 Z λc=>?_;unfold rU at h;refine aU<|aC Z<|aO<|aU<|aC Z<|aO<|aL<|eR (λe=>Bm e=some r) (λe j=>[(3,vI (e))]) (λe j=>[]) ?_ ?_
 ·refine aU<|aA Z<|iH (cA Z) Z<|aA Z<|aO<|aS<|fI (sV d) (λb k=>[(3,vI (b.1)),(6,i),(7,vI (d.length:Int)),(8,vI (b.2))]) (λb k=>[]) ((0:Int),(0:Int)) () h SF (aZ.refl _) ?_;intro m b k h;refine aU<|cV Z<|aO<|aL ?_;refine eN h Z (λh=>?_) λh=>?_
  ·refine cL<|aL<|eR (λa=>wM b (bJ (sV d) m) a=some r) (λa f=>[(3,vI (a)),(6,i),(7,vI (d.length:Int)),(8,vI (b.2))]) (λa f=>[]) ?_ ?_
   ·refine aS<|aU<|cU h λg h=>aB (bE Z Z (cA Z) Z Z g) Z<|aB (cK Z (cA Z) Z Z Z eY g) Z<|aC Z<|aO<|aU<|aA Z<|k_ Z<|aO ?_;refine eN h Z (λh=>?_) λh=>?_
    ·refine aQ<|aA Z<|cP Z<|aC Z<|fJ<|lL ?_;exact fT (wI .i64 (b.1+(1:Int))) () h SF Z
    refine eM<|lL ?_;exact fT (b.1) () h SF Z
   intro a f h;unfold wM at h;refine aQ<|cP Z<|aA Z<|aO ?_;exact xY (a,(wI .i64 (b.2+(1:Int)))) () h SF Z
  refine fG ?_;exact fT (b.1) () h SF Z
 intro e j h;unfold Bm at h;refine aU<|aA Z<|aC Z<|aO<|aR ?_;cases h;exact iZ Z
def qR (a:Unit):Option (Int):=
 some (-1:Int)
def iP (c:bQ) (e:Int->Option Bool) (a:Int) (b:(Int)->Option (Int)):Option (Int):=
 if a<(c.length:Int)then(ck (0<=a/\a<(c.length:Int)) (Option.bind (e (at' c a)) λd=>(if d=true then(some (a))else(b (wI .i64 (a+(1:Int)))))))else(qR (()))
def oF (U:Nat) (b:bQ) (a:Int->Option Bool):Option (Int):=
 bJ (iP b a) U (0:Int)
theorem aaE:bB Tryz.prog 281:=Tryz.call281
theorem HW (U:Nat) {b:bQ} {o:Int->Option Bool} (k:FuncId) (a:fY) (j:List bH) (e:bB Tryz.prog k) (f:∀(t:Int) (r:Bool),o t=some r->bD Tryz.prog k ([vI (t)]++a).toArray j (λ_:Unit=>vB (r)) (λ_ l=>l) (λ_ l=>l)) (i:V0) (r:Int) (h:oF U b o=some r):
  bD Tryz.prog 281 #[i,Value.func (.func k) #[] (a).toArray] ([Sl aN i b]++j) (λx:Unit=>vI (r)) (λx l=>l) (λ_ l=>l):=by
 refine bD.of Tryz.func281 Z Tryz.ntmps281 Z λc=>?_;unfold oF at h;refine aU<|aC Z<|aO<|aL<|kU (B:=Unit) (λg=>qR g=some r) (λg m=>[]) (λg m=>[]) (λg m=>([Sl aN i b]++j)) ?_ ?_
 ·refine aU<|aA Z<|iH (cA Z) Z<|aA Z<|aO<|aS<|oS (B:=Unit) (iP b o) (λd n=>[(0,i),(1,Value.func (.func k) #[] (a).toArray),(7,vI (b.length:Int)),(8,vI (d))]) (λd n=>[]) (λd n=>([Sl aN i b]++j)) (0:Int) () h SF (aZ.refl _) (aI.refl _ _) ?_;intro v d n h;refine aU<|cV Z<|aO<|aL ?_;refine eN h Z (λh=>?_) λh=>?_
  ·refine cL<|aL<|aS<|aU<|aA Z<|aC Z<|aO<|aU<|aA Z<|aA Z<|aA Z<|cU h λs h=>aB (bE Z Z (cA Z) Z Z s) Z<|aB (cK Z (cA Z) Z Z Z eY s) Z<|eT h λp q h=>aK (yH (vs:=[vI (at' b d)]) (cs:=a) e Z (f (at' b d) p q) Z (aI.tail _) (λ_ _=>rfl)) Z λu=>aO ?_;refine tC h Z (λ_ h=>?_) λ_ h=>?_
   ·refine aU<|aA Z<|aC Z<|aO<|aR<|bI<|aG<|aG<|bI<|aG ?_;cases h;exact iZ Z
   refine eM<|lL<|aQ<|cP Z<|aA Z<|aO ?_;exact xY (wI .i64 (d+(1:Int))) () h SF Z
  refine fG ?_;exact fT () (()) h SF Z
 intro g m h;unfold qR at h;refine aU<|aC Z<|aO<|aR ?_;cases h;exact iZ Z
def p_ (U:Nat) (a:Int):Option Bool:=
 some (decide (a≠(0:Int)))
theorem aaF:bB Tryz.prog 282:=Tryz.call282
theorem ML (U:Nat) {a:Int} (r:Bool) (h:p_ U a=some r):
  bD Tryz.prog 282 #[vI (a)] [] (λx:Unit=>vB (r)) (λx l=>l) (λ_ l=>l):=by
 refine bD.of Tryz.func282 Z Tryz.ntmps282 Z λc=>?_;unfold p_ at h;refine aU<|aC Z<|aO<|aU<|aA Z<|k_ Z<|aC Z<|aO<|aR ?_;cases h;exact iZ Z
def wE (a:gK):Option i_:=
 some (a.1,a.2)
def qN (c:Int×Int×Int) (b:(Int×Int×Int)->Option i_) (a:gK):Option i_:=
 b (a.1,a.2,(wI .i64 (c.2.2+(1:Int))))
def wF (c:bQ) (a:Int×Int×Int) (b:(Int×Int×Int)->Option i_):Option i_:=
 if a.2.2<(c.length:Int)then(ck (0<=a.2.2/\a.2.2<(c.length:Int)) (if a.1<(at' c a.2.2)then(qN a b ((at' c a.2.2),a.1))else(qN a b (a.1,(max a.2.1 (at' c a.2.2))))))else(wE (a.1,a.2.1))
def rV (U:Nat) (a:bQ):Option i_:=
 bJ (wF a) U ((-1073741824:Int),(-1073741824:Int),(0:Int))
theorem TY:bB Tryz.prog 283:=Tryz.call283
theorem Da (U:Nat) {d:bQ} (j:V0) (r:gK) (h:rV U d=some r):
  bD Tryz.prog 283 #[j] [Sl aN j d] (λx:Unit=>Value.tuple #[vI (r.1),vI (r.2)]) (λx l=>l) (λ_ l=>l):=by
 refine bD.of Tryz.func283 Z Tryz.ntmps283 Z λc=>?_;unfold rV at h;refine aU<|aC Z<|aC Z<|aO<|aU<|aC Z<|aC Z<|aO<|aL<|eR (λe=>wE e=some r) (λe m=>[(2,vI (e.1)),(3,vI (e.2))]) (λe m=>[]) ?_ ?_
 ·refine aU<|aA Z<|iH (cA Z) Z<|aA Z<|aO<|aS<|fI (wF d) (λb f=>[(2,vI (b.1)),(3,vI (b.2.1)),(6,j),(7,vI (d.length:Int)),(8,vI (b.2.2))]) (λb f=>[]) ((-1073741824:Int),(-1073741824:Int),(0:Int)) () h SF (aZ.refl _) ?_;intro k b f h;refine aU<|cV Z<|aO<|aL ?_;refine eN h Z (λh=>?_) λh=>?_
  ·refine cL<|aL<|eR (λa=>qN b (bJ (wF d) k) a=some r) (λa g=>[(2,vI (a.1)),(3,vI (a.2)),(6,j),(7,vI (d.length:Int)),(8,vI (b.2.2))]) (λa g=>[]) ?_ ?_
   ·refine aS<|aU<|cU h λi h=>aB (bE Z Z (cA Z) Z Z i) Z<|aB (cK Z (cA Z) Z Z Z eY i) Z<|aC Z<|aO<|aU<|aA Z<|aA Z<|aB (tH Z Z) Z<|aO ?_;refine eN h Z (λh=>?_) λh=>?_
    ·refine aQ<|aA Z<|aA Z<|aC Z<|aC Z<|fJ<|lL ?_;exact fT ((at' d b.2.2),b.1) () h SF Z
    refine aQ<|aA Z<|aA Z<|aB (Hj Z Z) Z<|aC Z<|fJ<|lL ?_;exact fT (b.1,(max b.2.1 (at' d b.2.2))) () h SF Z
   intro a g h;unfold qN at h;refine aQ<|cP Z<|aA Z<|aO ?_;exact xY (a.1,a.2,(wI .i64 (b.2.2+(1:Int)))) () h SF Z
  refine fG ?_;exact fT (b.1,b.2.1) () h SF Z
 intro e m h;unfold wE at h;refine aU<|aA Z<|aA Z<|aC Z<|aC Z<|aO<|aR ?_;cases h;exact hZ () Z Z (RV.tmp Z) (RV.tmp Z) (aZ.refl _) aI.nil
def xT (a:Unit):Option (Int):=
 some (-1:Int)
def lN (c:bQ) (d a:Int) (b:(Int)->Option (Int)):Option (Int):=
 if a<(c.length:Int)then(ck (0<=a/\a<(c.length:Int)) (if d=(at' c a)then(some (a))else(b (wI .i64 (a+(1:Int))))))else(xT (()))
def rA (U:Nat) (a:bQ) (b:Int):Option (Int):=
 bJ (lN a b) U (0:Int)
theorem aam:bB Tryz.prog 178:=Tryz.call178
theorem Mk (U:Nat) {d:bQ} {e:Int} (f:V0) (r:Int) (h:rA U d e=some r):
  bD Tryz.prog 178 #[f,vI (e)] [Sl aN f d] (λx:Unit=>vI (r)) (λx l=>l) (λ_ l=>l):=by
 refine bD.of Tryz.func178 Z Tryz.ntmps178 Z λc=>?_;unfold rA at h;refine aU<|aC Z<|aO<|aL<|eR (λa=>xT a=some r) (λa g=>[]) (λa g=>[]) ?_ ?_
 ·refine aU<|aA Z<|iH (cA Z) Z<|aA Z<|aO<|aS<|fI (lN d e) (λb i=>[(0,f),(1,vI (e)),(7,vI (d.length:Int)),(8,vI (b))]) (λb i=>[]) (0:Int) () h SF (aZ.refl _) ?_;intro k b i h;refine aU<|cV Z<|aO<|aL ?_;refine eN h Z (λh=>?_) λh=>?_
  ·refine cL<|aL<|aS<|aU<|aA Z<|aC Z<|aO<|aU<|aA Z<|aA Z<|aA Z<|cU h λj h=>aB (bE Z Z (cA Z) Z Z j) Z<|aB (cK Z (cA Z) Z Z Z eY j) Z<|cC Z<|aO ?_;refine eN h Z (λh=>?_) λh=>?_
   ·refine aU<|aA Z<|aC Z<|aO<|aR<|bI<|aG<|aG<|bI<|aG ?_;cases h;exact iZ Z
   refine eM<|lL<|aQ<|cP Z<|aA Z<|aO ?_;exact xY (wI .i64 (b+(1:Int))) () h SF Z
  refine fG ?_;exact fT () (()) h SF Z
 intro a g h;unfold xT at h;refine aU<|aC Z<|aO<|aR ?_;cases h;exact iZ Z
def tK (U:Nat) (a:bQ) (b:Int):Option Bool:=
 Option.bind (rA U a b) λc=>(some (decide ((0:Int)<=c)))
theorem aaH:bB Tryz.prog 290:=Tryz.call290
theorem IV (U:Nat) {b:bQ} {d:Int} (a:V0) (r:Bool) (h:tK U b d=some r):
  bD Tryz.prog 290 #[a,vI (d)] [Sl aN a b] (λx:Unit=>vB (r)) (λx l=>l) (λ_ l=>l):=by
 refine bD.of Tryz.func290 Z Tryz.ntmps290 Z λc=>?_;refine aU<|aC Z<|aO<|aU<|aA Z<|aA Z<|eT h λe f h=>aK (zBg aam (Mk U a e f) Z (iN [0] Z)) Z λg=>aB (yV Z Z) Z<|aC Z<|aO<|aR ?_;cases h;exact iZ Z
def Do (a:Int):Option (Int):=
 some (a)
def BQ (U:Nat) (c:bQ) (a:Int) (b:(Int)->Option (Int)):Option (Int):=
 Option.bind (tK U c a) λd=>(if d=true then(b (wI .i64 (a+(1:Int))))else(Do (a)))
def CV (U:Nat) (a:bQ):Option (Int):=
 bJ (BQ U a) U (0:Int)
theorem aaG:bB Tryz.prog 284:=Tryz.call284
theorem Tq (U:Nat) {e:bQ} (d:V0) (r:Int) (h:CV U e=some r):
  bD Tryz.prog 284 #[d] [Sl aN d e] (λx:Unit=>vI (r)) (λx l=>l) (λ_ l=>l):=by
 refine bD.of Tryz.func284 Z Tryz.ntmps284 Z λc=>?_;unfold CV at h;refine aU<|aC Z<|aO<|aU<|aC Z<|aO<|aL<|eR (λa=>Do a=some r) (λa g=>[(3,vI (a))]) (λa g=>[]) ?_ ?_
 ·refine aS<|fI (BQ U e) (λb i=>[(0,d),(3,vI (b))]) (λb i=>[]) (0:Int) () h SF (aZ.refl _) ?_;intro m b i h;refine aL<|aU<|aA Z<|aA Z<|eT h λj f h=>aK (zBg aaH (IV U d j f) Z (iN [0] Z)) Z λk=>aO ?_;refine tC h Z (λ_ h=>?_) λ_ h=>?_
  ·refine cL<|aS<|aQ<|aA Z<|cP Z<|aC Z<|fJ<|lL ?_;exact xY (wI .i64 (b+(1:Int))) () h SF Z
  refine fG ?_;exact fT (b) () h SF Z
 intro a g h;unfold Do at h;refine aU<|aA Z<|aC Z<|aO<|aR ?_;cases h;exact iZ Z
def Cu (a:Int):Option (Int):=
 some (a)
def vJ (c:bQ) (a:gK) (b:i_->Option (Int)):Option (Int):=
 if a.2<(c.length:Int)then(ck (0<=a.2/\a.2<(c.length:Int)) (b ((min a.1 (at' c a.2)),(wI .i64 (a.2+(1:Int))))))else(Cu (a.1))
def EN (U:Nat) (a:Int):Option (Int):=
 Option.bind (kS U a) λb=>(some (b))
def vK (U:Nat) (c:bQ) (a:gK) (b:i_->Option (Int)):Option (Int):=
 if a.2<(c.length:Int)then(ck (0<=a.2/\a.2<(c.length:Int)) (b ((wI .i64 (a.1+(at' c a.2))),(wI .i64 (a.2+(1:Int))))))else(EN U (a.1))
def Dt (U:Nat) (b:Int) (a:bQ):Option (Int):=
 if b=(20:Int)then(Option.bind (rU U a) λi=>(Option.bind (kA U (decide (i=(a.length:Int)))) λj=>(some (j))))else(if b=(21:Int)then(Option.bind (rU U a) λk=>(Option.bind (kA U (decide ((0:Int)<k))) λc=>(some (c))))else(if b=(22:Int)then(Option.bind (rU U a) λd=>(some (d)))else(if b=(23:Int)then(Option.bind (oF U a (λl=>p_ U l)) λe=>(some (e)))else(if b=(24:Int)then(bJ (vJ a) U ((1073741824:Int),(0:Int)))else(if b=(25:Int)then(Option.bind (rV U a) λf=>(some (f.1)))else(if b=(26:Int)then(bJ (vK U a) U ((0:Int),(0:Int)))else(if b=(27:Int)then(Option.bind (CV U a) λg=>(some (g)))else(if b=(28:Int)then(Option.bind (rV U a) λh=>(some (h.2)))else(if(a.length:Int)=(0:Int)then(some (0:Int))else(ck (0<=(0:Int)/\(0:Int)<(a.length:Int)) (some (at' a (0:Int)))))))))))))
theorem aaC:bB Tryz.prog 261:=Tryz.call261
theorem Rk (U:Nat) {H:Int} {g:bQ} (f:V0) (r:Int) (h:Dt U H g=some r):
  bD Tryz.prog 261 #[vI (H),f] [Sl aN f g] (λx:Unit=>vI (r)) (λx l=>l) (λ_ l=>l):=by
 refine bD.of Tryz.func261 Z Tryz.ntmps261 Z λc=>?_;refine aU<|aC Z<|aO<|aL<|aU<|aA Z<|aO<|aS<|aU<|cC Z<|aC Z<|aO ?_;refine eN h Z (λh=>?_) λh=>?_
 ·refine aU<|aA Z<|eT h λK N h=>aK (zBg OD (Fh U f K N) Z (iN [0] Z)) Z λY=>aA Z<|iH (cA Z) Z<|cC Z<|eT h λL O h=>aK (zBg Bl (mH U L O) Z .nil) Z λx7=>aC Z<|aO<|aR<|bI<|aG ?_;cases h;exact iZ Z
 refine aU<|cC Z<|aC Z<|aO ?_;refine eN h Z (λh=>?_) λh=>?_
 ·refine aU<|aA Z<|eT h λM z h=>aK (zBg OD (Fh U f M z) Z (iN [0] Z)) Z λP=>aB (tH Z Z) Z<|eT h λq A h=>aK (zBg Bl (mH U q A) Z .nil) Z λQ=>aC Z<|aO<|aR<|bI<|aG ?_;cases h;exact iZ Z
 refine aU<|cC Z<|aC Z<|aO ?_;refine eN h Z (λh=>?_) λh=>?_
 ·refine aU<|aA Z<|eT h λs B h=>aK (zBg OD (Fh U f s B) Z (iN [0] Z)) Z λR=>aC Z<|aO<|aR<|bI<|aG ?_;cases h;exact iZ Z
 refine aU<|cC Z<|aC Z<|aO ?_;refine eN h Z (λh=>?_) λh=>?_
 ·refine aU<|aA Z<|eT h λt C h=>aK (zBg aaE (HW U 282 [] [] aaF (λy0 r h=>ML U r h) f t C) Z (iN [0] Z)) Z λS=>aC Z<|aO<|aR<|bI<|aG ?_;cases h;exact iZ Z
 refine aU<|cC Z<|aC Z<|aO ?_;refine eN h Z (λh=>?_) λh=>?_
 ·refine aU<|aC Z<|aO<|aL<|eR (λd=>Cu d=some r) (λd i=>[(5,vI (d))]) (λd i=>[]) ?_ ?_
  ·refine aU<|aA Z<|iH (cA Z) Z<|aA Z<|aO<|aS<|fI (vJ g) (λa j=>[(5,vI (a.1)),(40,f),(41,vI (g.length:Int)),(42,vI (a.2))]) (λa j=>[]) ((1073741824:Int),(0:Int)) () h SF (aZ.refl _) ?_;intro I a j h;refine aU<|cV Z<|aO<|aL ?_;refine eN h Z (λh=>?_) λh=>?_
   ·refine cL<|aL<|aS<|aU<|cU h λn h=>aB (bE Z Z (cA Z) Z Z n) Z<|aB (cK Z (cA Z) Z Z Z eY n) Z<|aC Z<|aO<|aQ<|aA Z<|aA Z<|aB (Nl Z Z) Z<|aC Z<|fJ<|lL<|aQ<|cP Z<|aA Z<|aO ?_;exact xY ((min a.1 (at' g a.2)),(wI .i64 (a.2+(1:Int)))) () h SF Z
   refine fG ?_;exact fT (a.1) () h SF Z
  intro d i h;unfold Cu at h;refine aU<|aA Z<|aC Z<|aO<|aR<|bI<|aG ?_;cases h;exact iZ Z
 refine aU<|cC Z<|aC Z<|aO ?_;refine eN h Z (λh=>?_) λh=>?_
 ·refine aU<|aA Z<|eT h λu D h=>aK (zBg TY (Da U f u D) Z (iN [0] Z)) Z λT=>aA Z<|jJ Z<|jJ Z<|aC Z<|aC Z<|aO<|aU<|aA Z<|aC Z<|aO<|aR<|bI<|aG ?_;cases h;exact iZ Z
 refine aU<|cC Z<|aC Z<|aO ?_;refine eN h Z (λh=>?_) λh=>?_
 ·refine aU<|aC Z<|aO<|aL<|eR (λe=>EN U e=some r) (λe k=>[(10,vI (e))]) (λe k=>[]) ?_ ?_
  ·refine aU<|aA Z<|iH (cA Z) Z<|aA Z<|aO<|aS<|fI (vK U g) (λb m=>[(10,vI (b.1)),(61,f),(62,vI (g.length:Int)),(63,vI (b.2))]) (λb m=>[]) ((0:Int),(0:Int)) () h SF (aZ.refl _) ?_;intro J b m h;refine aU<|cV Z<|aO<|aL ?_;refine eN h Z (λh=>?_) λh=>?_
   ·refine cL<|aL<|aS<|aU<|cU h λo h=>aB (bE Z Z (cA Z) Z Z o) Z<|aB (cK Z (cA Z) Z Z Z eY o) Z<|aC Z<|aO<|aQ<|aA Z<|aA Z<|cP Z<|aC Z<|fJ<|lL<|aQ<|cP Z<|aA Z<|aO ?_;exact xY ((wI .i64 (b.1+(at' g b.2))),(wI .i64 (b.2+(1:Int)))) () h SF Z
   refine fG ?_;exact fT (b.1) () h SF Z
  intro e k h;refine aU<|aA Z<|eT h λv E h=>aK (zBg GC (nV U v E) Z .nil) Z λV=>aC Z<|aO<|aR<|bI<|aG ?_;cases h;exact iZ Z
 refine aU<|cC Z<|aC Z<|aO ?_;refine eN h Z (λh=>?_) λh=>?_
 ·refine aU<|aA Z<|eT h λw F h=>aK (zBg aaG (Tq U f w F) Z (iN [0] Z)) Z λW=>aC Z<|aO<|aR<|bI<|aG ?_;cases h;exact iZ Z
 refine aU<|cC Z<|aC Z<|aO ?_;refine eN h Z (λh=>?_) λh=>?_
 ·refine aU<|aA Z<|eT h λy G h=>aK (zBg TY (Da U f y G) Z (iN [0] Z)) Z λX=>aA Z<|jJ Z<|jJ Z<|aC Z<|aC Z<|aO<|aU<|aA Z<|aC Z<|aO<|aR<|bI<|aG ?_;cases h;exact iZ Z
 refine eM<|lL<|aL<|aU<|aA Z<|iH (cA Z) Z<|cC Z<|aO ?_;refine eN h Z (λh=>?_) λh=>?_
 ·refine aU<|aC Z<|aO<|aR<|aG ?_;cases h;exact iZ Z
 refine cL<|aU<|aA Z<|cU h λp h=>aB (bE Z Z (cA Z) Z Z p) Z<|aB (cK Z (cA Z) Z Z Z eY p) Z<|aC Z<|aO<|aR ?_;cases h;exact iZ Z
def oT (a:gK):Option i_:=
 some (a.1,a.2)
def lS (U:Nat) (a:PK) (e:Int) (b:Int×bQ) (c:Int):Option i_:=
 ck (0<=((at' a.1.2.1.2 a.2.2.1).length:Int)/\((at' a.1.2.1.2 a.2.2.1).length:Int)<=((24:Nat):Int)/\((at' a.1.2.1.2 a.2.2.1).length:Int)<=(b.2.length:Int)) (Option.bind (Dt U ((at' a.2.2.2 e).1) (List.take (Int.toNat ((at' a.1.2.1.2 a.2.2.1).length:Int)) b.2)) λd=>(oT (d,c)))
def tB (U:Nat) (b:PK) (c:Int) (a:Int×bQ):Option i_:=
 if((at' b.1.2.1.2 b.2.2.1).length:Int)=(0:Int)then(Option.bind (EU U b.2.2.2 c) λd=>(lS U b c a (d)))else(lS U b c a (a.1))
def lT (U:Nat) (b:PK) (e:Int) (f:UF->Int->Int->Option i_) (a:Int×Int×bQ) (c:(Int×Int×bQ)->Option i_):Option i_:=
 if a.2.1<((at' b.1.2.1.2 b.2.2.1).length:Int)then(Option.bind (f ((((((b.1.1.1,b.1.1.2.1,b.1.1.2.2)),((b.1.2.1.1,b.1.2.1.2)),b.1.2.2.1,b.1.2.2.2)),b.2.1,b.2.2.1,b.2.2.2)) (wI .i64 (e+(1:Int))) a.2.1) λd=>(ck ((0<=a.2.1/\a.2.1<((24:Nat):Int))/\a.2.2.length=24) (c (d.2,(wI .i64 (a.2.1+(1:Int))),(List.set a.2.2 (Int.toNat a.2.1) d.1)))))else(tB U b e (a.1,a.2.2))
def eS (e:UF->Int->Int->Option i_) (U:Nat) (a:PK) (b c:Int):Option i_:=
 ck (0<=b/\b<(a.2.2.2.length:Int)) (if((at' a.2.2.2 b).1)<=(17:Int)then(Option.bind (nF U ((((((a.1.1.1,a.1.1.2.1,a.1.1.2.2)),((a.1.2.1.1,a.1.2.1.2)),a.1.2.2.1,a.1.2.2.2)),a.2.1,a.2.2.1,a.2.2.2)) ((((at' a.2.2.2 b).1),((at' a.2.2.2 b).2))) c) λm=>(some (m,(wI .i64 (b+(1:Int))))))else(if((at' a.2.2.2 b).1)<=(19:Int)then(Option.bind (e ((((((a.1.1.1,a.1.1.2.1,a.1.1.2.2)),((a.1.2.1.1,a.1.2.1.2)),a.1.2.2.1,a.1.2.2.2)),a.2.1,a.2.2.1,a.2.2.2)) (wI .i64 (b+(1:Int))) c) λl=>(Option.bind (Cw U ((at' a.2.2.2 b).1) l.1) λj=>(some (j,l.2))))else(if((at' a.2.2.2 b).1)<=(29:Int)then(ck (0<=a.2.2.1/\a.2.2.1<(a.1.2.1.2.length:Int)) (bJ (lT U a b e) U ((0:Int),(0:Int),(List.replicate 24 (0:Int)))))else(if((at' a.2.2.2 b).1)<=(42:Int)then(Option.bind (e ((((((a.1.1.1,a.1.1.2.1,a.1.1.2.2)),((a.1.2.1.1,a.1.2.1.2)),a.1.2.2.1,a.1.2.2.2)),a.2.1,a.2.2.1,a.2.2.2)) (wI .i64 (b+(1:Int))) c) λf=>(Option.bind (e ((((((a.1.1.1,a.1.1.2.1,a.1.1.2.2)),((a.1.2.1.1,a.1.2.1.2)),a.1.2.2.1,a.1.2.2.2)),a.2.1,a.2.2.1,a.2.2.2)) f.2 c) λg=>(Option.bind (Bq U ((at' a.2.2.2 b).1) f.1 g.1) λk=>(some (k,g.2)))))else(Option.bind (e ((((((a.1.1.1,a.1.1.2.1,a.1.1.2.2)),((a.1.2.1.1,a.1.2.1.2)),a.1.2.2.1,a.1.2.2.2)),a.2.1,a.2.2.1,a.2.2.2)) (wI .i64 (b+(1:Int))) c) λh=>(Option.bind (e ((((((a.1.1.1,a.1.1.2.1,a.1.1.2.2)),((a.1.2.1.1,a.1.2.1.2)),a.1.2.2.1,a.1.2.2.2)),a.2.1,a.2.2.1,a.2.2.2)) h.2 c) λi=>(Option.bind (e ((((((a.1.1.1,a.1.1.2.1,a.1.1.2.2)),((a.1.2.1.1,a.1.2.1.2)),a.1.2.2.1,a.1.2.2.2)),a.2.1,a.2.2.1,a.2.2.2)) i.2 c) λd=>(if h.1≠(0:Int)then(some (i.1,d.2))else(some (d.1,d.2))))))))))
def cN:Nat->UF->Int->Int->Option i_
 |0,_,_,_=>none
 |U+1,p0,p1,p2=>eS (cN U) U p0 p1 p2
theorem Dl:bB Tryz.prog 209:=Tryz.call209
theorem Fg (rc:UF->Int->Int->Option i_) (U:Nat) (p:∀{a:PK} {m O:Int} (b f:Nat) (q s t u:V0) (C:lE) (v:V0) (D:kD) (w:V0) (g:kD) (d:V0) (r:gK),rc a m O=some r->bD Tryz.prog 209 #[vP b,vI (m),vI (O)] [bL b [vP f,w,vI (a.2.2.1),d] 237,bL f [vS (a.1.1.1),q,s,t,u,vI (a.1.2.2.1),v] 206,Sl aH q a.1.1.2.1,Sl aE s a.1.1.2.2,Sl aN t a.1.2.1.1,S2 aX u C a.1.2.1.2,S2 aN v D a.1.2.2.2,S2 aN w g a.2.1,Sl aX d a.2.2.2] (λx:Unit=>Value.tuple #[vI (r.1),vI (r.2)]) (λx l=>l) (λ_ l=>l)) {a:PK} {m O:Int} (b f:Nat) (q s t u:V0) (C:lE) (v:V0) (D:kD) (w:V0) (g:kD) (d:V0) (r:gK) (h:eS rc U a m O=some r):
  bD Tryz.prog 209 #[vP b,vI (m),vI (O)] [bL b [vP f,w,vI (a.2.2.1),d] 237,bL f [vS (a.1.1.1),q,s,t,u,vI (a.1.2.2.1),v] 206,Sl aH q a.1.1.2.1,Sl aE s a.1.1.2.2,Sl aN t a.1.2.1.1,S2 aX u C a.1.2.1.2,S2 aN v D a.1.2.2.2,S2 aN w g a.2.1,Sl aX d a.2.2.2] (λx:Unit=>Value.tuple #[vI (r.1),vI (r.2)]) (λx l=>l) (λ_ l=>l):=by
 let P:=(List.replicate 24 (0:Int))
 let G:=vI ((at' a.2.2.2 m).1);let E:=((at' a.1.2.1.2 a.2.2.1).length:Int)
 refine bD.of Tryz.func209 Z Tryz.ntmps209 Z λc=>?_;refine aU<|aC Z<|aC Z<|aO<|aU<|aA Z<|aB (bX Z) Z<|bU Z<|aB (fZ Z (cA Z) Z Z Z) Z<|aA Z<|cU h λj1 h=>aB (bE Z Z (aF.fact 8 Z) Z Z j1) Z<|aB (gU (cs:=[G,vI ((at' a.2.2.2 m).2)]) Z (aF.fact 8 Z) cW Z Z Z Z j1) Z<|aK (aP.alloc (cs:=Wi) Z Z) Z λb2=>cG 0 (vs:=[vI ((at' a.2.2.2 m).1),vI ((at' a.2.2.2 m).2)]) Z Z Z Z Z Z<|aO<|aL<|aS<|aU<|bU Z<|dQ 0 Z<|aB (Cp Z Z) Z<|aC Z<|aO ?_;refine eN h Z (λh=>?_) λh=>?_
 ·refine aU<|aA Z<|dM 0 Z<|aA Z<|eT h λr4 w5 h=>aK (zBg aax (Hb U b f q s t u C v D w g d r4 w5) Z (iN [0,1,2,3,4,5,6,7,8] Z)) Z λx6=>aA Z<|cP Z<|aC Z<|aC Z<|aO<|aR<|bI<|aG ?_;cases h;exact hZ () Z Z (RV.tmp Z) (RV.tmp Z) .nil aI.nil
 refine aU<|bU Z<|dQ 0 Z<|aB (Cp Z Z) Z<|aC Z<|aO ?_;refine eN h Z (λh=>?_) λh=>?_
 ·refine aU<|aA Z<|aA Z<|cP Z<|aA Z<|eT h λr8 w9 h=>aK (zBg Dl (p b f q s t u C v D w g d r8 w9) Z (iN [0,1,2,3,4,5,6,7,8] Z)) Z λam=>aA Z<|jJ Z<|jJ Z<|aC Z<|aC Z<|aO<|aU<|bU Z<|dQ 0 Z<|aA Z<|eT h λS ab h=>aK (zBg aay (Pr U S ab) Z .nil) Z λan=>aA Z<|aC Z<|aC Z<|aO<|aR<|bI<|aG ?_;cases h;exact hZ () Z Z (RV.tmp Z) (RV.tmp Z) .nil aI.nil
 refine aU<|bU Z<|dQ 0 Z<|aB (Cp Z Z) Z<|aC Z<|aO ?_;refine eN h Z (λh=>?_) λh=>?_
 ·refine aU<|aA Z<|bU Z<|dQ 0 Z<|aA Z<|Dz (A:=gK) (B:=Unit) (vs:=[vP b,vI ((at' a.2.2.2 m).1),vI (m)]) (λn=>oT n=some r) (λn I=>Value.tuple #[vI (n.1),vI (n.2)]) (λn I=>[]) (λn I=>[bL b [vP f,w,vI (a.2.2.1),d] 237,bL f [vS (a.1.1.1),q,s,t,u,vI (a.1.2.2.1),v] 206,Sl aH q a.1.1.2.1,Sl aE s a.1.1.2.2,Sl aN t a.1.2.1.1,S2 aX u C a.1.2.1.2,S2 aN v D a.1.2.2.2,S2 aN w g a.2.1,Sl aX d a.2.2.2]) (wL.fn (show bB Tryz.prog 237 from Tryz.call237) Z) Tryz.func237 Z Tryz.ntmps237 Z Z ?_ ?_
  ·refine aU<|aC Z<|aC Z<|aO<|aU ?_;refine aK (aP.alloc (cs:=cellsOf fW P) Z (by kernel_rfl)) Z λo=>?_;refine aO<|aL ?_;refine sW [0,1,3,7,15,31,63,127,0,256,768,1792,4095,8191,16383,32767] 12 mixedOrders ?_;refine aV Z<|gC Z (bX Z)<|cH Z<|aY Z .nil (fN 0 Z) (fZ Z (cA Z) Z Z Z) aJ.z<|gC Z (bX Z)<|cH Z<|cH Z<|aY Z .nil (fN 1 Z) (fZ Z (cA Z) Z Z Z) aJ.z<|aV Z<|gC Z (bX Z)<|cH Z<|aY Z .nil (fN 0 Z) (fZ Z (cA Z) Z Z Z) aJ.z<|bP 12 Z Z<|cU h λF h=>aB (bN Z Z (Di Z) Z Z F) Z<|aB (bT Z (Di Z) Z Z F) Z<|aB (fE Z (zBh (Di Z) F.1 F.2) Z) Z<|aC Z<|aO<|aL<|eR (λk=>tB U a m k=some r) (λk J=>[(0,vP b),(1,G),(2,vI (m)),(7,vI (k.1)),(8,vP o),(9,vI E)]) (λk J=>[bL o (cellsOf fW k.2) 263]) ?_ ?_
   ·refine aU<|aA Z<|aA Z<|aO<|aS<|fI (lT U a m rc) (λj L=>[(0,vP b),(1,G),(2,vI (m)),(7,vI (j.1)),(8,vP o),(9,vI E),(26,vI E),(27,vI (j.2.1))]) (λj L=>[bL o (cellsOf fW j.2.2) 263]) ((0:Int),(0:Int),P) () h SF (aZ.ix [0] Z Z) ?_;intro al j L h;refine aU<|cV Z<|aO<|aL ?_;refine eN h Z (λh=>?_) λh=>?_
    ·refine cL<|aL<|aS<|aU<|aA Z<|aC Z<|aO<|aQ<|aA Z<|aA Z<|aA Z<|cP Z<|aA Z<|eT h λH ae h=>aK (zBg Dl (p b f q s t u C v D w g d H ae) Z (iN [0,1,2,3,4,5,6,7,8] Z)) Z λaq=>aA Z<|jJ Z<|jJ Z<|cU h λN h=>aB (pY Z Z Z Z Z N.1) Z<|Ld 0 (e:=fW) H.1 N Z Z Z Z Z Z Z<|aC Z<|fJ<|lL<|aQ<|cP Z<|aA Z<|aO ?_;exact xY (H.2,(wI .i64 (j.2.1+(1:Int))),(List.set j.2.2 (Int.toNat j.2.1) H.1)) () h SF Z
    refine fG ?_;exact fT (j.1,j.2.2) () h SF Z
   intro k J h;refine aL<|eR (λy=>lS U a m k y=some r) (λy K=>[(1,G),(7,vI (y)),(8,vP o),(9,vI E)]) (λy K=>[bL o (cellsOf fW k.2) 263]) ?_ ?_
   ·refine aU<|aA Z<|cC Z<|aO ?_;refine eN h Z (λh=>?_) λh=>?_
    ·refine aQ<|aA Z<|aB (bX Z) Z<|bU Z<|aB (fZ Z (cA Z) Z Z Z) Z<|aA Z<|eT h λR ad h=>aK (zBg aat (Ts U d R ad) Z (iN [8] Z)) Z λap=>aC Z<|aO ?_;exact fT (R) () h SF Z
    refine cL ?_;exact fT (k.1) () h SF Z
   intro y K h;refine aU<|aA Z<|aA Z<|cU h λM h=>aB (Sk Z Z Z Z M) Z<|eT h λQ ac h=>aK (zBg aaC (Rk U (Value.slice (some ⟨o,0,none⟩) (Int.toNat E) 24) Q ac) Z (aI.cons (Wx (i:=0) Z jA M (by decide)) .nil)) Z λao=>?_;refine aA Z<|aC Z<|aC Z<|aO<|aR ?_;exact mW (Q,y) () h (.inl Z) (Hi.r2 Z (RV.tmp Z) (RV.tmp Z)) Z .nil (aI.refl _ _)
  intro n I h;unfold oT at h;refine jJ Z<|jJ Z<|aC Z<|aC Z<|aO<|aR<|bI<|aG ?_;cases h;exact hZ () Z Z (RV.tmp Z) (RV.tmp Z) (aZ.refl _) aI.nil
 refine aU<|bU Z<|dQ 0 Z<|aB (Cp Z Z) Z<|aC Z<|aO ?_;refine eN h Z (λh=>?_) λh=>?_
 ·refine aU<|aA Z<|aA Z<|cP Z<|aA Z<|eT h λT af h=>aK (zBg Dl (p b f q s t u C v D w g d T af) Z (iN [0,1,2,3,4,5,6,7,8] Z)) Z λar=>aA Z<|jJ Z<|jJ Z<|aC Z<|aC Z<|aO<|aU<|aA Z<|aA Z<|aA Z<|eT h λV ag h=>aK (zBg Dl (p b f q s t u C v D w g d V ag) Z (iN [0,1,2,3,4,5,6,7,8] Z)) Z λau=>aA Z<|jJ Z<|jJ Z<|aC Z<|aC Z<|aO<|aU<|bU Z<|dQ 0 Z<|aA Z<|aA Z<|eT h λW ah h=>aK (zBg aaz (MK U W ah) Z .nil) Z λav=>aA Z<|aC Z<|aC Z<|aO<|aR<|bI<|aG ?_;cases h;exact hZ () Z Z (RV.tmp Z) (RV.tmp Z) .nil aI.nil
 refine eM<|lL<|aU<|aA Z<|aA Z<|cP Z<|aA Z<|eT h λX ai h=>aK (zBg Dl (p b f q s t u C v D w g d X ai) Z (iN [0,1,2,3,4,5,6,7,8] Z)) Z λaw=>aA Z<|jJ Z<|jJ Z<|aC Z<|aC Z<|aO<|aU<|aA Z<|aA Z<|aA Z<|eT h λY aj h=>aK (zBg Dl (p b f q s t u C v D w g d Y aj) Z (iN [0,1,2,3,4,5,6,7,8] Z)) Z λax=>aA Z<|jJ Z<|jJ Z<|aC Z<|aC Z<|aO<|aU<|aA Z<|aA Z<|aA Z<|eT h λaa ak h=>aK (zBg Dl (p b f q s t u C v D w g d aa ak) Z (iN [0,1,2,3,4,5,6,7,8] Z)) Z λay=>aA Z<|jJ Z<|jJ Z<|aC Z<|aC Z<|aO<|aL<|aU<|aA Z<|k_ Z<|aO ?_;refine eN h Z (λh=>?_) λh=>?_
 ·refine aU<|aA Z<|aA Z<|aC Z<|aC Z<|aO<|aR<|aG ?_;cases h;exact hZ () Z Z (RV.tmp Z) (RV.tmp Z) .nil aI.nil
 refine cL<|aU<|aA Z<|aA Z<|aC Z<|aC Z<|aO<|aR ?_;cases h;exact hZ () Z Z (RV.tmp Z) (RV.tmp Z) .nil aI.nil
theorem Gf (U:Nat):∀{a:PK} {p:Int} {q:Int} (b:Nat) (c:Nat) (f:V0) (g:V0) (i:V0) (j:V0) (n:lE) (k:V0) (o:kD) (m:V0) (e:kD) (d:V0) (r:gK),cN U a p q=some r->
  bD Tryz.prog 209 #[vP b,vI (p),vI (q)] [bL b [vP c,m,vI (a.2.2.1),d] 237,bL c [vS (a.1.1.1),f,g,i,j,vI (a.1.2.2.1),k] 206,Sl aH f a.1.1.2.1,Sl aE g a.1.1.2.2,Sl aN i a.1.2.1.1,S2 aX j n a.1.2.1.2,S2 aN k o a.1.2.2.2,S2 aN m e a.2.1,Sl aX d a.2.2.2] (λx:Unit=>Value.tuple #[vI (r.1),vI (r.2)]) (λx l=>l) (λ_ l=>l):=by
 induction U with
 |zero=>intros;rename_i h;cases h
 |succ U s=>exact λb c f g i j n k o m e d r h=>Fg (cN U) U s b c f g i j n k o m e d r h
end Go.Proofs.YtflciafboapaaaaGreat