/- Models and proofs. Conditions: none. -/
import Derived.Test.YtflciafboapaaaaGreatZRSp1
set_option linter.unusedVariables false
set_option linter.unusedSimpArgs false
set_option maxHeartbeats 4000000
set_option maxRecDepth 20000
section
set_option linter.unusedSectionVars false
namespace Go.Sx
open Go.RowKit Go.ChangeMaps
def It (b m a:Nat) (c:List Nat):bI where
 p w F:=F b/\w.heap[b]? = some (.mapIter (some m) a c.toArray a)
 mono:=fun⟨e,d⟩ h=>by
  obtain⟨f,g⟩:=h b e (zAj.1 d).1;exact⟨f,by rw[g];exact d⟩
section
variable {κ ν:Type} [DecidableEq κ] {ek:κ->V0} {ev:ν->V0} {R:Type}
theorem Pg (ek:κ->V0) (ev:ν->V0):∀(k:Nat) (l:List (κ×ν)) (e:MapEntry),e∈Gz ek ev k l->∃i a,l[i]? = some a/\e=⟨ek a.1,ev a.2,k+i⟩
 |_,[],e,h=>by simp[Gz]at h
 | k, x :: xs, e, h => by
  rcases zAn.1 h with rfl|h
  ·exact⟨0,x,rfl,rfl⟩
  ·obtain⟨i,a,b,c⟩:=Pg ek ev (k+1) xs e h;exact⟨i+1,a,b,by rw[c,show k+1+i=k+(i+1) by omega]⟩
theorem Pf (ek:κ->V0) (ev:ν->V0):∀(k:Nat) (l:List (κ×ν)) (i:Nat) (a:κ×ν),l[i]? = some a->(⟨ek a.1,ev a.2,k+i⟩:MapEntry)∈Gz ek ev k l
 |_,[],i,a,h=>by simp at h
 |k,x::xs,0,a,h=>by simp at h;subst h;exact zAe
 |k,x::xs,i+1,a,h=>by
  have:=Pf ek ev (k+1) xs i a (by simpa using h);rw[show k+1+i=k+(i+1) by omega]at this;exact zAl _ this
theorem QO (ek:κ->V0) (ev:ν->V0):∀(k:Nat) (l:List (κ×ν)),(Gz ek ev k l).map (·.born)=List.range' k l.length
 |_,[]=>rfl
 |k,x::xs=>by simp[Gz,QO ek ev (k+1) xs,List.range'_succ]
def MV (a:κ×ν->Option R->Option R) (K:Option R) (l:List (κ×ν)):Option R:=l.foldr a K
def rem (l:List (κ×ν)) (a:List Nat):List (κ×ν):=((List.range l.length).filter (λi=> !a.contains i)).filterMap (λi=>l[i]?)
theorem NQ:∀l:List (κ×ν),(List.range l.length).filterMap (λi=>l[i]?)=l
 | []=>rfl
 |x::xs=>by
  rw[zA8,List.range_succ_eq_map,List.filterMap_cons];simp only[List.getElem?_cons_zero,List.filterMap_map];congr 1;have:=NQ xs;simpa [Function.comp_def]using this
theorem abw (l:List (κ×ν)):rem l []=l:=by
 unfold rem;rw[List.filter_eq_self.2 (by simp),NQ]
theorem YL {l:List (κ×ν)} {a:List Nat} {i:Nat} {m:κ×ν} (k:l[i]? = some m) (t:i∉a):∃n o,rem l a=n++m::o/\rem l (a++[i])=n++o:=by
 have g:=bP k;have d:i∈(List.range l.length).filter (λi=> !a.contains i):=by simp[g,t]
 obtain⟨A,B,b⟩:=List.append_of_mem d;have c:((List.range l.length).filter (λi=> !a.contains i)).Nodup:=List.Pairwise.filter _ List.nodup_range;rw[b]at c;have r:i∉A:=λh=>by
  have:=(List.nodup_append.1 c).2.2 i h i zAe;exact this Z
 have s:i∉B:=λh=>by
  have:=(List.nodup_cons.1 (List.nodup_append.1 c).2.1).1;exact this h
 refine⟨A.filterMap (λi=>l[i]?),B.filterMap (λi=>l[i]?),?_,?_⟩
 ·unfold rem;rw[b,List.filterMap_append,List.filterMap_cons,k]
 ·unfold rem;have e:(List.range l.length).filter (λj=> !(a++[i]).contains j)=((List.range l.length).filter (λj=> !a.contains j)).filter (λj=>decide (j≠i)):=by
   rw[List.filter_filter];apply List.filter_congr;intro j _;rw[Bool.eq_iff_iff];simp[and_comm]
  rw[e,b,List.filter_append,List.filter_cons];have p:A.filter (λj=>decide (j≠i))=A:=List.filter_eq_self.2 (λj f=>by simp;rintro rfl;exact r f);have q:B.filter (λj=>decide (j≠i))=B:=List.filter_eq_self.2 (λj f=>by simp;rintro rfl;exact s f);rw[p,q,List.filterMap_append.symm];simp
theorem NO {c:κ×ν->Option R->Option R} (f:∀a b x,c a (c b x)=c b (c a x)) (K:Option R) (d:κ×ν) (e:List (κ×ν)):∀g:List (κ×ν),MV c K (g++d::e)=c d (MV c K (g++e))
 | []=>rfl
 |x::xs=>by
  have:=NO f K d e xs;unfold MV at this ⊢;rw[List.cons_append,List.cons_append,List.foldr_cons,List.foldr_cons,this,f]
end
section
variable {P:Program} {rd:Option Nat} {c:zL} {n:Sz} {σ σ':Fr} {M L M' L':List bI} {Q:Exit->Act->World->Prop} {ops:Array Oper} {rest:List Oper}
variable {d:Option Tmp} {ty:TypeId} {pos:String} {aft:Array Edge} {g:Option (Nat×Bool)}
variable {κ ν:Type} [DecidableEq κ] {ek:κ->V0} {ev:ν->V0} {R:Type}
theorem aQ.range [dV P] (j:Nat) {T f h:TypeId} {q r:Nat} {z:V0} {x:Operand} {m:Nat} {l:List (κ×ν)} (p:Go.Sx.ev σ x=some (.map (some m))) (o:M[j]? = some (Mp ek ev m l)) (k:dV.tab P T=some ⟨.map f h,q,r,z⟩):
  aQ P c n σ M L ⟨d,.range T x,ty,pos,aft,g⟩ (λb:Nat=> .pointer (some ⟨b,0,none⟩)) (λb=>It b m l.length []::M) (λ_=>L):=λa w s t=>by
 obtain⟨F,i⟩:=t.res o;have e:(execOp a.eval ⟨d,.range T x,ty,pos,aft,g⟩).run P w = .ok (.value (.pointer (some ⟨w.heap.size,0,none⟩))) (w.alloc (.mapIter (some m) l.length #[] l.length)):=by
  simp[execOp,s.eval p,run_range_map w T f h m _ _ (dV.ok k).und i.2]
 simp only[Oper.wp,e,Oper.upon];exact⟨w.heap.size,rfl,t.push _ ⟨rfl,heap_alloc_new w _⟩⟩
def IR (ek:κ->V0) (ev:ν->V0) (l:List (κ×ν)):Option Nat->V0
 |none=> .tuple #[.bool false]
 |some i=>match l[i]? with
  |some a=> .tuple #[.bool true,ek a.1,ev a.2]
  |none=>undef
def adV (b:Nat) (a:List Nat):Option Nat->Prop
 |none=>∀i,i<b->i∈a
 |some i=>i<b/\i∉a
def Uz (M:List bI) (f b m e:Nat) (a:List Nat):Option Nat->List bI
 |none=>M
 |some i=>M.set f (It b m e (a++[i]))
theorem St.pureL {w:World} {p:Prop} (hp:p) (t:St c M L w):St c M (acC p::L) w:=by
 obtain⟨ho,F,hF,hL⟩:=t;refine⟨ho,F,hF,λf hf=> ?_⟩
 rcases zAn.1 hf with rfl|hf
 ·exact hp
 ·exact hL f hf
theorem aQ.next (jm ji:Nat) {x:Operand} {b m:Nat} {l:List (κ×ν)} {seen:List Nat} (hx:Go.Sx.ev σ x=some (.pointer (some ⟨b,0,none⟩))) (hf:M[jm]? = some (Mp ek ev m l)) (hi:M[ji]? = some (It b m l.length seen)):
  aQ P c n σ M L ⟨d,.next x false,ty,pos,aft,g⟩ (IR ek ev l) (Uz M ji b m l.length seen) (λo=>acC (adV l.length seen o)::L):=λa w s t=>by
 obtain⟨F,hF⟩:=t.res hf;obtain⟨G,hG⟩:=t.res hi;have hold:∀e∈(Gz ek ev 0 l).toArray.toList,e.born<l.length:=λe he=>by
  obtain⟨i,kv,h1,h2⟩:=Pg ek ev 0 l e (by simpa using he);rw[h2];have:=bP h1;simp;omega
 rcases run_next_at (P:=P) w ty b m l.length l.length seen.toArray (Gz ek ev 0 l).toArray l.length hG.2 hF.2 hold (zAh _)with⟨h0,hr⟩|⟨e,he,w1,hw1,hr⟩
 ·have hrun:(execOp a.eval ⟨d,.next x false,ty,pos,aft,g⟩).run P w = .ok (.value (.tuple #[.bool false])) w:=by
   simp[execOp,s.eval hx,hr]
  simp only[Oper.wp,hrun,Oper.upon];refine⟨none,rfl,t.pureL λi hi'=> ?_⟩
  obtain⟨kv,hkv⟩:∃kv,l[i]? = some kv:=⟨_,zA2 hi'⟩
  have:=all_seen _ _ h0 _ (by simpa using Pf ek ev 0 l i kv hkv);simpa using this
 ·have hml:=_root_.Go.mem_left he;obtain⟨i,kv,h1,h2⟩:=Pg ek ev 0 l e (by simpa using hml.1);subst h2;rw[Nat.zero_add]at hr hml;have hrun:(execOp a.eval ⟨d,.next x false,ty,pos,aft,g⟩).run P w = .ok (.value (.tuple #[.bool true,ek kv.1,ev kv.2])) (setBlock w1 b (.mapIter (some m) l.length (seen.toArray.push i) l.length)):=by
   simp[execOp,s.eval hx,hr]
  simp only[Oper.wp,hrun,Oper.upon];have t1:St c M L w1:=by
   rcases hw1 with rfl|rfl
   ·exact t
   ·exact t.ext ((Below.refl _ _).drew)
  refine⟨some i,by simp[IR,h1],St.pureL ⟨bP h1,by simpa using hml.2⟩ ?_⟩
  refine t1.upd hi Z Z Z (by simp[setBlock]) λF hF _=>⟨λk _ hk=> ?_,F,⟨hF.1,?_⟩,λ_ h=> .inl h⟩
  ·simp only[setBlock];rw[zB3 (λe=>hk (by subst e;exact hF.1))]
  ·simp only[setBlock];rw[zB6 (zAj.1 hF.2).1];simp
theorem aQ.entry (A z:Nat) {x:Operand} {b m i:Nat} {l:List (κ×ν)} {f:List Nat} {e:κ×ν} (j:l[i]? = some e) (y:Go.Sx.ev σ x=some (.pointer (some ⟨b,0,none⟩))) (q:M[A]? = some (Mp ek ev m l)) (r:M[z]? = some (It b m l.length (f++[i]))):
  aQ P c n σ M L ⟨d,.entry x,ty,pos,aft,g⟩ (λ_:Unit=> .tuple #[ek e.1,ev e.2]) (λ_=>M) (λ_=>L):=λa w s t=>by
 obtain⟨F,o⟩:=t.res q;obtain⟨G,p⟩:=t.res r;have k:=Pf ek ev 0 l i e j;rw[Nat.zero_add]at k;have u:((Gz ek ev 0 l).toArray.toList.map (·.born)).Nodup:=by
  simp only[QO];exact List.nodup_range'
 have v:=run_entry_at (P:=P) w b m l.length f.toArray (Gz ek ev 0 l).toArray l.length ⟨ek e.1,ev e.2,i⟩ (by rw[p.2];simp) o.2 (by simpa using k) u;have h:(execOp a.eval ⟨d,.entry x,ty,pos,aft,g⟩).run P w = .ok (.value (.tuple #[ek e.1,ev e.2])) w:=by
  simp[execOp,s.eval y,v]
 simp only[Oper.wp,h,Oper.upon];exact⟨(),by first|rfl|trivial,t⟩
theorem ZH {G:Act->World->Prop} (σ':Fr) (M' L':List bI) (f:CG σ σ') (e:a_ M M') (b:aH [] L L') (h:J c n σ' M' L' G):J c n σ M L G:=λa w s t=>h a w (s.weak f) (t.weakE e b)
theorem Sf {e:TypeId} {d:TypeDesc} (p:P.underlying e=some d) (m:∀b k w,(Instr.checkKey b 10000 e (ek k)).run P w = .ok () w) (o:∀a b,Instr.sameNow d (ek a) (ek b)=none)
  (r:∀a b w,(Op.equal e (ek a) (ek b)).run P w = .ok (decide (a=b)) w) (f:∀k,Instr.sameBits 10000 (ek k) (ek k)=true):Lp P e ek:=by
 refine⟨m,λ{ν'} ev' k l w=> ?_,f⟩
 have j:∀(l:List (κ×ν')) (i:Nat),(Instr.findAsking e (ek k) (Gz ek ev' i l) i).run P w = .ok (VE ev' k i l) w:=by
  intro l
  induction l with
  |nil=>intro i;simp[Gz,VE,Instr.findAsking]
  |cons x q t=>
   intro i;simp only[Gz,VE,Instr.findAsking];simp[r];by_cases h:k=x.1
   ·simp[h]
   ·simp[h,t]
 unfold Instr.findKey;cases l with
 |nil=>simp[Gz,VE,Instr.findNow,run_underlying p w]
 |cons x q=>
  have s:Instr.findNow d (ek k) (Gz ek ev' 0 (x::q)) 0=none:=by simp[Gz,Instr.findNow,o]
  simp[run_underlying p w,s,j]
def WI {R:Type} (c:zL) (n:Sz) (σ:Fr) (M L:List bI) (x:Option R) (r:R) (a:Act) (w:World):Prop:=x=some r/\Jo n σ a/\St c M L w
theorem Se {R:Type} {x:Option R} {r:R} (h:x=some r) (e:CG σ' σ) (b:a_ M' M) (a:aH [] L' L):J c n σ' M' L' (WI c n σ M L x r):=λ_ _ s t=>⟨h,s.weak e,t.weakE b a⟩
theorem Vh (p:κ×ν->Option R->Option R) {K:Option R} {r:R} (O s:Nat) {b m:Nat} {l:List (κ×ν)} (hc:∀a b x,p a (p b x)=p b (p a x)) (h:MV p K l=some r)
  (hf:M[O]? = some (Mp ek ev m l)) (U:M[s]? = some (It b m l.length [])) (af:Nat.beq s O=false) {t0 S T:Tmp} (hx:lk σ t0=some (.pointer (some ⟨b,0,none⟩))) (ab:Nat.blt S n.sz=true) (E:Nat.blt T n.sz=true)
  {id ex:Nat} {y1 y2:TypeId} {q1 q2:String} {f1 f2:Array Edge} {y:Code}
  (C:∀(t:κ×ν) (i:Nat) (k:List Nat) (x:Option R),l[i]? = some t->p t x=some r->
   J c n ((T,.bool true)::(S,.tuple #[.bool true,ek t.1,ev t.2])::σ) (M.set s (It b m l.length (k++[i]))) L (y.wpr rd P (Exit.then (WI c n σ (M.set s (It b m l.length (k++[i]))) L x r) Q)))
  (V:∀k,K=some r->J c n ((T,.bool false)::(S,.tuple #[.bool false])::σ) (M.set s (It b m l.length k)) L (Q (.exit ex))):
  J c n σ M L ((Code.loop (Code.seq (Code.region id [⟨some S,.next (.tmp t0) false,y1,q1,f1,none⟩,⟨some T,.extract (.tmp S) 0,y2,q2,f2,none⟩].toArray false) (Code.seq (Code.cond (.tmp T) .skip (.exit ex)) y))).wpr rd P Q):=by
 have z:=bP U;have ae:O≠s:=λe=>by subst e;simp at af
 have H:M.set s (It b m l.length [])=M:=by
  apply List.ext_getElem?;intro q;by_cases eq:q=s
  ·subst eq;rw[zAi z,U]
  ·rw[zAp (Ne.symm eq)]
 refine WB (X:=List Nat) (λk=>k.Nodup/\(∀i∈k,i<l.length)/\MV p K (rem l k)=some r) (λ_=>σ) (λk=>M.set s (It b m l.length k)) (λ_=>L) (λk=>l.length - k.length) [] ⟨List.nodup_nil,by simp,by rw[abw];exact h⟩ (CG.refl _) (by rw[H];exact a_.refl _) (λ_ h=>h) ?_;rintro k ⟨G,F,v⟩;have ac:(M.set s (It b m l.length k))[O]? = some (Mp ek ev m l):=by rw[zAp (Ne.symm ae)];exact hf
 have ad:(M.set s (It b m l.length k))[s]? = some (It b m l.length k):=zAi z;refine aN (aR (aJ (aQ.next O s (x:= .tmp t0) hx ac ad) ab λo=> ?_));refine acA zAe λho=> ?_;refine acB (M':=Uz (M.set s (It b m l.length k)) s b m l.length k o) (L':=L) ?_ (CG.refl _) (a_.refl _) (λf hf=>zAl _ hf);cases o with
 | none =>
  refine aB (vY (vs:=[.bool false]) (by simp[IR,lk,Go.Sx.ev]) Z) E (eS (Fc (aN (Ol (by simp[lk,Go.Sx.ev]) (uE (g_ (g_ ?_)))))));refine V k ?_;have:rem l k=[]:=by
   unfold rem;rw[List.filter_eq_nil_iff.2 (λi U=>by simpa using ho i (by simpa using U))];rfl
  rw[this]at v;exact v
 | some i =>
  obtain⟨W,Y⟩:=ho;obtain⟨t,A⟩:∃t,l[i]? = some t:=⟨_,zA2 W⟩
  have N:IR ek ev l (some i) = .tuple #[.bool true,ek t.1,ev t.2]:=by simp[IR,A]
  obtain⟨l1,l2,e1,e2⟩:=YL A Y;have B:p t (MV p K (rem l (k++[i])))=some r:=by
   rw[e2,<-NO hc K t l2 l1,<-e1];exact v
  have aa:Uz (M.set s (It b m l.length k)) s b m l.length k (some i)=M.set s (It b m l.length (k++[i])):=by simp[Uz]
  rw[N,aa];refine aB (vY (vs:=[.bool true,ek t.1,ev t.2]) (by simp[lk,Go.Sx.ev]) Z) E (eS (Fc (aN (Om (by simp[lk,Go.Sx.ev]) (dW (Fc ?_))))));refine WC (C t i k _ A B) λa w hw=>MJ (λe a' w' q=> ?_) hw;cases e with
  | normal =>
   obtain⟨ai,ag,ah⟩:=q;refine⟨k++[i],⟨?_,?_,ai⟩,?_,ag,ah⟩
   ·rw[List.nodup_append];exact⟨G,by simp,λa ha b D=>by simp at D;subst D;rintro rfl;exact Y ha⟩
   ·intro j u;rcases List.mem_append.1 u with u|u
    ·exact F j u
    ·simp at u;subst u;exact W
   ·have:k.length<l.length:=by
     have I:(k++[i]).length<=(List.range l.length).length:=by
      apply List.Nodup.length_le_of_subset
      ·rw[List.nodup_append];exact⟨G,by simp,λa ha b D=>by simp at D;subst D;rintro rfl;exact Y ha⟩
      ·intro j u;rcases List.mem_append.1 u with u|u
       ·simpa using F j u
       ·simp at u;subst u;simpa using W
     simp at I;omega
    simp;omega
  |exit id=>exact q
  |goto l=>exact q
  |ret=>exact q
  |panic ch=>exact q
  |outgrown=>exact q
end
end Go.Sx
end
namespace Go.Sx
open Go.RowKit
section
variable {P:Program} {rd:Option Nat} {c:zL} {n:Sz} {σ σ':Fr} {M L M' L':List bI} {Q:Exit->Act->World->Prop} {ops:Array Oper} {rest:List Oper} {K:Act->World->Prop} {G:Act->World->Prop}
variable {d:Option Tmp} {D:Nat} {ty:TypeId} {pos:String} {aft:Array Edge} {g:Option (Nat×Bool)}
variable {α β:Type} {e:bJ α} {r:eK α}
def Gu:V0->Bool
 | .slice none _ _=>true
 |_=>false
theorem Nm {v:V0} {i:List α} (o:aI M L (Sl r v i)) (k:Gu v=true->i=[]->J c n σ M L G) (l:Gu v=false->J c n σ M L G):J c n σ M L G:=λa w s t=>by
 cases f:Gu v with
 |false=>exact l f a w s t
 |true=>
  refine k f ?_ a w s t;obtain⟨S,u,j,p,_,h⟩:=o.st t;subst p;rcases h with h|⟨b,q,m,_⟩
  ·exact h
  ·subst m;cases f
theorem Wb {T E:TypeId} {f:Ty} {w:World} {a:Option Addr} {l k:Nat} (j:uA P T f) (o:f.desc = .slice E):(binOp .eql T (.slice a l k) (.slice none 0 0)).run P w = .ok (.bool (Gu (.slice a l k))) w:=by
 have i:=j.run_und w;have b:∀m:Nat,(Op.equalIn (m+1) T (.slice a l k) (.slice none 0 0)).run P w = .ok (Gu (.slice a l k)) w:=by
  intro m;unfold Op.equalIn;rw[o]at i;cases a<;>simp[i,Gu]
 have h:(Op.equal T (.slice a l k) (.slice none 0 0)).run P w = .ok (Gu (.slice a l k)) w:=b 9999;simp[binOp,h]
theorem KR [dV P] {T E:TypeId} {A B:Nat} {z:V0} {x:Operand} {v:V0} {i:List α} {b:Bool} {C:TypeId} (y:ev σ x=some v) (q:aI M L (Sl r v i)) (o:Gu v=b) (m:dV.tab P T=some ⟨.slice E,A,B,z⟩):
  Y P c n σ M L ⟨d,.binOp .eql T x (.const (.slice none 0 0)) C,ty,pos,aft,g⟩ (.bool b):=λa w s t=>by
 obtain⟨S,j,f,u,_,_⟩:=q.st t;subst u;have h:=Wb (w:=w) (a:=j) (l:=i.length) (k:=f) (dV.ok m) Z;have p:a.eval (.const (.slice none 0 0)) = .slice none 0 0:=rfl;rw[o]at h;simp[execOp,s.eval y,p,eqGuard,h]
def Fg (P:Program) (f:FuncId) (a:Array V0) (Min L:List bI) {A:Type} (b:A->V0) (h:A->List bI->List bI):Prop:=
 ∀c:zL,St c Min L c.w0->Calls P f a c.w0 λe i=>∃x:A,e = .returned (b x)/\St c (h x []) [] i
theorem Fg.of {A:Type} {b:A->V0} {q:A->List bI->List bI} {f:FuncId} {i:Func} {a:Code} {vs:List V0} {m:Nat} {Min:List bI}
  (u:P.funcs[f]? = some i) (s:i.body=some a) (x:i.ntmps=m) (w:Nat.ble vs.length m=true)
  (h:∀c:zL,J c ⟨m,[]⟩ (Dr 0 vs) Min L (a.wpr none P (oA P i (Qj c b q (λ_ l=>l))))):Fg P f vs.toArray Min L b q:=λc t=>by
 have o:vs.length<=m:=by simpa using w
 refine zP u s (h c _ _ ⟨rfl,by simp[x,o],?_⟩ t);intro t v y;obtain⟨_,j⟩:=Gr vs 0 t v y;rw[Nat.sub_zero]at j;have p:t<vs.length:=by
  rcases zAu t vs.length with k|k
  ·exact k
  ·rw[zAo k]at j;cases j
 rw[zB9 (by simpa using p)];simpa using j
theorem WP {w S:World} {l H v:List bI} {F:Nat->Nat->Prop} {U:Nat->Prop} (y:ED c.O c.w0 w) (o:Own c w (l++H) F) (Y:∀f∈L,f.p w (Ei c F))
  (t:St ⟨w,U,λk=>∃i,i<l.length/\F i k⟩ v [] S):St c (v++H) L S:=by
 obtain⟨s,T,u,_⟩:=t;have C:=s.size;have x:∀k,k<w.heap.size->(∀i,i<l.length->¬F i k)->S.heap[k]? = w.heap[k]? := λk a hn=>s.block k a (fun⟨i,B,o⟩=>hn i B o);have b:∀i k,T i k->w.heap.size<=k\/∃j,j<l.length/\F j k:=λi k a=>(u.rng i k a).1;refine⟨⟨s.os.trans y.os,s.tape.trans y.tape,s.output.trans y.output,zB4 y.size C,λk a W=> ?_⟩,
  λi k=>(i<v.length/\T i k)\/(v.length<=i/\F (i - v.length+l.length) k),⟨?_,?_,?_⟩,λf hf=> ?_⟩
 ·refine(x k (zB0 a y.size) (λi _ I=> ?_)).trans (y.block k a W);rcases(o.rng i k I).1 with h|h
  ·omega
  ·exact W h
 ·intro i m E;by_cases B:i<v.length
  ·rw[zAc B]at E;exact bI.same (u.res i m E) (λk a=> .inl ⟨B,a⟩) (λ_ _ _=>rfl)
  ·rw[zAb (by omega)]at E;have R:(l++H)[i - v.length+l.length]? = some m:=by
    rw[zAb (by omega),Nat.add_sub_cancel];exact E
   exact bI.same (o.res _ m R) (λk a=> .inr ⟨by omega,a⟩) (λk a N=>x k N (λj X J=>by have:=o.dis _ _ k J a;omega))
 ·rintro i k (⟨_,a⟩|⟨_,a⟩)
  ·refine⟨?_,(u.rng i k a).2⟩
   rcases b i k a with h|⟨j,_,h⟩
   ·exact .inl (zB4 y.size h)
   ·exact(o.rng j k h).1
  ·exact⟨(o.rng _ k a).1,zB0 (o.rng _ k a).2 C⟩
 ·rintro i j k (⟨B,z⟩|⟨B,z⟩) (⟨X,A⟩|⟨X,A⟩)
  ·exact u.dis i j k z A
  ·rcases b i k z with h|⟨q,hq,h⟩
   ·have:=(o.rng _ k A).2;omega
   ·have:=o.dis _ _ k h A;omega
  ·rcases b j k A with h|⟨q,hq,h⟩
   ·have:=(o.rng _ k z).2;omega
   ·have:=o.dis _ _ k h z;omega
  ·have:=o.dis _ _ k z A;omega
 ·refine f.mono (Y f hf) λk a N=>⟨⟨a.1,?_⟩,x k N (λi _=>a.2 i)⟩
  rintro i (⟨_,h⟩|⟨_,h⟩)
  ·rcases b i k h with V|⟨q,_,V⟩
   ·omega
   ·exact a.2 q V
  ·exact a.2 _ h
theorem Vl {w:World} {a u t:List bI} {F:Nat->Nat->Prop} (o:Own c w (a++u) F) (y:∀f∈L,f.p w (Ei c F)) (B:aH u L t):
  St ⟨w,λk=>∀i,i<a.length->¬F i k,λk=>∃i,i<a.length/\F i k⟩ a t w:=by
 refine⟨ED.refl _,λi k=>i<a.length/\F i k,⟨λi m s=> ?_,λi k b=>⟨.inr ⟨i,b⟩,(o.rng i k b.2).2⟩,λi j k v x=>o.dis i j k v.2 x.2⟩,λf z=> ?_⟩
 ·have l:i<a.length:=by
   rcases zAu i a.length with q|q
   ·exact q
   ·rw[zAo q]at s;cases s
  exact bI.same (o.res i m (by rw[zAc l];exact s)) (λk b=>⟨l,b⟩) (λ_ _ _=>rfl)
 ·refine B f z w (Ei c F) (λj k=>F (j+a.length) k) _ y (λj m A=> ?_) (λk b=> ?_) (λj k b=> ?_)
  ·exact o.res _ m (by rw[zAb (by omega),Nat.add_sub_cancel];exact A)
  ·exact⟨.inl λi _=>b.2 i,λi l=>b.2 i l.2⟩
  ·exact⟨.inl λi l h=>by have:=o.dis _ _ k h b;omega,λi l=>by have:=o.dis _ _ k l.2 b;omega⟩
theorem Ff {A:Type} {k:A->V0} {m:A->List bI->List bI} {f:FuncId} {p:List Operand} {vs:List V0} {b:Array TypeId} {q Min Mr:List bI} (z:bB P f)
  (C:Fg P f vs.toArray Min q k m) (H:p.map (ev σ)=vs.map some) (y:a_ M (Min++Mr)) (v:aH Mr L q) (o:∀x l,m x l=m x []++l):
  aQ P c n σ M L ⟨d,.call ⟨.value (.func f),p.toArray,b⟩,ty,pos,aft,g⟩ k (λx=>m x Mr) (λ_=>L):=λa w s t=>by
 have j:(execOp a.eval ⟨d,.call ⟨.value (.func f),p.toArray,b⟩,ty,pos,aft,g⟩).run P w = .ok (.enter f vs.toArray) w:=by
  have e:=evs s H;simp[execOp,resolve,Act.eval,Deferred.ofValue,invoke,z _ w,e]
 simp only[Oper.wp,j,Oper.upon];obtain⟨B,F,u,i⟩:=t.weak (L':=L) y (λ_ h=>h);refine(C _ (Vl u i v)).mono ?_;rintro e I ⟨x,rfl,E⟩;refine⟨x,rfl,?_⟩
 rw[o];exact WP B u i E
def WK {A B:Type} (c:zL) (C:A->Prop) (a:A->B->V0) (f b:A->B->List bI) (e:Ending) (w:World):Prop:=∃x y,C x/\e = .returned (a x y)/\St c (f x y) (b x y) w
theorem SP {j:Func} {a:List V0} {m:Nat} (l:j.ntmps=m) (k:Nat.ble a.length m=true):Jo ⟨m,[]⟩ (Dr 0 a) {tmps:=a.toArray++Array.replicate (j.ntmps - a.toArray.size) undef,defers:=[]}:=by
 have h:a.length<=m:=by simpa using k
 refine⟨rfl,by simp[l,h],?_⟩
 intro t v o;obtain⟨_,b⟩:=Gr a 0 t v o;rw[Nat.sub_zero]at b;have i:t<a.length:=by
  rcases zAu t a.length with f|f
  ·exact f
  ·rw[zAo f]at b;cases b
 rw[zB9 (by simpa using i)];simpa using b
structure pJ (P:Program) (c:zL) (n:Sz) (σ:Fr) (M L:List bI) (o:Oper) (f:FuncId) (vs:List V0):Prop where
 run:∀a w,Jo n σ a->St c M L w->(execOp a.eval o).run P w = .ok (.enter f vs.toArray) w
theorem pJ.fn {f:FuncId} {xs:List Operand} {vs:List V0} {b:Array TypeId} (h:bB P f) (i:xs.map (ev σ)=vs.map some):pJ P c n σ M L ⟨d,.call ⟨.value (.func f),xs.toArray,b⟩,ty,pos,aft,g⟩ f vs:=⟨λa w s _=>by
 have e:=evs s i;simp[execOp,resolve,Act.eval,Deferred.ofValue,invoke,h _ w,e]⟩
theorem Vg {f:FuncId} {t:Tmp} {h:List Operand} {us cs vs:List V0} {b:Array TypeId} (j:bB P f) (k:lk σ t=some (.func (.func f) #[] cs.toArray)) (m:h.map (ev σ)=us.map some) (l:us++cs=vs):pJ P c n σ M L ⟨d,.call ⟨.value (.tmp t),h.toArray,b⟩,ty,pos,aft,g⟩ f vs:=⟨λa w s _=>by
 have e:=evs s m;have i:a.eval (.tmp t) = .func (.func f) #[] cs.toArray:=s.eval (x:= .tmp t) k;subst l;simp[execOp,resolve,i,Deferred.ofValue,invoke,j _ w,e]⟩
def Fa (P:Program) (c:zL) (n:Sz) (σ:Fr) (M L:List bI) (b:Func) (v:V0):Prop:=∀a w,Jo n σ a->St c M L w->(results b a.tmps).run P w = .ok v w
variable {fn:Func}
theorem Fa.r0 (b:fn.results = #[]):Fa P c n σ M L fn (.tuple #[]):=λa w _ _=>by simp[results,b]
theorem Fa.r1 {f:ResultVar} {h:V0} (b:fn.results = #[f]) (i:RV P c n σ M L f h):Fa P c n σ M L fn h:=λa w s t=>by
 have:=i a w s t;simp only[Dz,b];simp[this]
theorem Fa.r2 {i j:ResultVar} {k l:V0} (b:fn.results = #[i,j]) (f:RV P c n σ M L i k) (h:RV P c n σ M L j l):Fa P c n σ M L fn (.tuple #[k,l]):=λa w s t=>by
 have f:=f a w s t;have h:=h a w s t;simp only[Dz,b];simp[f,h]
theorem jX {A B:Type} {m:Sz} {v:V0} {f:Exit} {C:A->Prop} {b:A->B->V0} {k j:A->B->List bI} (x:A) (y:B) (l:C x) (i:f = .ret\/f = .normal) (q:Fa P c m σ' M L fn v) (u:v=b x y) (p:a_ M (k x y)) (o:aH [] L (j x y)) (h:m.ds=[]:=by rfl):
  J c m σ' M L (oA P fn (WK c C b k j) f):=λa w s t=>by
 exact body_end i (s.defers.trans h) (q a w s t) ⟨x,y,l,by rw[u],t.weakE p o⟩
end
section
variable {P:Program} {rd:Option Nat} {c:zL} {n:Sz} {σ σ':Fr} {M L M' L':List bI} {Q:Exit->Act->World->Prop} {ops:Array Oper} {rest:List Oper} {K:Act->World->Prop} {G:Act->World->Prop}
variable {d:Option Tmp} {D:Nat} {ty:TypeId} {pos:String} {aft:Array Edge} {g:Option (Nat×Bool)}
variable {α β:Type} {e:bJ α} {r:eK α}
def IB (v:V0) (m:Nat):Prop:=match v with
 | .slice _ _ cap=>m<=cap
 |_=>False
theorem Know.cap (q:Nat) {v:V0} {xs:List α} (f:M[q]? = some (Ar e v xs)):∀c w,St c M L w->IB v xs.length:=λc w t=>by
 obtain⟨F,_,_,h⟩:=t.res f;rcases h with⟨rfl,rfl⟩|⟨b,i,cap,T,a,rfl,_,_,h,_⟩
 ·exact zAh _
 ·exact h
theorem IB.slq {v:V0} {m k q:Nat} (h:IB v m):IB (slq v 0 k q) m:=by
 cases v<;>simp_all [IB,Go.Sx.slq]
theorem Mk {b f a l k q:Nat}:slq (.slice (some ⟨b,f,none⟩) l a) 0 k q = .slice (some ⟨b,f,none⟩) k a:=by
 simp[slq,fC]
theorem WY [dV P] {T E:TypeId} {R U u V:Nat} {z W:V0} {A:TypeDesc} {x p o q:Operand} {v:V0} {i k m:Int} {y:List α} (O:ev σ x=some v) (j:ev σ p=some (.int .i64 i)) (f:ev σ o=some (.int .i64 k)) (l:ev σ q=some (.int .i64 m)) (J:aI M L (Sl r v y))
  (I:dV.tab P T=some ⟨.slice E,R,U,z⟩) (H:dV.tab P E=some ⟨A,u,V,W⟩) (h:0<=i/\i<=k/\k<=m/\m<=y.length):Y P c n σ M L ⟨d,.slice T x (some p) (some o) (some q),ty,pos,aft,g⟩
   (match v with|.slice a _ _=> .slice (if m.toNat=i.toNat then a else a.map (·.add (i.toNat*u))) (k.toNat - i.toNat) (m.toNat - i.toNat)|v=>v):=λa w s t=>by
 obtain⟨S,X,b,N,hb,_⟩:=J.st t;subst N;have B:0<=m/\m<=(b:Int):=by omega
 have C:0<=k/\k<=((m.toNat:Nat):Int):=by omega
 have F:0<=i/\i<=((k.toNat:Nat):Int):=by omega
 simp[execOp,s.eval O,s.eval j,s.eval f,s.eval l,Instr.sliceAt,Instr.slice,(dV.ok I).run_und w,Instr.sliceBounds,Instr.sliceBound,asIntOf,(dV.ok H).run_size w,B,C,F];rw[if_pos (by omega),if_pos (by omega)]
theorem Qt [dV P] (q:Nat) {T E:TypeId} {V W A X:Nat} {z z':V0} {C:TypeDesc} {x y u:Operand} {v:V0} {i k:Int} {xs:List α} (S:ev σ x=some v) (o:ev σ y=some (.int .i64 i)) (m:ev σ u=some (.int .i64 k)) (O:M[q]? = some (Ar e v xs))
  (N:dV.tab P T=some ⟨.slice E,V,W,z⟩) (J:dV.tab P E=some ⟨C,A,X,z'⟩) (j:IB v k.toNat) (h:0<=i/\i<=k):Y P c n σ M L ⟨d,.slice T x (some y) (some u) none,ty,pos,aft,g⟩ (slq v i.toNat k.toNat A):=λa w s t=>by
 obtain⟨F,_,_,R⟩:=t.res O;obtain⟨p,l,f,rfl⟩:∃p l f,v = .slice p l f:=by
  rcases R with⟨rfl,_⟩|⟨b,U,f,T',B,rfl,_⟩
  ·exact⟨_,_,_,rfl⟩
  ·exact⟨_,_,_,rfl⟩
 have hc:k.toNat<=f:=j;have H:0<=k/\k<=(f:Int):=by omega
 have I:0<=i/\i<=((k.toNat:Nat):Int):=by omega
 simp[execOp,s.eval S,s.eval o,s.eval m,Instr.sliceAt,Instr.slice,(dV.ok N).run_und w,Instr.sliceBounds,Instr.sliceBound,asIntOf,(dV.ok J).run_size w,slq,H,I];omega
theorem Nj {a:Array V0} {k:Nat} {u:V0} (f:0<a.size) (h:u∈(Builtin.zeroCells a k).toList):u∈a.toList:=by
 unfold Builtin.zeroCells at h;simp only[Array.toList_map,zB5]at h;obtain⟨i,_,rfl⟩:=h;have b:i%a.size<a.size:=Nat.mod_lt _ f;rw[getElem!_pos a (i%a.size) b];simp
theorem We (a:List V0) (b k o:Nat) (f:List V0) (i:b+k<=o) (h:o+f.length<=a.length):
  ((a.take o++f++a.drop (o+f.length)).drop b).take k=(a.drop b).take k:=by
 rw[zBa,List.drop_append_of_le_length (by simp;omega),List.drop_take,List.take_append_of_le_length (by simp;omega),List.take_take,Nat.min_eq_left (by omega)]
theorem Qa [dV P] (q:Nat) {x:Operand} {v:V0} {f:List α} {k m:Nat} {T E:TypeId} {s1 s2 S s4:Nat} {z p:V0} {dE:TypeDesc} (hx:ev σ x=some (slq v k m S)) (R:M[q]? = some (Ar e v f)) (F:k=f.length) (y:IB v m) (af:k<=m)
  (hT:dV.tab P T=some ⟨.slice E,s1,s2,z⟩) (hE:dV.tab P E=some ⟨dE,S,s4,p⟩) (h3:e.sz=S) (hz:p.cells.size=S) (ad:p.cells.toList.all one=true) (h:J c n σ M L (wpList P ops Q rest)):
  J c n σ M L (wpList P ops Q (⟨none,.call ⟨.builtin .clear,#[x],#[T]⟩,ty,pos,aft,none⟩::rest)):=λa w s t=>by
 subst h3 F;refine mQ Z ?_;have t0:=t;obtain⟨ho,FF,hO,V⟩:=t0;have hA:=hO.res q _ R;obtain⟨h0,H,hh⟩:=hA;have O:=(dV.ok hT).run_und w;rcases hh with⟨rfl,rfl⟩|⟨b,i,j,U,o,rfl,B,C,F,hc,ht⟩
 ·have hm:m=0:=by have:m<=0:=y;omega
  subst hm;have l:(execOp a.eval ⟨none,.call ⟨.builtin .clear,#[x],#[T]⟩,ty,pos,aft,none⟩).run P w = .ok (.value (.tuple #[])) w:=by
   simp[execOp,resolve,invoke,s.eval hx,builtin,Builtin.clear_,O,slq]
  simp only[Oper.wp,l,Oper.upon];exact h _ w s t
 ·have X:m<=j:=y;by_cases he:m=f.length
  ·have l:(execOp a.eval ⟨none,.call ⟨.builtin .clear,#[x],#[T]⟩,ty,pos,aft,none⟩).run P w = .ok (.value (.tuple #[])) w:=by
    subst he;by_cases W:j=f.length<;>simp[execOp,resolve,invoke,s.eval hx,builtin,Builtin.clear_,O,slq,W]
   simp only[Oper.wp,l,Oper.upon];exact h _ w s t
  ·have ag:f.length<m:=by omega
   have ab:j≠f.length:=by omega
   obtain⟨k,aa⟩:∃k,m - f.length=k+1:=⟨m - f.length - 1,by omega⟩
   have hv:slq (.slice (some ⟨b,i,none⟩) f.length j) f.length m e.sz = .slice (some ⟨b,i+f.length*e.sz,none⟩) (k+1) (j - f.length):=by
    simp[slq,ab,fC,aa]
   have ah:(Builtin.zeroCells p.cells (k+1)).toList.length=(k+1)*e.sz:=by
    have:=size_zeroCells p.cells (k+1);rw[hz]at this;simpa using this
   have A:i+f.length*e.sz+0+(Builtin.zeroCells p.cells (k+1)).toList.length<=o.size:=by
    have h1:(f.length+(k+1))*e.sz<=j*e.sz:=zAw _ (by omega);have h2:(f.length+(k+1))*e.sz=f.length*e.sz+(k+1)*e.sz:=zAz _ _ _;omega
   have ac:∀u∈(Builtin.zeroCells p.cells (k+1)).toList,u.oneCell'=true:=λu O=>by
    refine rS (zA7.1 ad u ?_);exact Nj (by rw[hz];exact e.pos) O
   have N:=run_storeCells_at P b (i+f.length*e.sz) U _ 0 o w C A ac;simp only[Nat.add_zero]at N;have ae:=(dV.ok hE).run_zero w;have l:(execOp a.eval ⟨none,.call ⟨.builtin .clear,#[x],#[T]⟩,ty,pos,aft,none⟩).run P w = .ok (.value (.tuple #[])) (w.setRow b (o.toList.take (i+f.length*e.sz)++(Builtin.zeroCells p.cells (k+1)).toList++o.toList.drop (i+f.length*e.sz+(Builtin.zeroCells p.cells (k+1)).toList.length)).toArray):=by
    simp[execOp,resolve,invoke,s.eval hx,hv,builtin,Builtin.clear_,O,ae,N]
   simp only[Oper.wp,l,Oper.upon];refine h _ _ s ?_;have I:M.set q (Ar e (.slice (some ⟨b,i,none⟩) f.length j) f)=M:=by
    have hq:q<M.length:=(List.getElem?_eq_some_iff.1 R).1;have:=(List.getElem?_eq_some_iff.1 R).2
    conv=>rhs;rw[<-List.set_getElem_self hq]
    rw[this]
   rw[<-I];refine GZ ho hO V R Z Z Z (by simp) (λk _ Y=>setRow_other w b k _ (λe=>Y (by subst e;exact B))) (F':=FF q) ?_ (λk F=> .inl F);refine⟨h0,H,.inr ⟨b,i,j,U,_,rfl,B,setRow_heap w b _ _ U _ C,F,?_,?_⟩⟩
   ·simp only[List.size_toArray,zA5,List.length_take,List.length_drop];have:o.size=o.toList.length:=by simp
    omega
   ·have:=We o.toList i (f.length*e.sz) (i+f.length*e.sz) (Builtin.zeroCells p.cells (k+1)).toList (zAh _) (by simpa using A);rw[<-ht];exact this
theorem Cu (i:Nat) {k:Int} {vs:List V0} {xss:List (List α)} (C:M[i]? = some (fQ e vs xss)) (h:0<=k/\k<xss.length):
  dZ M L (Ar e (at' vs k) (at' xss k)::M.set i (fQ e (vs.set k.toNat (.slice none 0 0)) (xss.set k.toNat []))) L:=λc w t=>by
 obtain⟨W,F,p,V⟩:=t;obtain⟨z,G,T,s,N⟩:=p.res i _ C;have O:k.toNat<vs.length:=by omega
 have R:i<M.length:=(List.getElem?_eq_some_iff.1 C).1;have A:=T k.toNat _ _ (cY h.1 (by omega)) (cY h.1 h.2);refine⟨W,λj q=>match j with|0=>G k.toNat q|j+1=>(j=i/\∃j',j'≠k.toNat/\G j' q)\/(j≠i/\F j q),⟨?_,?_,?_⟩,λf C=> ?_⟩
 ·intro j m x;cases j with
  |zero=>simp at x;subst x;exact A
  | succ j =>
   rw[List.getElem?_cons_succ]at x;by_cases J:j=i
   ·subst J;rw[zAi R]at x;cases x;refine⟨by simp[z],λj' q=>j'≠k.toNat/\G j' q,λj' v U E H=> ?_,λj' q a=> .inl ⟨rfl,j',a⟩,λS B q b l=>N _ _ q b.2 l.2⟩
    by_cases u:j'=k.toNat
    ·subst u;rw[zAi O]at E;rw[zAi (by omega)]at H;cases E;cases H;exact⟨by simp,rfl,.inl ⟨rfl,rfl⟩⟩
    ·rw[zAp (Ne.symm u)]at E H;exact bI.same (f:=Ar e v U) (T j' v U E H) (λq a=>⟨u,a⟩) (λ_ _ _=>rfl)
   ·rw[zAp (Ne.symm J)]at x;exact bI.same (p.res j m x) (λq a=> .inr ⟨J,a⟩) (λ_ _ _=>rfl)
 ·intro j q a;cases j with
  |zero=>exact p.rng i q (s _ q a)
  |succ j=>
   rcases a with⟨_,j',_,a⟩|⟨_,a⟩
   ·exact p.rng i q (s _ q a)
   ·exact p.rng j q a
 ·intro S B q b l;cases S with
  | zero =>
   cases B with
   |zero=>rfl
   |succ B=>
    rcases l with⟨_,j',o,l⟩|⟨o,l⟩
    ·exact absurd (N _ _ q l b) o
    ·exact absurd (p.dis _ _ q l (s _ q b)) o
  | succ S =>
   cases B with
   |zero=>
    rcases b with⟨_,j',o,b⟩|⟨o,b⟩
    ·exact absurd (N _ _ q b l) o
    ·exact absurd (p.dis _ _ q b (s _ q l)) o
   |succ B=>
    congr 1;rcases b with⟨I,j',_,b⟩|⟨I,b⟩<;>rcases l with⟨u,X,_,l⟩|⟨u,l⟩
    ·rw[I,u]
    ·exact absurd (p.dis _ _ q l (s _ q b)) u
    ·exact absurd (p.dis _ _ q b (s _ q l)) I
    ·exact p.dis _ _ q b l
 ·refine bI.same (V f C) (λq a=>⟨a.1,λj y=> ?_⟩) (λ_ _ _=>rfl);cases j with
  |zero=>exact a.2 i (s _ q y)
  |succ j=>
   rcases y with⟨_,j',_,y⟩|⟨_,y⟩
   ·exact a.2 i (s _ q y)
   ·exact a.2 j y
theorem Cs (i j:Nat) {u:V0} {k:Int} {vs:List V0} {xss:List (List α)} {ys:List α} (a:Nat.beq i j=false) (b:M[i]? = some (fQ e (vs.set k.toNat (.slice none 0 0)) (xss.set k.toNat []))) (f:M[j]? = some (Ar e u ys)) (h:0<=k/\k<(xss.set k.toNat []).length):
  dZ M L ((M.set i (fQ e (vs.set k.toNat u) (xss.set k.toNat ys))).eraseIdx j) L:=by
 have:=Dp (L:=L) i j a b f h;rwa[List.set_set,List.set_set]at this
theorem Ns {α:Type} [Inhabited α] (l:List α) {j k:Int} (y:α) (h:j.toNat≠k.toNat):at' (l.set j.toNat y) k=at' l k:=by
 rw[at',at',zAd,zAd,zAp h]
theorem Ky [dV P] (i:Nat) {r:eK α} (f:e.Fits r) {x y:Operand} {u o:V0} {k j:Int} {vs:List V0} {a:List (List α)} {l b:List α} {T E:TypeId} {S U m s:Nat} {z t:V0} {v:TypeDesc} (N:ev σ x=some (at' vs k)) (O:ev σ y=some u) (H:M[i]? = some (fQ e (vs.set j.toNat o) (a.set j.toNat b))) (I:aI M L (Sl r u l))
  (F:dV.tab P T=some ⟨.slice E,S,U,z⟩) (C:dV.tab P E=some ⟨v,m,s,t⟩) (A:e.sz=m) (B:Nat.ble s 1024=true) (w:0<=k/\k<a.length) (J:((at' a k).length:Int)+l.length<=1099511627) (R:t.cells.size=m) (h:j.toNat≠k.toNat):
  aQ P c n σ M L ⟨d,.call ⟨.builtin .append,#[x,y],#[T,T]⟩,ty,pos,aft,g⟩ (λp:V0=>p) (λp=>M.set i (fQ e ((vs.set j.toNat o).set k.toNat p) ((a.set j.toNat b).set k.toNat (at' a k++l)))) (λ_=>L):=by
 have q:at' (a.set j.toNat b) k=at' a k:=Ns _ _ h;have:=sN (P:=P) (c:=c) (n:=n) (σ:=σ) (M:=M) (L:=L) (d:=d) (ty:=ty) (pos:=pos) (aft:=aft) (g:=g) (x:=x) (y:=y) (u:=u) (k:=k) (vs:=vs.set j.toNat o) (xss:=a.set j.toNat b) (ys:=l) i f (by rw[Ns _ _ h];exact N) O H I F C A B (by simpa using w) (by rw[q];exact J) R;rwa[q]at this
theorem Oo (q:Nat) {vs:List V0} {a:List (List α)} {k j:Int} {u z:V0} (x:M[q]? = some (fQ e ((vs.set k.toNat u).set j.toNat z) a)) (i:k.toNat≠j.toNat) (h:0<=k/\k<a.length):∀c w,St c M L w->Go.Sx.one u=true:=λc w t=>by
 obtain⟨S,v,A,p,_⟩:=t.res x;have f:k.toNat<vs.length:=by simp at v;omega
 obtain⟨_,_,s⟩:=p k.toNat u _ (by rw[zAp (Ne.symm i),zAi f]) (zA2 (by omega));rcases s with⟨l,_⟩|⟨b,y,m,T,o,l,_⟩<;>(rw[l];rfl)
theorem tP {A:Type} {b:A->V0} {M' L':A->List bI} {f:Op} (j:aQ P c n σ M L ⟨none,f,ty,pos,aft,none⟩ b M' L') (h:∀x,J c n σ (M' x) (L' x) (wpList P ops Q rest)):
  J c n σ M L (wpList P ops Q (⟨none,f,ty,pos,aft,none⟩::rest)):=λa w s t=>
 mQ Z (Mc (oJ (λm l ⟨x,i,k⟩=>by subst i;exact h x _ l s k) (j a w s t)))
end
section
variable {P:Program} {rd:Option Nat} {c:zL} {n:Sz} {σ σ':Fr} {M L M' L':List bI} {Q:Exit->Act->World->Prop} {ops:Array Oper} {rest:List Oper} {K:Act->World->Prop} {G:Act->World->Prop}
variable {d:Option Tmp} {D:Nat} {ty:TypeId} {pos:String} {aft:Array Edge} {g:Option (Nat×Bool)}
variable {α β:Type} {e:bJ α} {r:eK α}
theorem Qg [dV P] (j:Nat) {T:TypeId} {s2:Nat} {z:V0} {dT:TypeDesc} {x y:Operand} {v u:V0} {i:Int} {m:List α} (yv:α) (hx:ev σ x=some (Fq v (i.toNat*1))) (hy:ev σ y=some u) (hu:e.enc yv=[u]) (B:one u=true)
  (X:M[j]? = some (Ar e v m)) (hT:dV.tab P T=some ⟨dT,1,s2,z⟩) (N:e.sz=1) (h0:0<=i) (W:i<m.length):
  aQ P c n σ M L ⟨none,.store T x y,ty,pos,aft,none⟩ (λ_:Unit=>undef) (λ_=>M.set j (Ar e v (m.set i.toNat yv))) (λ_=>L):=λa w s t=>by
 obtain⟨F,J⟩:=t.res X;have Y:i.toNat<m.length:=by omega
 have E:m[i.toNat]? = some m[i.toNat]:=zA2 Y;have H:m≠[]:=by intro e;subst e;simp at Y
 obtain⟨p,hp⟩:∃p,e.enc m[i.toNat]=[p]:=List.length_eq_one_iff.1 ((e.len _).trans N);have f:=Br.cell J E (j:=0) (u:=p) (by rw[hp];rfl);rw[N,Nat.add_zero,Nat.mul_one]at f;rw[Nat.mul_one]at hx;have o:=PZ J H i.toNat;have I:(execOp a.eval ⟨none,.store T x y,ty,pos,aft,none⟩).run P w = .ok .skip (w.setCell (KA v i.toNat) u):=by
  simp only[execOp,s.eval hx,s.eval hy,Fq];simp[Ih (dV.ok hT) Z B f o]
 simp only[Oper.wp,I,Oper.upon];refine⟨(),trivial,t.upd X Z Z Z (by simp[World.setCell]) λF J _=> ?_⟩
 obtain⟨hl,W,S⟩:=J;rcases S with⟨_,S⟩|⟨b,l,A,T',O,hv,C,hb,hk,hc,ht⟩
 ·exact absurd S H
 ·subst hv;have ha:KA (.slice (some ⟨b,l,none⟩) m.length A) i.toNat=⟨b,l+i.toNat,none⟩:=by simp[KA,fC]
  rw[ha];refine⟨λk _ U=>Below.heap_setCell _ _ _ _ (λe=>U (by simp only at e;subst e;exact C)),F,⟨by simpa using hl,?_,.inr ⟨b,l,A,T',O.setIfInBounds (l+i.toNat) u,by simp,C,?_,by simpa using hk,by simpa using hc,?_⟩⟩,λ_ h=> .inl h⟩
  ·rw[zQ N hu,zA7];intro q V;rcases List.mem_or_eq_of_mem_set V with R|R
   ·exact zA7.1 W q R
   ·rw[R];exact B
  ·simp[World.setCell,Array.getElem?_modify,hb]
  ·rw[zQ N hu,<-ht,Array.toList_setIfInBounds,zA1,<-take_set];congr 1;rw[List.drop_set,if_neg (by omega),Nat.add_sub_cancel_left]
theorem MR [dV P] (j q:Nat) {T:TypeId} {E:Nat} {z:V0} {m:TypeDesc} {x y:Operand} {v u:V0} {i:Int} {vs b:List V0} {f:List (List α)} (h:0<=i/\i<f.length) (B:ev σ x=some (Fq v (i.toNat*1))) (C:ev σ y=some u)
  (p:M[j]? = some (Ar bJ.raw v vs)) (A:M[q]? = some (fQ e b f)) (F:b.length=vs.length) (k:one u=true) (o:dV.tab P T=some ⟨m,1,E,z⟩):
  aQ P c n σ M L ⟨none,.store T x y,ty,pos,aft,none⟩ (λ_:Unit=>undef) (λ_=>M.set j (Ar bJ.raw v (vs.set i.toNat u))) (λ_=>L):=λa w s t=>by
 have l:b.length=f.length:=by obtain⟨_,h⟩:=t.res A;exact h.1
 exact Qg j u B C Z k p o Z h.1 (by omega) a w s t
section
variable {l:List Oper} {m:List Nat} {k0:Nat} {H Bs:List (Nat×List bI×List bI)} {rs:List Nat}
theorem Qd {A:Type} {j:A->V0} {M' L':A->List bI} {i:Nat} {b:Op}
  (o:l[i]? = some ⟨none,b,ty,pos,aft,none⟩) (v:Nat.blt i k0=true) (y:fR b=true) (z:aQ P c n σ M L ⟨none,b,ty,pos,aft,none⟩ j M' L')
  (q:∀x,vV (before m i) (M' x) (L' x) Bs) (h:∀x,JR c n σ (M' x) (L' x) ((i,M,L)::H) Bs (RW P l.toArray Q (before m) (eJ l) k0 rs)):
  JR c n σ M L H Bs (RW P l.toArray Q (before m) (eJ l) k0 (i::rs)):=λa w X Y s t u k=>by
 have f:l.toArray[i]? = some ⟨none,b,ty,pos,aft,none⟩:=by simpa using o
 simp only[RW,f];rw[if_pos (by simp[Region.wanted])];refine .inr (.inr ⟨by simpa [zAv]using v,by simp[eJ,o,y],oJ ?_ (z a w s t)⟩);rintro C B ⟨x,rfl,p⟩;exact⟨(q x).use p k,h x _ B _ Y s p ⟨rfl,t,u⟩ k⟩
end
theorem Jw {A B:Type} {f:FuncId} {j:Func} {b:Code} {k:List V0} {m:Nat} {q:Op} (C:A->Prop) (i:A->B->V0) (o l:A->B->List bI) (E:pJ P c n σ M L ⟨d,q,ty,pos,aft,g⟩ f k) (F:P.funcs[f]? = some j) (z:j.body=some b) (I:j.ntmps=m) (H:Nat.ble k.length m=true)
  (u:J c ⟨m,[]⟩ (Dr 0 k) M L (b.wpr none P (oA P j (WK c C i o l)))):
  aQ P c n σ M L ⟨d,q,ty,pos,aft,g⟩ (λx:{p:A×B // C p.1}=>i x.1.1 x.1.2) (λx=>o x.1.1 x.1.2) (λx=>l x.1.1 x.1.2):=λa w s t=>by
 have h:=E.run a w s t;simp only[Oper.wp,h,Oper.upon];refine(zP F z (u _ w (SP I H) t)).mono ?_;rintro e O ⟨x,y,v,rfl,N⟩;exact⟨⟨(x,y),v⟩,rfl,N⟩
theorem Bu {A B:Type} {f:FuncId} {j:Func} {h:Code} {vs:List V0} {m:Nat} {o:Op} (C:A->Prop) (i:A->B->V0) (l k:A->B->List bI) (v:pJ P c n σ M L ⟨some D,o,ty,pos,aft,none⟩ f vs) (w:P.funcs[f]? = some j) (u:j.body=some h) (y:j.ntmps=m) (x:Nat.ble vs.length m=true) (t:Nat.blt D n.sz=true)
  (p:J c ⟨m,[]⟩ (Dr 0 vs) M L (h.wpr none P (oA P j (WK c C i l k)))) (q:∀a b,C a->J c n ((D,i a b)::σ) (l a b) (k a b) (wpList P ops Q rest)):J c n σ M L (wpList P ops Q (⟨some D,o,ty,pos,aft,none⟩::rest)):=
 aJ (Jw C i l k v w u y x p) t fun⟨⟨a,b⟩,s⟩=>q a b s
theorem ZG {A B:Type} {f:FuncId} {k:Func} {h:Code} {vs:List V0} {m:Nat} {q:Op} {j:Nat} {p:Bool} (C:A->Prop) (i:A->B->V0) (o l:A->B->List bI) (z:gv ops σ j=some p) (x:pJ P c n σ M L ⟨some D,q,ty,pos,aft,some (j,p)⟩ f vs) (y:P.funcs[f]? = some k) (w:k.body=some h) (F:k.ntmps=m) (E:Nat.ble vs.length m=true) (v:Nat.blt D n.sz=true)
  (s:J c ⟨m,[]⟩ (Dr 0 vs) M L (h.wpr none P (oA P k (WK c C i o l)))) (t:∀a b,C a->J c n ((D,i a b)::σ) (o a b) (l a b) (wpList P ops Q rest)):J c n σ M L (wpList P ops Q (⟨some D,q,ty,pos,aft,some (j,p)⟩::rest)):=
 oU z (Jw C i o l x y w F E s) v fun⟨⟨a,b⟩,u⟩=>t a b u
section
variable {l:List Oper} {mm:List Nat} {k0:Nat} {H Bs:List (Nat×List bI×List bI)} {rs:List Nat}
theorem Fe {A B:Type} {i:Nat} {f:FuncId} {p:Func} {h:Code} {vs:List V0} {m:Nat} {q:Op} (C:A->Prop) (j:A->B->V0) (o k:A->B->List bI) (E:l[i]? = some ⟨some D,q,ty,pos,aft,none⟩) (F:Nat.blt i k0=true) (I:fR q=true) (y:pJ P c n σ M L ⟨some D,q,ty,pos,aft,none⟩ f vs) (z:P.funcs[f]? = some p) (x:p.body=some h) (O:p.ntmps=m) (N:Nat.ble vs.length m=true) (w:Nat.blt D n.sz=true)
  (u:∀a b,vV (before mm i) (o a b) (k a b) Bs) (s:J c ⟨m,[]⟩ (Dr 0 vs) M L (h.wpr none P (oA P p (WK c C j o k)))) (t:∀a b,C a->JR c n ((D,j a b)::σ) (o a b) (k a b) ((i,M,L)::H) Bs (RW P l.toArray Q (before mm) (eJ l) k0 rs)):
  JR c n σ M L H Bs (RW P l.toArray Q (before mm) (eJ l) k0 (i::rs)):=
 zBd E F I (Jw C j o k y z x O N s) w (λ_=>u _ _) fun⟨⟨a,b⟩,v⟩=>t a b v
end
theorem Ha [dV P] {T E:TypeId} {k q u b A:Nat} {z B:V0} {f:TypeDesc} {x y:Operand} {v:V0} {o:Nat} {i:Int} (m:ev σ x=some (Fq v o)) (p:ev σ y=some (.int .i64 i))
  (l:dV.tab P T=some ⟨.array k E,q,u,z⟩) (j:dV.tab P E=some ⟨f,b,A,B⟩) (_h3:(b==0)=false) (h:0<=i/\i<(k:Int)):
  Y P c n σ M L ⟨d,.indexAddr T x y,ty,pos,aft,g⟩ (Fq v (o+i.toNat*b)):=λa w s t=>by
 simp[execOp,s.eval m,s.eval p,Instr.indexAt,asIntOf,(dV.ok l).run_und w,h,Instr.sureAddr,Fq,(dV.ok j).run_size w,KV]
theorem bU {x:Operand} {b o:Nat} (f:ev σ x=some (.pointer (some ⟨b,o,none⟩))):Y P c n σ M L ⟨d,.nilCheck x,ty,pos,aft,g⟩ (.pointer (some ⟨b,o,none⟩)):=λa w s t=>by
 simp[execOp,s.eval f]
theorem lQ [dV P] [Inhabited α] (j:Nat) {T:TypeId} {s2 k o q:Nat} {z:V0} {dT:TypeDesc} {x y:Operand} {v u:V0} {us:List V0} {i:Int} {p:List α} (J:α) (h:0<=i/\i<p.length) (hx:ev σ x=some (Fq v (i.toNat*q+o))) (hy:ev σ y=some u)
  (hf:M[j]? = some (Ar e v p)) (hq:e.sz=q) (U:u.cells=us.toArray) (hk:us.length=k) (ho:Nat.ble (o+k) q=true) (I:e.enc J=(e.enc (at' p i)).take o++us++(e.enc (at' p i)).drop (o+k)) (W:us.all one=true) (hT:dV.tab P T=some ⟨dT,k,s2,z⟩):
  aQ P c n σ M L ⟨none,.store T x y,ty,pos,aft,none⟩ (λ_:Unit=>undef) (λ_=>M.set j (Ar e v (p.set i.toNat J))) (λ_=>L):=λa w s t=>by
 subst hq hk;have aq:o+us.length<=e.sz:=by simpa using ho
 have hi:i.toNat<p.length:=by omega
 have t0:=t;obtain⟨aj,FF,hO,af⟩:=t0;obtain⟨h0,A,hh⟩:=hO.res j _ hf;rcases hh with⟨_,rfl⟩|⟨b,m,V,T',f,rfl,X,Y,aa,hc,ht⟩
 ·simp at hi
 -- the parts of the row
 obtain⟨l,B,C,H,hl⟩:∃l B C,p=l++B::C/\l.length=i.toNat:=⟨p.take i.toNat,p[i.toNat],p.drop (i.toNat+1),by rw[List.getElem_cons_drop,zB7],by simp;omega⟩
 have ah:at' p i=B:=by
  rw[at',zAd,<-hl,H,zAb (zAh _)];simp
 rw[ah]at I;have eE:=e.len B;have eA:(cellsOf e l).length=i.toNat*e.sz:=by rw[fK,hl]
 have E:cellsOf e p=cellsOf e l++(e.enc B++cellsOf e C):=by rw[H];simp[cellsOf]
 have S:cellsOf e (p.set i.toNat J)=cellsOf e l++(e.enc J++cellsOf e C):=by
  have:p.set i.toNat J=l++J::C:=by rw[H,<-hl,List.set_append_right _ _ (zAh _)];simp
  rw[this];simp[cellsOf]
 have ao:p.length*e.sz<=V*e.sz:=zAw _ aa;obtain⟨N,R,O,hH⟩:∃N R,f.toList=N++(cellsOf e l++(e.enc B++(cellsOf e C++R)))/\N.length=m:=by
  refine⟨f.toList.take m,(f.toList.drop m).drop (p.length*e.sz),?_,by simp;omega⟩
  have e1:cellsOf e l++(e.enc B++(cellsOf e C++(f.toList.drop m).drop (p.length*e.sz)))=f.toList.drop m:=by
   have:cellsOf e l++(e.enc B++(cellsOf e C++(f.toList.drop m).drop (p.length*e.sz)))=cellsOf e p++(f.toList.drop m).drop (p.length*e.sz):=by rw[E];simp
   rw[this,<-ht,zB7]
  rw[e1,zB7]
 have am:f.size=f.toList.length:=by simp
 have ak:f.toList.take (m+(i.toNat*e.sz+o))=N++(cellsOf e l++(e.enc B).take o):=by
  have:f.toList=(N++(cellsOf e l++(e.enc B).take o))++((e.enc B).drop o++(cellsOf e C++R)):=by
   rw[O,zBa,zBa,<-zBa ((e.enc B).take o),zB7]
  rw[this];exact List.take_left' (by simp[hH,eA,eE];omega)
 have al:f.toList.drop (m+(i.toNat*e.sz+o)+us.length)=(e.enc B).drop (o+us.length)++(cellsOf e C++R):=by
  have:f.toList=(N++(cellsOf e l++(e.enc B).take (o+us.length)))++((e.enc B).drop (o+us.length)++(cellsOf e C++R)):=by
   rw[O,zBa,zBa,<-zBa ((e.enc B).take (o+us.length)),zB7]
  rw[this];exact List.drop_left' (by simp[hH,eA,eE];omega)
 have ae:(i.toNat+1)*e.sz<=p.length*e.sz:=zAw _ (by omega);have ap:(i.toNat+1)*e.sz=i.toNat*e.sz+e.sz:=by rw[zAz,Nat.one_mul]
 have ab:m+(i.toNat*e.sz+o)+0+us.length<=f.size:=by omega
 have ad:=run_storeCells_at P b (m+(i.toNat*e.sz+o)) T' us 0 f w Y ab (λu U=>rS (zA7.1 W u U));simp only[Nat.add_zero]at ad;have ar:(dV.ok hT).run_size w=(dV.ok hT).run_size w:=rfl;have ac:(execOp a.eval ⟨none,.store T x y,ty,pos,aft,none⟩).run P w = .ok .skip (w.setRow b (f.toList.take (m+(i.toNat*e.sz+o))++us++f.toList.drop (m+(i.toNat*e.sz+o)+us.length)).toArray):=by
  simp[execOp,s.eval hx,s.eval hy,Fq,KA,Instr.storeAt,Instr.sureAddr,storeVar,U,(dV.ok hT).run_size w,fC,ad]
 simp only[Oper.wp,ac,Oper.upon];refine⟨(),trivial,?_⟩
 refine GZ aj hO af hf Z Z Z (by simp) (λk _ ai=>setRow_other w b k _ (λe=>ai (by subst e;exact X))) (F':=FF j) ?_ (λk hk=> .inl hk);have F:(e.enc J).length=e.sz:=e.len J;refine⟨by simpa using h0,?_,.inr ⟨b,m,V,T',_,by simp,X,setRow_heap w b _ _ T' _ Y,by simpa using aa,?_,?_⟩⟩
 ·rw[S];rw[E]at A;simp only[List.all_append,zA6]at A ⊢;refine⟨A.1,?_,A.2.2⟩
  rw[I];simp only[List.all_append,zA6];refine⟨⟨zA7.2 λu U=>zA7.1 A.2.1 u (List.mem_of_mem_take U),W⟩,zA7.2 λu U=>zA7.1 A.2.1 u (List.mem_of_mem_drop U)⟩
 ·simp only[List.size_toArray,zA5,List.length_take,List.length_drop];omega
 ·show((f.toList.take _++us++f.toList.drop _).drop m).take ((p.set i.toNat J).length*e.sz)=_;rw[ak,al,S,I,zA1];have e3:(N++(cellsOf e l++(e.enc B).take o)++us++((e.enc B).drop (o+us.length)++(cellsOf e C++R)))=N++((cellsOf e l++(((e.enc B).take o++us++(e.enc B).drop (o+us.length))++cellsOf e C))++R):=by simp
  rw[e3,<-hH,List.drop_left];refine List.take_left' ?_;have ag:(cellsOf e C).length=C.length*e.sz:=fK e C;have an:p.length=i.toNat+1+C.length:=by rw[H,<-hl];simp;omega
  rw[I]at F;rw[zA5,zA5,F,eA,ag,an,zAz,zAz,Nat.one_mul];omega
end
end Go.Sx
namespace Go.Sx
section
variable {P:Program} {M L:List bI} {α β γ:Type} {r:eK α} {s:eK γ} {q:eK β}
def eK.Deep (r:eK α) (q:eK β) (f:α->V0×List β):Prop:=∀{w S es x},r.R w S es x->Gd q w S (f x).1 (f x).2
theorem Gh (q:eK β):(eK.sl q).Deep q (λx=>x):=λh=>h.2
theorem Vk {f:α->V0×List β} (h:r.Deep q f):(r.pair s).Deep q (λx=>f x.1):=by
 rintro w S d x ⟨b,c,rfl,a,_⟩;exact h a
theorem GY {f:α->V0×List β} (h:r.Deep q f):(s.pair r).Deep q (λx=>f x.2):=by
 rintro w S d x ⟨b,c,rfl,_,a⟩;exact h a
theorem kA [Inhabited α] {v:V0} {a:List α} {i:Int} {f:α->V0×List β} (h:aI M L (Sl r v a)) (d:r.Deep q f) (b:0<=i) (c:i<a.length):aI M L (Sl q (f (at' a i)).1 (f (at' a i)).2):=h.mono λ{w U} hs=>by
 obtain⟨g,e,_⟩:=sl_cell hs (cY b c);exact d e
theorem Sr [dV P] {c:zL} {n:Sz} {j:Fr} {d:Option Tmp} {F:TypeId} {i:String} {e:Array Edge} {g:Option (Nat×Bool)} {T E:TypeId} {A B C D m b:Nat} {z G:V0} {o:TypeDesc} {x l:Operand} {k:Int} (y:ev j x=some (.pointer (some ⟨b,0,none⟩))) (f:ev j l=some (.int .i64 k))
  (v:dV.tab P T=some ⟨.array m E,A,B,z⟩) (u:dV.tab P E=some ⟨o,C,D,G⟩) {q:Int} (h:0<=k/\k<=((m:Nat):Int)/\k<=q):Y P c n j M L ⟨d,.slice T x none (some l) none,F,i,e,g⟩ (.slice (some ⟨b,0,none⟩) k.toNat m):=λa w s t=>by
 have p:0<=k/\k<=(m:Int):=⟨h.1,h.2.1⟩
 simp[execOp,s.eval y,s.eval f,Instr.sliceAt,Instr.slice,(dV.ok v).run_und w,Instr.sliceBounds,Instr.sliceBound,asIntOf,(dV.ok u).run_size w,p,asAddr,Addr.add,Instr.sureAddr]
theorem WG {e:bJ α} {i b T m:Nat} {k:Int} {a:List α} (t:M[i]? = some (bM b (cellsOf e a) T)) (c:e.Fits r) (h:0<=k/\k<=((m:Nat):Int)/\k<=(a.length:Int)) (p:m<=9223372036854775807):aI M L (Sl r (.slice (some ⟨b,0,none⟩) k.toNat m) (a.take k.toNat)):=λw S T U B f C v=>by
 have n:=f i _ t;have o:(a.take k.toNat).length=k.toNat:=by simp;omega
 refine⟨some ⟨b,0,none⟩,m,by rw[o],by rw[o];omega,.inr ⟨b,0,rfl,v _ _ n.1,λj x d=> ?_⟩⟩
 have l:a[j]? = some x:=by
  rw[zAq]at d;split at d
  ·exact d
  ·cases d
 obtain⟨g,D,z,_⟩:=c;refine⟨e.enc x,λq u A=> ?_,z⟩
 have y:=DX e a _ _ l _ _ A;rw[g,Nat.zero_add];exact bM.cell n y
def eK.All (r:eK α) (n:Nat) (g:α->List V0):Prop:=r.sz=n/\∀{w S es x},r.R w S es x->es=g x
theorem Sk {e:bJ α} (h:e.Fits r):r.All e.sz e.enc:=⟨h.1,h.2.1⟩
theorem Sm (q:eK β):(eK.sl q).All 1 (λx=>[x.1]):=⟨rfl,λh=>h.1⟩
theorem Ov {n m:Nat} {f:α->List V0} {g:γ->List V0} (h:r.All n f) (k:s.All m g):(r.pair s).All (n+m) (λx=>f x.1++g x.2):=⟨by show r.sz+s.sz=_;rw[h.1,k.1],by
 rintro w S e x ⟨c,d,rfl,a,b⟩;rw[h.2 a,k.2 b]⟩
theorem Sq [dV P] [Inhabited α] {c:zL} {n:Sz} {B:Fr} {d:Option Tmp} {O:TypeId} {o:String} {k:Array Edge} {g:Option (Nat×Bool)} {T:TypeId} {N q m:Nat} {z:V0} {p:TypeDesc} {x:Operand} {v:V0} {i:Int} {e:List α} {cs:List V0} {f:α->List V0} (K:ev B x=some (Fq v (i.toNat*q))) (G:aI M L (Sl r v e)) (y:r.All m f) (l:f (at' e i)=cs)
  (E:dV.tab P T=some ⟨p,cs.length,N,z⟩) (F:BB p=true) (H:m=q) (h:0<=i/\i<e.length):Y P c n B M L ⟨d,.load T x,O,o,k,g⟩ (.agg cs.toArray):=λa w s t=>by
 obtain⟨C,D⟩:=h;obtain⟨S,h⟩:=G.st t;obtain⟨Q,I,b⟩:=sl_cell h (cY C D);have:=y.2 I;subst this l;rw[y.1,H]at b;have:=CC (w:=w) (A:=KA v (i.toNat*q)) (cs:=f (at' e i)) (dV.ok E) F Z (λj u J=>by rw[KV];exact b j u J);simp[execOp,s.eval K,Fq,this]
end
end Go.Sx
namespace Go.Sx
open Go.RowKit
section
variable {P:Program} {c:zL} {n:Sz} {σ:Fr} {M L:List bI} {d:Option Tmp} {ty:TypeId} {pos:String} {aft:Array Edge} {g:Option (Nat×Bool)}
def acE (v:V0) (m:Nat):Prop:=∃a e,v = .slice a m e/\(m=0\/∃b f,a=some ⟨b,f,none⟩)
theorem Know.len {f:Type} {r:eK f} {v:V0} {xs:List f} (j:aI M L (Sl r v xs)):∀c w,St c M L w->acE v xs.length:=λc w t=>by
 obtain⟨S,i,cap,k,_,h⟩:=j.st t;exact⟨i,cap,k,h.imp (λh=>by simp[h]) fun⟨b,a,e,_⟩=>⟨b,a,e⟩⟩
theorem cO [dV P] {T E:TypeId} {B C k D m:Nat} {z F:V0} {o:TypeDesc} {x y:Operand} {v:V0} {i:Int} (u:ev σ x=some v) (A:ev σ y=some (.int .i64 i)) (f:acE v m)
  (s:dV.tab P T=some ⟨.slice E,B,C,z⟩) (r:dV.tab P E=some ⟨o,k,D,F⟩) (h:0<=i/\i<(m:Int)):Y P c n σ M L ⟨d,.indexAddr T x y,ty,pos,aft,g⟩ (Fq v (i.toNat*k)):=λa w l t=>by
 obtain⟨G,e,rfl,f⟩:=f;obtain⟨p,q⟩:=h;rcases f with rfl|⟨b,j,rfl⟩
 ·omega
 ·simp[execOp,l.eval u,l.eval A,JP w (dV.ok s) Z (dV.ok r) b j _ e i p q]
theorem Lv [dV P] (i:Nat) {T k:TypeId} {B m o b:Nat} {z:V0} {h:TypeDesc} {x:Operand} {cs us:List V0} (y:ev σ x=some (.pointer (some ⟨b,o,none⟩))) (p:M[i]? = some (bM b cs k)) (q:dV.tab P T=some ⟨h,m,B,z⟩) (r:BB h=true)
  (f:(cs.drop o).take m=us) (v:us.length=m):Y P c n σ M L ⟨d,.load T x,ty,pos,aft,g⟩ (.agg us.toArray):=λa w s t=>by
 subst v;obtain⟨F,l⟩:=t.res p;have:=CC (w:=w) (A:=⟨b,o,none⟩) (cs:=us) (dV.ok q) r Z (λj u e=>by
  have:cs[o+j]? = some u:=by
   rw[<-f,zAq]at e;split at e
   ·rwa[zAr]at e
   ·cases e
  rw[fC];exact bM.cell l this)
 simp[execOp,s.eval y,this]
theorem FJ {a:Type} [Inhabited a] (l:List a) (k:Int) (h:k.toNat<l.length) (b:0<=k):l.set k.toNat (at' l k)=l:=by
 have:=cY (xs:=l) b (by omega);refine List.ext_getElem? λi=> ?_;by_cases e:k.toNat=i
 ·subst e;rw[zAi h,this]
 ·rw[zAp e]
theorem zM [dV P] {l:Type} [Inhabited l] {e:bJ l} (j:Nat) {T:TypeId} {Q m o q:Nat} {z:V0} {C:TypeDesc} {x y:Operand} {u:V0} {us:List V0} {i k:Int} {vs:List V0} {b:List (List l)} (f:l) (A:0<=k/\k<b.length) (h:0<=i/\i<(at' b k).length) (N:ev σ x=some (Fq (at' vs k) (i.toNat*q+o))) (O:ev σ y=some u)
  (v:M[j]? = some (fQ e vs b)) (I:e.sz=q) (K:u.cells=us.toArray) (G:us.length=m) (H:Nat.ble (o+m) q=true) (B:e.enc f=(e.enc (at' (at' b k) i)).take o++us++(e.enc (at' (at' b k) i)).drop (o+m)) (p:us.all one=true) (D:dV.tab P T=some ⟨C,m,Q,z⟩):
  aQ P c n σ M L ⟨none,.store T x y,ty,pos,aft,none⟩ (λ_:Unit=>undef) (λ_=>M.set j (fQ e vs (b.set k.toNat ((at' b k).set i.toNat f)))) (λ_=>L):=λa w s t=>by
 have U:=dQ j v c w t;have F:j<M.length:=(List.getElem?_eq_some_iff.1 v).1;refine oJ (λS R ⟨x,E,J⟩=>⟨x,E,?_⟩) (lQ 0 f h N O Z I K G H B p D a w s (Cu j v A c w t));have r:=Cs (j+1) 0 (u:=at' vs k) (k:=k) (vs:=vs) (xss:=b) (ys:=(at' b k).set i.toNat f) (e:=e) Z (by simp[F]) Z (by simpa using A) c R J;simp only[List.set_cons_zero,List.set_cons_succ,List.eraseIdx_cons_zero,List.set_set]at r;rw[FJ vs k (by omega) A.1]at r;exact r
end
theorem a_.ix {M a:List bI} (l:List Nat) (c:decide l.Nodup=true) (h:l.map (λi=>M[i]?)=a.map some):a_ M a:=by
 have c:l.Nodup:=zAx c;have k:l.length=a.length:=by simpa using congrArg List.length h
 refine⟨λi=>l.getD i 0,λi j b n e=> ?_,λi m d=> ?_⟩
 ·have f:i<l.length:=by omega
  have g:j<l.length:=by omega
  simp only[zAd,zA2 f,zA2 g,Option.getD_some]at e;exact(List.getElem_inj c).1 e
 ·have b:i<l.length:=by rw[k];exact(List.getElem?_eq_some_iff.1 d).1
  have:=congrArg (λq=>q[i]?) h;simp only[List.getElem?_map,zA2 b,d,Option.map_some,Option.some.injEq]at this;simpa [zAd,zA2 b]using this
def bJ.fn:bJ Nat:=⟨1,Nat.one_pos,λf=>[.func (.func f) #[] #[]],λ_=>rfl⟩
def eK.fn:eK Nat:=⟨1,Nat.one_pos,λ_ _ cs x=>cs=[.func (.func x) #[] #[]],λh=>by simp[h],λh _=>h⟩
theorem P_:bJ.fn.Fits eK.fn:=⟨rfl,λh=>h,rfl,λ_=>rfl⟩
section
variable {P:Program} {rd:Option Nat} {c:zL} {n:Sz} {σ:Fr} {M L:List bI} {Q:Exit->Act->World->Prop} {ops:Array Oper} {rest:List Oper} {d:Nat} {ty:TypeId} {pos:String} {aft:Array Edge} {x y:Operand} {v:V0} {K:Act->World->Prop}
abbrev vS (x:ByteArray):V0:= .string x
abbrev vB (x:Bool):V0:= .bool x
theorem cQ {a:Type} {p G:Prop} {_:Decidable p} {u:Option a} {r:a} (h:ck p u=some r) (k:p->u=some r->G):G:=k (Uh h).1 (Uh h).2
theorem eI {a b:Type} {G:Prop} {u:Option a} {f:a->Option b} {r:b} (h:u.bind f=some r) (k:∀y,u=some y->f y=some r->G):G:=by
  obtain⟨y,e,g⟩:=bnd h;exact k y e g
theorem iB (l:List Nat) {a:List bI} (h:l.map (L[·]?)=a.map some):aH M L a:=λf b=>by
  have g:some f∈l.map (L[·]?):=h▸List.mem_map_of_mem b;obtain⟨j,_,e⟩:=zB5.1 g;exact aI.fact j e
theorem gQ.ix (l:List Nat) {a:List bI} (h:l.map (L[·]?)=a.map some):gQ L a:=λf b=>by
  have g:some f∈l.map (L[·]?):=h▸List.mem_map_of_mem b;obtain⟨j,_,e⟩:=zB5.1 g;exact zA0 e
theorem eV {f:bI} (i:Nat) (h:L[i]? = some f):gQ L [f]:=gQ.cons (zA0 h) gQ.nil
/-- which of the early loads must still hold,with the numbers of what they have read -/
def bsW (A:Nat->Bool):List (List Nat×List Nat)->List (Nat×List bI×List bI)->List (List Nat×List Nat×List bI×List bI)
  |_,[]=>[]
  |q,(j,Mx,Lx)::B=>bif A j||(Mx.isEmpty&&Lx.isEmpty)then bsW A q B else((q.headD ([],[])).1,(q.headD ([],[])).2,Mx,Lx)::bsW A q.tail B
theorem nK {A:Nat->Bool} (q:List (List Nat×List Nat)) {B:List (Nat×List bI×List bI)} (h:(bsW A q B).map (λz=>(decide z.1.Nodup,z.1.map (M[·]?),z.2.1.map (L[·]?)))=(bsW A q B).map (λz=>(true,z.2.2.1.map some,z.2.2.2.map some))):vV A M L B:=by
  induction B generalizing q with
  |nil=>exact vV.z
  | cons b B ih =>
    obtain⟨j,k,i⟩:=b;cases a:A j with
    |true=>exact vV.b a (ih q (by simpa [bsW,a]using h))
    | false =>
      cases g:(k.isEmpty&&i.isEmpty)with
      | true =>
        obtain⟨e,f⟩:=Bool.and_eq_true_iff.1 g;rw[List.isEmpty_iff]at e f;subst e;subst f;exact vV.h a_.nil gQ.nil (ih q (by simpa [bsW,a]using h))
      | false =>
        simp only[bsW,a,g,Bool.or_self,cond_false,List.map_cons,List.cons.injEq,Prod.mk.injEq]at h;exact vV.h (a_.ix _ h.1.1 h.1.2.1) (gQ.ix _ h.1.2.2) (ih q.tail h.2)
def hkB (A:Nat->Bool):List (Nat×List bI×List bI)->Bool
  | []=>true
  |(j,_,_)::H=>bif A j then hkB A H else false
theorem uR {A:Nat->Bool} {f e:List bI} {H:List (Nat×List bI×List bI)} (h:hkB A H=true):aL A f e H:=by
  induction H with
  |nil=>exact aL.z
  | cons b B ih =>
    obtain⟨j,_,_⟩:=b;cases a:A j with
    |false=>simp[hkB,a]at h
    |true=>exact aL.b a (ih (by simpa [hkB,a]using h))
theorem hkN {A:Nat->Bool} {H:List (Nat×List bI×List bI)}:aL A [] [] H:=by
  induction H with
  |nil=>exact aL.z
  |cons b B a=>exact aL.h a_.nil gQ.nil a
theorem d_ {T:Operand} (h:(ev σ T,ev σ x,Nat.blt d n.sz)=(some (.bool true),some v,true)) (k:J c n ((d,v)::σ) M L (wpList P ops Q rest)):J c n σ M L (wpList P ops Q (⟨some d,.pick T x y,ty,pos,aft,none⟩::rest)):=by
  simp only[Prod.mk.injEq]at h;exact aB (BP h.1 h.2.1) h.2.2 k
theorem eR {T:Operand} (h:(ev σ T,ev σ y,Nat.blt d n.sz)=(some (.bool false),some v,true)) (k:J c n ((d,v)::σ) M L (wpList P ops Q rest)):J c n σ M L (wpList P ops Q (⟨some d,.pick T x y,ty,pos,aft,none⟩::rest)):=by
  simp only[Prod.mk.injEq]at h;exact aB (rY h.1 h.2.1) h.2.2 k
theorem iN {vs:List V0} {i:Nat} (h:(ev σ x,vs[i]?,Nat.blt d n.sz)=(some (.tuple vs.toArray),some v,true)) (k:J c n ((d,v)::σ) M L (wpList P ops Q rest)):J c n σ M L (wpList P ops Q (⟨some d,.extract x i,ty,pos,aft,none⟩::rest)):=by
  simp only[Prod.mk.injEq]at h;exact aB (vY h.1 h.2.1) h.2.2 k
theorem lB {t a:TypeId} {i:IntKind} {p q:Int} (h:(ev σ x,ev σ y,Nat.blt d n.sz)=(some (.int i p),some (.int i q),true)) (k:J c n ((d,.bool (decide (p≠q)))::σ) M L (wpList P ops Q rest)):J c n σ M L (wpList P ops Q (⟨some d,.binOp .neq t x y a,ty,pos,aft,none⟩::rest)):=by
  simp only[Prod.mk.injEq]at h;exact aB (Bg h.1 h.2.1) h.2.2 k
theorem iL [dV P] {b:Type} {r:eK b} {T E:TypeId} {f g:Nat} {z:V0} {a:List b} (e:aI M L (Sl r v a)) (h:(ev σ x,dV.tab P T,Nat.blt d n.sz)=(some v,some ⟨.slice E,f,g,z⟩,true)) (k:J c n ((d,.int .i64 a.length)::σ) M L (wpList P ops Q rest)):J c n σ M L (wpList P ops Q (⟨some d,.call ⟨.builtin .len,#[x],#[T]⟩,ty,pos,aft,none⟩::rest)):=by
  simp only[Prod.mk.injEq]at h;exact aB (fH h.1 e h.2.1) h.2.2 k
theorem tM {a b:Type} {r:eK a} {e:a->b} {v:V0} {g:List a} {f:List b} (h:aI M L (Sn r e v g f)):∀c w,St c M L w->one v=true:=Know.one (aI.sl h)
variable {l:List Oper} {m:List Nat} {k0:Nat} {H Bs:List (Nat×List bI×List bI)} {rs:List Nat}
theorem rP {id:Nat} {r:List Nat} (m:List Nat) (k0:Nat) (f:P.follows .mixedOrders=true) (h:JR c n σ M L [] [] (RW P l.toArray Q (before m) (eJ l) k0 r)) (a:chk l m k0=true:=by decide +kernel) (e:List.range l.length=r:=by exact rfl) (b:l.all kM=true:=by rfl):J c n σ M L ((Code.region id l.toArray true).wpr rd P Q):=JR.start m k0 f a (JR.open e h) b
theorem eN {i a:Nat} {b:Op} (f:l[i]? = some ⟨some a,b,ty,pos,aft,none⟩) (k:Y P c n σ [] [] ⟨some a,b,ty,pos,aft,none⟩ v)
    (h:JR c n ((a,v)::σ) M L H ((i,[],[])::Bs) (RW P l.toArray Q (before m) (eJ l) k0 rs))
    (g:Nat.blt i k0=true:=by exact rfl) (j:fR b=false:=by exact rfl) (e:Nat.blt a n.sz=true:=by exact rfl):JR c n σ M L H Bs (RW P l.toArray Q (before m) (eJ l) k0 (i::rs)):=bA f a_.nil gQ.nil k hkN h g j e
theorem b_ {f:bI} (h:L[0]? =some f):aI M L f:=aI.fact 0 h
theorem mR {f:bI} (h:L[1]? =some f):aI M L f:=aI.fact 1 h
theorem zI {f:bI} (h:L[2]? =some f):aI M L f:=aI.fact 2 h
theorem Bh {f:bI} (h:L[3]? =some f):aI M L f:=aI.fact 3 h
theorem CL {f:bI} (h:L[4]? =some f):aI M L f:=aI.fact 4 h
theorem zJ {f:bI} (h:L[5]? =some f):aI M L f:=aI.fact 5 h
theorem Fy {f:bI} (h:L[6]? =some f):aI M L f:=aI.fact 6 h
theorem z_ {f:bI} (h:L[7]? =some f):aI M L f:=aI.fact 7 h
theorem QI {f:bI} (h:L[8]? =some f):aI M L f:=aI.fact 8 h
theorem Ir {f:bI} (h:L[9]? =some f):aI M L f:=aI.fact 9 h
theorem Gw {f:bI} (h:L[10]? =some f):aI M L f:=aI.fact 10 h
theorem yT {f:bI} (h:L[11]? =some f):aI M L f:=aI.fact 11 h
theorem Da {f:bI} (h:L[12]? =some f):aI M L f:=aI.fact 12 h
end
end Go.Sx
namespace Go.Sx
abbrev bT:=List Int
abbrev fI:=List (Int×Int)
abbrev bQ:=List bT
abbrev iI:=List fI
abbrev fE:=ByteArray×(List (ByteArray×Int×Int×Int×Int×Int))×(List (ByteArray×(V0×fI)×(V0×List (Int×(V0×fI)))))
abbrev gX:=bQ×List bQ×List (List bQ)
abbrev kW:=((bQ×List bQ×List (List bQ))×Int)
abbrev Wg:=(ByteArray×(List (ByteArray×Int×Int×Int×Int×Int))×(List (ByteArray×(V0×fI)×(V0×List (Int×(V0×fI))))))×((ByteArray×(List (ByteArray×Int×Int×Int×Int×Int))×(List (ByteArray×(V0×fI)×(V0×List (Int×(V0×fI))))))×(bT×iI)×Int×bQ)×iI
abbrev PW:=((ByteArray×(List (ByteArray×Int×Int×Int×Int×Int))×(List (ByteArray×(V0×fI)×(V0×List (Int×(V0×fI))))))×(bT×iI)×Int×bQ)×bQ×Int×fI
abbrev cJ:=bT×iI
abbrev EZ:=(iI×Int×bQ×bQ×List bQ×List (List bQ))
abbrev kX:=List (V0×fI)
abbrev Wh:=(ByteArray×(List (ByteArray×Int×Int×Int×Int×Int))×(List (ByteArray×(V0×fI)×(V0×List (Int×(V0×fI))))))×(bT×iI)×Int×bQ
abbrev nG:=List (V0×bT)
abbrev AX:=List (ByteArray×Int×Int×Int×Int×Int)
abbrev DL:=iI×Int×bQ×bQ×List bQ×List (List bQ)
abbrev CU:=List (V0×List (V0×List (V0×bT)))
abbrev Bl:=(Int×bQ×List bQ×List (List bQ))
abbrev Bm:=Int×bQ×List bQ×List (List bQ)
abbrev Bn:=((bQ×List bQ×List (List bQ)))
abbrev UO:=(((ByteArray×(List (ByteArray×Int×Int×Int×Int×Int))×(List (ByteArray×(V0×fI)×(V0×List (Int×(V0×fI))))))×(bT×iI)×Int×bQ)×bQ×Int×fI)
abbrev Bo:=Int×bT×bT×bT×Bool×Bool
abbrev Rx:=V0×(List (V0×bT))×V0×(List (V0×List (V0×bT)))×V0×(List (V0×List (V0×List (V0×bT))))
abbrev NV:=V0×List V0×List (List V0)×V0×List V0×List (List V0)×List (List (List V0))
abbrev fL:=List V0
abbrev CV:=List (V0×List (V0×bT))
abbrev fW:=(Int×Int)
abbrev rU:=List (Int×Int×Int)
abbrev fF:=Int×Int
abbrev GT:=ByteArray×Int×Int×Int×Int×Int
abbrev Bp:=List (List V0)
abbrev w_:=((bT×iI))
abbrev DN:=V0×List V0
abbrev CW:=List (List bQ)
abbrev Kw:=Int×(List ((Int×Int)×Int))
abbrev NW:=Int×Int×List bQ×List (List bQ)
abbrev Zh:=(ByteArray×List (ByteArray×Int×Int×Int×Int×Int)×List (fI×List (Int×fI)))
abbrev NX:=(Int×List bQ×List (List bQ))
abbrev rV:=List bQ
abbrev NY:=Int×List bQ×List (List bQ)
abbrev DO:=Int×Int×Int
abbrev NZ:=(Int×(List ((Int×Int)×Int)))
abbrev Kx:=bT×bT×bT×bT
abbrev MB:=List (List (List V0))
abbrev Ry:=Int×Int×Int×Int×Int×Int×Int
abbrev ack:=V0×V0×V0×List V0×List V0×List (List V0)×List V0×List (List V0)×List (List (List V0))
abbrev UP:=(bQ×List bQ×List (List bQ))×Int
abbrev HS:=List (Nat×Nat)
abbrev UQ:=(Int×Int×List bQ×List (List bQ))
abbrev Rz:=List (fI×List (Int×fI))
abbrev UR:=(ByteArray×Int×Int×Int×Int×Int)
abbrev US:=V0×List V0×List (List V0)
abbrev UT:=(Int×Int×Int×Int×Int×Int×Int)
abbrev GU:=(bT×iI)
abbrev MC:=(Int×Int×bQ)
abbrev cW:V0:=Value.slice none 0 0
abbrev TF:List V0:=[vI (0:Int),vI (0:Int)]
abbrev vD1:List V0:=[vS (ByteArray.mk #[]),vI (0:Int),vI (0:Int),vI (0:Int),vI (0:Int),vI (0:Int)]
end Go.Sx
namespace Go.Sx
open Go.RowKit
section
variable {P:Program} {c:zL} {n:Sz} {σ:Fr} {M L:List bI} {d:Option Tmp} {ty:TypeId} {pos:String} {aft:Array Edge} {g:Option (Nat×Bool)} {α:Type} {e:bJ α} {r:eK α}
def Ve {α:Type} (e:bJ α) (v:V0) (l:List V0) (i:List (List α)):bI where
 p w F:=∃A B:Nat->Prop,Br bJ.raw w A v l/\(fQ e l i).p w B/\(∀k,A k->F k)/\(∀k,B k->F k)/\∀k,A k->¬B k
 mono:=by
  rintro w x S u ⟨A,B,s,t,m,o,q⟩ j;exact⟨λk=>A k/\k<w.heap.size,λk=>B k/\k<w.heap.size,(Ar bJ.raw v l).mono s λk f h=>⟨⟨f,h⟩,(j k (m k f) h).2⟩,(fQ e l i).mono t λk f h=>⟨⟨f,h⟩,(j k (o k f) h).2⟩,λk f=>(j k (m k f.1) f.2).1,λk f=>(j k (o k f.1) f.2).1,λk a b=>q k a.1 b.1⟩
def tC {α:Type} (e:bJ α) (vs:List V0) (wss:List (List V0)) (xsss:List (List (List α))):bI where
 p w F:=(vs.length=xsss.length/\wss.length=xsss.length)/\∃G:Nat->Nat->Prop,(∀i v h a,vs[i]? = some v->wss[i]? = some h->xsss[i]? = some a->(Ve e v h a).p w (G i))/\(∀i k,G i k->F k)/\∀i j k,G i k->G j k->i=j
 mono:=by
  rintro w B S A ⟨u,G,o,l,q⟩ m;exact⟨u,λi k=>G i k/\k<w.heap.size,λi v h a x y z=>(Ve e v h a).mono (o i v h a x y z) λk b f=>⟨⟨b,f⟩,(m k (l i k b) f).2⟩,λi k b=>(m k (l i k b.1) b.2).1,λi j k s t=>q i j k s.1 t.1⟩
theorem uG (e:bJ α):dZ M L (tC e [] [] []::M) L:=dZ.add λw=>⟨⟨rfl,rfl⟩,λ_ _=>False,λi v f b a=>by simp at a,λ_ _ h=>h,λ_ _ _ h=>h.elim⟩
theorem G_ (i j:Nat) {v:V0} {f:List V0} {a:List (List α)} (b:Nat.beq i j=false) (m:M[i]? = some (Ar bJ.raw v f)) (o:M[j]? = some (fQ e f a)):dZ M L ((M.set i (Ve e v f a)).eraseIdx j) L:=λc w t=>
 t.merge i j (λe=>by subst e;simp at b) m o λh k l=>⟨_,_,h,k,λ_=> .inl,λ_=> .inr,l⟩
theorem Do (i j:Nat) {u:V0} {us:List V0} {m:List (List α)} {vs:List V0} {wss:List (List V0)} {xsss:List (List (List α))} (p:Nat.beq i j=false) (K:M[i]? = some (tC e vs wss xsss)) (N:M[j]? = some (Ve e u us m)):dZ M L ((M.set i (tC e (vs++[u]) (wss++[us]) (xsss++[m]))).eraseIdx j) L:=λc w t=>
 t.merge i j (λe=>by subst e;simp at p) K N (by
  rintro w Q D ⟨⟨s,x⟩,G,E,o,F⟩ J A;refine⟨⟨by simp[s],by simp[x]⟩,λq k=>(q<vs.length/\G q k)\/(q=vs.length/\D k),?_,?_,?_⟩
  ·intro q v O z f h l;by_cases B:q<vs.length
   ·rw[zAc B]at f;rw[zAc (by omega)]at h l;exact bI.same (E q v O z f h l) (λk a=> .inl ⟨B,a⟩) (λ_ _ _=>rfl)
   ·rw[zAb (by omega)]at f h l;have y:q - vs.length=0:=by have:=bP f;simp at this;omega
    rw[y]at f;rw[show q - wss.length=0 by omega]at h;rw[show q - xsss.length=0 by omega]at l;simp at f h l;subst f;subst h;subst l;exact bI.same J (λk a=> .inr ⟨by omega,a⟩) (λ_ _ _=>rfl)
  ·rintro q k (⟨_,a⟩|⟨_,a⟩)
   ·exact .inl (o q k a)
   ·exact .inr a
  ·rintro q C k (⟨H,a⟩|⟨H,a⟩) (⟨I,b⟩|⟨I,b⟩)
   ·exact F q C k a b
   ·exact absurd b (A k (o q k a))
   ·exact absurd a (A k (o C k b))
   ·omega)
theorem Fj (i j:Nat) {us vs:List V0} {o wss:List (List V0)} {f xsss:List (List (List α))} (z:Nat.beq i j=false) (R:M[i]? = some (tC e vs wss xsss)) (S:M[j]? = some (tC e us o f)):dZ M L ((M.set i (tC e (vs++us) (wss++o) (xsss++f))).eraseIdx j) L:=λc w t=>
 t.merge i j (λe=>by subst e;simp at z) R S (by
  rintro w T U ⟨⟨A,B⟩,G,K,x,N⟩ ⟨⟨C,D⟩,J,u,h,y⟩ E;refine⟨⟨by simp[A,C],by simp[B,D]⟩,λq k=>(q<vs.length/\G q k)\/(vs.length<=q/\J (q - vs.length) k),?_,?_,?_⟩
  ·intro q v I p s l m;by_cases F:q<vs.length
   ·rw[zAc F]at s;rw[zAc (by omega)]at l m;exact bI.same (K q v I p s l m) (λk a=> .inl ⟨F,a⟩) (λ_ _ _=>rfl)
   ·rw[zAb (by omega)]at s l m;rw[show q - wss.length=q - vs.length by omega]at l;rw[show q - xsss.length=q - vs.length by omega]at m;exact bI.same (u _ v I p s l m) (λk a=> .inr ⟨by omega,a⟩) (λ_ _ _=>rfl)
  ·rintro q k (⟨_,a⟩|⟨_,a⟩)
   ·exact .inl (x q k a)
   ·exact .inr (h _ k a)
  ·rintro q H k (⟨O,a⟩|⟨O,a⟩) (⟨Q,b⟩|⟨Q,b⟩)
   ·exact N q H k a b
   ·exact absurd (h _ k b) (E k (x q k a))
   ·exact absurd (h _ k a) (E k (x H k b))
   ·have:=y _ _ k a b;omega)
theorem kC (q:Nat) {vs:List V0} {wss:List (List V0)} {xsss:List (List (List α))} (a:M[q]? = some (tC e vs wss xsss)):∀c w,St c M L w->vs.length=xsss.length:=λc w t=>by
 obtain⟨_,h⟩:=t.res a;exact h.1.1
end
def Pw {e g:Type} (f:e->g->bI) (c:List e) (d:List g):bI where
 p w S:=c.length=d.length/\∀(i:Nat) a b,c[i]? = some a->d[i]? = some b->(f a b).p w S
 mono:=fun⟨j,k⟩ h=>⟨j,λi a b l m=>(f a b).mono (k i a b l m) h⟩
abbrev mT {a:Type} (r:eK a):fL->List (List a)->bI:=Pw (Sl r)
abbrev wX {a:Type} (r:eK a):Bp->List (List (List a))->bI:=Pw (mT r)
abbrev Bz {a:Type} (r:eK a):MB->List (List (List (List a)))->bI:=Pw (wX r)
def eK.raw:eK V0:=⟨1,Nat.one_pos,λ_ _ cs x=>cs=[x],λh=>by simp[h],λh _=>h⟩
theorem Jr {w:World} {F:Nat->Prop} {v:V0} {d:fL} (h:Br bJ.raw w F v d):Gd eK.raw w F v d:=by
 have f:=h;obtain⟨q,_,k⟩:=h;rcases k with⟨rfl,rfl⟩|⟨b,c,a,T,e,rfl,g,n,p,o,r⟩
 ·exact⟨none,0,rfl,by simp,.inl Z⟩
 ·refine⟨_,a,rfl,by omega,.inr ⟨b,c,rfl,g,λi x m=>⟨[x],λj u l=> ?_,rfl⟩⟩⟩
  have:=Br.cell f m (j:=j) (u:=u) l;simp only[KA,fC]at this;exact this
theorem hZ:eK.raw.Cell 0 (λx=>x):=λh=>by simp[show _=[_]from h]
section
variable {M L:List bI} {α β:Type} {f:α->β->bI} {la cs:List α} {lb ds:List β} {a:α} {b:β}
theorem eC:aI M L (Pw f [] []):=λ_ _ _ _ _ _ _ _=>⟨rfl,λi a b c=>by simp at c⟩
theorem Qf (n:Nat) (h:aI M L (f a b)):aI M L (Pw f (List.replicate n a) (List.replicate n b)):=λw S T U c d e g=>⟨by simp,λi x y j k=>by
 obtain⟨_,rfl⟩:=List.mem_replicate.1 (zA0 j);obtain⟨_,rfl⟩:=List.mem_replicate.1 (zA0 k);exact h w S T U c d e g⟩
theorem gH (h:aI M L (Pw f la lb)) (k:aI M L (Pw f cs ds)):aI M L (Pw f (la++cs) (lb++ds)):=λw S T U j l m n=>by
 obtain⟨g,o⟩:=h w S T U j l m n;obtain⟨p,q⟩:=k w S T U j l m n;refine⟨by simp[g,p],λi x y c d=> ?_⟩
 by_cases e:i<la.length
 ·rw[zAc e]at c;rw[zAc (by omega)]at d;exact o i x y c d
 ·rw[zAb (by omega)]at c;rw[zAb (by omega),<-g]at d;exact q _ x y c d
theorem Qe (h:aI M L (f a b)):aI M L (Pw f [a] [b]):=Qf 1 h
theorem hJ (h:aI M L (f a b)) (k:aI M L (Pw f la lb)):aI M L (Pw f (a::la) (b::lb)):=gH (Qe h) k
theorem gJ (k:Nat) (h:aI M L (Pw f la lb)) (g:aI M L (f a b)):aI M L (Pw f (la.set k a) (lb.set k b)):=λw S T U j l m n=>by
 obtain⟨o,p⟩:=h w S T U j l m n;refine⟨by simp[o],λi x y c d=> ?_⟩
 by_cases e:k=i
 ·subst e;have q:=bP c;have r:=bP d;rw[zAi (by simpa using q)]at c;rw[zAi (by simpa using r)]at d;cases c;cases d;exact g w S T U j l m n
 ·rw[zAp e]at c d;exact p i x y c d
theorem bO [Inhabited α] [Inhabited β] {k:Int} (h:aI M L (Pw f la lb)) (c:0<=k) (e:k<lb.length):aI M L (f (at' la k) (at' lb k)):=h.mono λ{w U} hp=>by
 obtain⟨g,d⟩:=hp;exact d k.toNat _ _ (cY c (by omega)) (cY c e)
theorem Ot (m:Nat) (h:aI M L (Pw f la lb)):aI M L (Pw f (la.take m) (lb.take m)):=h.mono λ{w U} hp=>by
 obtain⟨e,g⟩:=hp;refine⟨by simp[e],λi x y c d=> ?_⟩
 rw[zAq]at c d;split at c
 ·rename_i h;rw[if_pos h]at d;exact g i x y c d
 ·cases c
theorem Is (m:Nat) (h:aI M L (Pw f la lb)):aI M L (Pw f (la.drop m) (lb.drop m)):=h.mono λ{w U} hp=>by
 obtain⟨e,g⟩:=hp;refine⟨by simp[e],λi x y c d=> ?_⟩
 rw[zAr]at c d;exact g _ x y c d
theorem aX (h:aI M L (Pw f la lb)):∀c w,St c M L w->la.length=lb.length:=λc w t=>by
 obtain⟨S,d⟩:=h.st t;exact d.1
theorem lH {r:eK α} {e:bJ α} {j:Nat} {vs:List V0} {d:List (List α)} (m:M[j]? = some (fQ e vs d)) (c:e.Fits r):aI M L (mT r vs d):=λw S T U u k x l=>by
 obtain⟨n,G,g,h,_⟩:=k j _ m;exact⟨n,λi v t p s=>(Br.sl c (g i v t p s)).mono λq o _=>⟨l j q (h _ q o),rfl⟩⟩
theorem cG {g:bI} (h:aI [] L g):dZ M L M (g::L):=λc w ⟨k,F,e,d⟩=>⟨k,F,e,λx hx=>by
 rcases zAn.1 hx with rfl|hx
 ·exact h w (Ei c F) (λ_ _=>False) (Ei c F) d (λi m j=>by simp at j) (λ_ h=>h) (λ_ _ h=>h.elim)
 ·exact d x hx⟩
theorem tD (n q:List bI) {g:bI} (u:a_ M (n++q)) (h:aI n L g):dZ M L q (g::L):=λc w t=>by
 obtain⟨v,F,o,s⟩:=t.weak u (λ_ h=>h);refine⟨v,λi k=>i<q.length/\F (i+n.length) k,⟨λi m p=> ?_,λi k d=>o.rng _ k d.2,λi j k e r=>by have:=o.dis _ _ k e.2 r.2;omega⟩,λx hx=> ?_⟩
 ·have e:=bP p;exact bI.same (o.res (i+n.length) m (by rw[zAb (by omega),Nat.add_sub_cancel];exact p)) (λk d=>⟨e,d⟩) (λ_ _ _=>rfl)
 ·have l:∀k,Ei c F k->Ei c (λi k=>i<q.length/\F (i+n.length) k) k:=λk d=>⟨d.1,λi e=>d.2 _ e.2⟩
  rcases zAn.1 hx with rfl|hx
  ·refine h w (Ei c F) (λi k=>i<n.length/\F i k) _ s (λi m p=> ?_) l (λi k d=> ?_)
   ·have e:=bP p;exact bI.same (o.res i m (by rw[zAc e];exact p)) (λk d=>⟨e,d⟩) (λ_ _ _=>rfl)
   ·refine⟨.inr (o.rng i k d.2).1,λj r=> ?_⟩
    have:=o.dis _ _ k d.2 r.2;omega
  ·exact bI.same (s x hx) l (λ_ _ _=>rfl)
end
section
variable {M L:List bI} {α β γ:Type} {e:bJ α} {r:eK α}
abbrev S3 (r:eK α) (v:V0) (a:List (V0×List (V0×List α))) (x:List (List (List α))):bI:=Sn (eK.sl (eK.sl r)) (λz=>z.2.map λy=>y.2) v a x
abbrev S4 (r:eK α) (v:V0) (a:List (V0×List (V0×List (V0×List α)))) (x:List (List (List (List α)))):bI:=Sn (eK.sl (eK.sl (eK.sl r))) (λz=>z.2.map λy=>y.2.map λq=>q.2) v a x
theorem bR {q:eK γ} {c:γ->β} {v:V0} {b:List (V0×List γ)} {a:List (List β)} {i:Int} (h:aI M L (Sn (eK.sl q) (λz=>z.2.map c) v b a)) (d:0<=i) (f:i<a.length):aI M L (Sn q c (at' b i).1 (at' b i).2 (at' a i)):=h.mono λ{w U} h=>by
 obtain⟨h,g⟩:=h;have j:i<b.length:=by rw[<-g]at f;simpa using f
 obtain⟨l,k,_⟩:=sl_cell h (cY d j);exact⟨k.2,by rw[<-g,TQ _ d j]⟩
theorem c_ {P:Program} [dV P] {c:zL} {n:Sz} {p:Fr} {d:Option Tmp} {F:TypeId} {k:String} {j:Array Edge} {g:Option (Nat×Bool)} {T:TypeId} {D E:Nat} {z:V0} {l:TypeDesc} {x:Operand} {q:eK γ} {u:V0×List γ->β} {v:V0} {i:Int} {o:List (V0×List γ)} {b:List β} (C:ev p x=some (Fq v (i.toNat*1))) (m:aI M L (Sn (eK.sl q) u v o b))
  (A:dV.tab P T=some ⟨l,D,E,z⟩) (B:BB l=false) (h:0<=i/\i<b.length):Y P c n p M L ⟨d,.load T x,F,k,j,g⟩ (at' o i).1:=λa w s t=>by
 obtain⟨_,y⟩:=m.st t;exact cI (r:=eK.sl q) (f:=λz=>z.1) C m.sl A B Z (eK.sl_cell q) (by rw[Sn.len y];exact h) a w s t
theorem JS {q:eK γ} {w:World} {S F:Nat->Prop} {v:V0} {c:List V0} {d:List (V0×List γ)} (m:Br bJ.raw w F v c) (n:c.length=d.length) (C:∀(i:Nat) u z,c[i]? = some u->d[i]? = some z->z.1=u/\Gd q w S z.1 z.2) (A:∀k,F k->S k):Gd (eK.sl q) w S v d:=by
 have g:=m;obtain⟨K,_,B⟩:=m;rcases B with⟨rfl,rfl⟩|⟨b,l,f,E,s,rfl,h,G,J,H,N⟩
 ·have:d=[]:=zAm (by simpa using n.symm);subst this;exact⟨none,0,rfl,by simp,.inl Z⟩
 ·refine⟨_,f,by rw[n],by omega,.inr ⟨b,l,rfl,A _ h,λi x p=> ?_⟩⟩
  have I:=bP p;have o:c[i]? = some (c[i]'(by omega)):=zA2 _;obtain⟨t,y⟩:=C i _ x o p;refine⟨[x.1],λD u a=> ?_,rfl,y⟩
  rw[t]at a;have:=Br.cell g o (j:=D) (u:=u) a;simp only[KA,fC]at this;exact this
def Z3 (vs:List V0) (wss:List (List V0)) (xsss:List (List (List α))):List (V0×List (V0×List α)):=vs.zip (List.zipWith List.zip wss xsss)
def Z4 (us:List V0) (wss:List (List V0)) (a:List (List (List V0))) (y:List (List (List (List α)))):List (V0×List (V0×List (V0×List α))):=us.zip (List.zipWith (λb p=>Z3 b p.1 p.2) wss (a.zip y))
theorem Pn {w:World} {S F:Nat->Prop} {v:V0} {d:List V0} {a:List (List α)} (j:Br bJ.raw w F v d) (b:(mT r d a).p w S) (l:∀k,F k->S k):Gd (eK.sl r) w S v (d.zip a):=by
 obtain⟨m,b⟩:=b;refine JS j (by simp[m]) (λi u z g c=> ?_) l;rw[List.getElem?_zip_eq_some]at c;rw[g]at c;obtain⟨f,h⟩:=c;refine⟨(Option.some.inj f).symm,b i _ _ ?_ h⟩
 rw[g];exact f
theorem Tl {w:World} {S F:Nat->Prop} {v:V0} {vs:List V0} {wss:List (List V0)} {xsss:List (List (List α))} (hA:Br bJ.raw w F v vs) (hR:(fQ bJ.raw vs wss).p w F) (hP:(wX r wss xsss).p w S) (hF:∀k,F k->S k):Gd (eK.sl (eK.sl r)) w S v (Z3 vs wss xsss)/\(Z3 vs wss xsss).map (λz=>z.2.map λy=>y.2)=xsss:=by
 obtain⟨hl,hP⟩:=hP;obtain⟨hl2,G,g1,g2,_⟩:=hR;unfold Z3;refine⟨JS hA (by simp[hl2,hl]) (λi u z hu hz=> ?_) hF,?_⟩
 ·rw[List.getElem?_zip_eq_some]at hz;obtain⟨h1,h2⟩:=hz;rw[hu]at h1;have h1:=Option.some.inj h1;rw[List.getElem?_zipWith]at h2;split at h2
  ·rename_i ws xss hws hxs;have h2:=Option.some.inj h2;have:=Pn (g1 i u ws hu hws) (hP i ws xss hws hxs) (λk hk=>hF k (g2 i k hk));refine⟨h1.symm,?_⟩
   rw[<-h1,<-h2];exact this
  ·cases h2
 ·refine List.ext_getElem? λi=> ?_;rw[List.getElem?_map];by_cases hi:i<xsss.length
  ·have e1:vs[i]? = some (vs[i]'(by omega)):=zA2 _;have e2:wss[i]? = some (wss[i]'(by omega)):=zA2 _;have e3:xsss[i]? = some (xsss[i]'hi):=zA2 _;have e4:(vs.zip (List.zipWith List.zip wss xsss))[i]? = some (vs[i]'(by omega),(wss[i]'(by omega)).zip (xsss[i]'hi)):=by
    rw[List.getElem?_zip_eq_some];exact⟨e1,by rw[List.getElem?_zipWith,e2,e3]⟩
   rw[e4,e3];simp only[Option.map_some,Option.some.injEq];rw[List.map_snd_zip];have:=(hP i _ _ e2 e3).1;omega
  ·rw[zAo (by simp;omega),zAo (by omega)];rfl
theorem cK {i j:Nat} {v:V0} {vs:List V0} {a:List (List α)} (h:M[i]? = some (Ar bJ.raw v vs)) (k:L[j]? = some (mT r vs a)):aI M L (S2 r v (vs.zip a) a):=λw S T U c d f g=>by
 have b:=bI.wide (c _ (zA0 k)) f;refine⟨Pn (d i _ h) b (g i),?_⟩
 rw[List.map_snd_zip];have:=b.1;omega
theorem fM {i q j:Nat} {v:V0} {vs:List V0} {wss:List (List V0)} {xsss:List (List (List α))} (f:M[i]? = some (Ar bJ.raw v vs)) (k:M[q]? = some (fQ bJ.raw vs wss)) (g:L[j]? = some (wX r wss xsss)):aI M L (S3 r v (Z3 vs wss xsss) xsss):=λw S T U c a d b=>
 Tl (F:=U) (bI.wide (a i _ f) (b i)) (bI.wide (a q _ k) (b q)) (bI.wide (c _ (zA0 g)) d) (λ_ h=>h)
theorem gO {i q j:Nat} {v:V0} {us:List V0} {wss:List (List V0)} {a:List (List (List V0))} {y:List (List (List (List α)))} (hi:M[i]? = some (Ar bJ.raw v us)) (hq:M[q]? = some (tC bJ.raw us wss a)) (hj:L[j]? = some (Bz r a y)):aI M L (S4 r v (Z4 us wss a y) y):=λw S T U V I X J=>by
 obtain⟨hl,W⟩:=bI.wide (V _ (zA0 hj)) X;obtain⟨⟨l1,l2⟩,G,Q,H,_⟩:=bI.wide (I q _ hq) (J q);have R:=bI.wide (I i _ hi) (J i);have c:∀(m:Nat) u z,us[m]? = some u->(Z4 us wss a y)[m]? = some z->z.1=u/\Gd (eK.sl (eK.sl r)) w U z.1 z.2/\∃x,y[m]? = some x/\z.2.map (λy=>y.2.map λq=>q.2)=x:=by
  intro m u z o d;unfold Z4 at d;rw[List.getElem?_zip_eq_some]at d;obtain⟨g,b⟩:=d;rw[o]at g;have g:=Option.some.inj g;rw[List.getElem?_zipWith]at b;split at b
  ·rename_i K p D n;rw[List.getElem?_zip_eq_some]at n;have b:=Option.some.inj b;obtain⟨A,B,s,t,N,O,_⟩:=Q m u K p.1 o D n.1;have:=Tl (r:=r) (F:=U) (bI.wide (f:=Ar bJ.raw u K) s (λk C=>H m k (N k C))) (bI.wide t (λk C=>H m k (O k C))) (W m p.1 p.2 n.1 n.2) (λ_ h=>h);refine⟨g.symm,?_,p.2,n.2,?_⟩
   ·rw[<-g,<-b];exact this.1
   ·rw[<-b];exact this.2
  ·cases b
 have l:us.length=(Z4 us wss a y).length:=by unfold Z4;simp;omega
 refine⟨JS (F:=U) R l (λm u z o d=>⟨(c m u z o d).1,(c m u z o d).2.1⟩) (λ_ h=>h),?_⟩
 refine List.ext_getElem? λm=> ?_;rw[List.getElem?_map];by_cases hm:m<us.length
 ·have P:us[m]? = some (us[m]'hm):=zA2 _;have E:(Z4 us wss a y)[m]? = some ((Z4 us wss a y)[m]'(by omega)):=zA2 _;obtain⟨_,_,x,hx,Y⟩:=c m _ _ P E;rw[E,hx,Option.map_some];exact congrArg some Y
 ·rw[zAo (by omega),zAo (by omega)];rfl
theorem Dj {q j:Nat} {vs:List V0} {wss:List (List V0)} {xsss:List (List (List α))} {k:Int} (p:M[q]? = some (fQ bJ.raw vs wss)) (n:L[j]? = some (wX r wss xsss)) (a:0<=k) (f:k<xsss.length):aI M L (S2 r (at' vs k) ((at' wss k).zip (at' xsss k)) (at' xsss k)):=λw S T U g h l m=>by
 obtain⟨s,i⟩:=bI.wide (g _ (zA0 n)) l;obtain⟨o,G,c,d,_⟩:=bI.wide (h q _ p) (m q);have b:=i k.toNat _ _ (cY a (by omega)) (cY a f);refine⟨Pn (c k.toNat _ _ (cY a (by omega)) (cY a (by omega))) b (d _),?_⟩
 rw[List.map_snd_zip];have:=b.1;omega
theorem zA {q j:Nat} {us:List V0} {wss:List (List V0)} {a:List (List (List V0))} {y:List (List (List (List α)))} {k:Int} (D:M[q]? = some (tC bJ.raw us wss a)) (x:L[j]? = some (Bz r a y)) (b:0<=k) (o:k<y.length):aI M L (S3 r (at' us k) (Z3 (at' wss k) (at' a k) (at' y k)) (at' y k)):=λw S T U p s u v=>by
 obtain⟨E,t⟩:=bI.wide (p _ (zA0 x)) u;obtain⟨⟨H,I⟩,G,n,i,_⟩:=bI.wide (s q _ D) (v q);have C:=t k.toNat _ _ (cY b (by omega)) (cY b o);obtain⟨A,B,c,d,l,m,_⟩:=n k.toNat _ _ _ (cY b (by omega)) (cY b (by omega)) (cY b (by omega));exact Tl (r:=r) (F:=U) (bI.wide (f:=Ar bJ.raw _ _) c (λz g=>i _ z (l z g))) (bI.wide d (λz g=>i _ z (m z g))) C (λ_ h=>h)
theorem Bw {q j:Nat} {us:List V0} {wss:List (List V0)} {a:List (List (List V0))} {y:List (List (List (List α)))} {k b:Int} (H:M[q]? = some (tC bJ.raw us wss a)) (C:L[j]? = some (Bz r a y)) (h:0<=k/\k<y.length) (c:0<=b/\b<(at' y k).length):aI M L (S2 r (at' (at' wss k) b) ((at' (at' a k) b).zip (at' (at' y k) b)) (at' (at' y k) b)):=λw S T U s t v x=>by
 obtain⟨N,u⟩:=bI.wide (s _ (zA0 C)) v;obtain⟨⟨O,P⟩,G,n,o,_⟩:=bI.wide (t q _ H) (x q);have E:=u k.toNat _ _ (cY h.1 (by omega)) (cY h.1 h.2);obtain⟨A,B,p,f,K,i,_⟩:=n k.toNat _ _ _ (cY h.1 (by omega)) (cY h.1 (by omega)) (cY h.1 (by omega));obtain⟨D,J,l,m,_⟩:=f;obtain⟨F,g⟩:=E;have d:=g b.toNat _ _ (cY c.1 (by omega)) (cY c.1 c.2);refine⟨Pn (l b.toNat _ _ (cY c.1 (by omega)) (cY c.1 (by omega))) d (λz I=>o _ z (i z (m _ z I))),?_⟩
 rw[List.map_snd_zip];have:=d.1;omega
theorem DU {q:Nat} {vs:List V0} {wss:List (List V0)} {k:Int} (i:M[q]? = some (fQ bJ.raw vs wss)) (a:0<=k) (d:k<wss.length):aI M L (Sl eK.raw (at' vs k) (at' wss k)):=λw S T U l f m g=>by
 obtain⟨h,G,b,c,_⟩:=bI.wide (f q _ i) (g q);exact(Jr (b k.toNat _ _ (cY a (by omega)) (cY a d))).mono λz j _=>⟨c _ z j,rfl⟩
theorem nN {q:Nat} {us:List V0} {wss:List (List V0)} {a:List (List (List V0))} {k:Int} (m:M[q]? = some (tC bJ.raw us wss a)) (b:0<=k) (h:k<a.length):aI M L (Sl eK.raw (at' us k) (at' wss k)):=λw S T U p j s l=>by
 obtain⟨⟨t,u⟩,G,f,g,_⟩:=bI.wide (j q _ m) (l q);obtain⟨A,B,c,i,d,o,_⟩:=f k.toNat _ _ _ (cY b (by omega)) (cY b (by omega)) (cY b h);exact(Jr c).mono λz n _=>⟨g _ z (d z n),rfl⟩
theorem Kd {q:Nat} {us:List V0} {wss:List (List V0)} {a:List (List (List V0))} {k b:Int} (s:M[q]? = some (tC bJ.raw us wss a)) (h:0<=k/\k<a.length) (c:0<=b/\b<(at' a k).length):aI M L (Sl eK.raw (at' (at' wss k) b) (at' (at' a k) b)):=λw S T U x n y o=>by
 obtain⟨⟨C,D⟩,G,j,l,_⟩:=bI.wide (n q _ s) (o q);obtain⟨A,B,m,d,v,f,_⟩:=j k.toNat _ _ _ (cY h.1 (by omega)) (cY h.1 (by omega)) (cY h.1 h.2);obtain⟨p,u,g,i,_⟩:=d;exact(Jr (g b.toNat _ _ (cY c.1 (by omega)) (cY c.1 c.2))).mono λz t _=>⟨l _ z (f z (i _ z t)),rfl⟩
theorem CX (j:Nat) {vs:List V0} {wss:List (List V0)} {xsss:List (List (List α))} {k:Int} (Y:M[j]? = some (tC e vs wss xsss)) (x:0<=k/\k<xsss.length):dZ M L (Ar bJ.raw (at' vs k) (at' wss k)::fQ e (at' wss k) (at' xsss k)::M.set j (tC e (vs.set k.toNat (.slice none 0 0)) (wss.set k.toNat []) (xsss.set k.toNat []))) L:=by
 rintro c w ⟨ho,F,l,hL⟩;obtain⟨⟨I,J⟩,G,X,p,D⟩:=l.res j _ Y;have K:=bP Y;obtain⟨A,B,hA,hB,P,Q,R⟩:=X k.toNat _ _ _ (cY x.1 (by omega)) (cY x.1 (by omega)) (cY x.1 x.2);have t:∀b,A b->F j b:=λb h=>p _ b (P b h);have u:∀b,B b->F j b:=λb h=>p _ b (Q b h);refine⟨ho,λq b=>(q=0/\A b)\/(q=1/\B b)\/∃r,q=r+2/\((r=j/\∃j',j'≠k.toNat/\G j' b)\/(r≠j/\F r b)),⟨?_,?_,?_⟩,λf H=> ?_⟩
 ·intro q m n
  match q,n with
  |0,n=>
   obtain rfl:=Option.some.inj n;exact bI.same hA (λb d=> .inl ⟨rfl,d⟩) (λ_ _ _=>rfl)
  |1,n=>
   obtain rfl:=Option.some.inj n;exact bI.same hB (λb d=> .inr (.inl ⟨rfl,d⟩)) (λ_ _ _=>rfl)
  | r + 2, n =>
   have n:(M.set j _)[r]? = some m:=n;by_cases C:r=j
   ·subst C;rw[zAi K]at n;cases n;refine⟨by simp[I,J],λj' q=>j'≠k.toNat/\G j' q,λj' v ws O s y z=> ?_,λj' q N=> .inr (.inr ⟨r,rfl,.inl ⟨rfl,j',N⟩⟩),λj1 j2 q h1 h2=>D _ _ q h1.2 h2.2⟩
    by_cases o:j'=k.toNat
    ·subst o;rw[zAi (by omega)]at s;rw[zAi (by omega)]at y;rw[zAi (by omega)]at z;cases s;cases y;cases z;exact⟨λ_=>False,λ_=>False,⟨by simp,rfl,.inl ⟨rfl,rfl⟩⟩,⟨rfl,λ_ _=>False,λi v xs s=>by simp at s,λ_ _ h=>h,λ_ _ _ h=>h.elim⟩,λ_ h=>h.elim,λ_ h=>h.elim,λ_ h=>h.elim⟩
    ·rw[zAp (Ne.symm o)]at s y z;exact bI.same (X j' v ws O s y z) (λq N=>⟨o,N⟩) (λ_ _ _=>rfl)
   ·rw[zAp (Ne.symm C)]at n;exact bI.same (l.res r m n) (λb d=> .inr (.inr ⟨r,rfl,.inr ⟨C,d⟩⟩)) (λ_ _ _=>rfl)
 ·rintro q b (⟨_,d⟩|⟨_,d⟩|⟨r,_,⟨_,j',_,d⟩|⟨_,d⟩⟩)
  ·exact l.rng _ b (t b d)
  ·exact l.rng _ b (u b d)
  ·exact l.rng _ b (p _ b d)
  ·exact l.rng _ b d
 ·have S:∀b j',A b->j'≠k.toNat->¬G j' b:=λb j' h g E=>g (D _ _ b E (P b h));have T:∀b j',B b->j'≠k.toNat->¬G j' b:=λb j' h g E=>g (D _ _ b E (Q b h));rintro q q' b (⟨U,d⟩|⟨U,d⟩|⟨r,U,d⟩) (⟨o,a⟩|⟨o,a⟩|⟨r',o,a⟩)
  ·omega
  ·exact absurd a (R b d)
  ·rcases a with⟨_,j',g,a⟩|⟨g,a⟩
   ·exact absurd a (S b j' d g)
   ·exact absurd (l.dis _ _ b a (t b d)) g
  ·exact absurd d (R b a)
  ·omega
  ·rcases a with⟨_,j',g,a⟩|⟨g,a⟩
   ·exact absurd a (T b j' d g)
   ·exact absurd (l.dis _ _ b a (u b d)) g
  ·rcases d with⟨_,j',g,d⟩|⟨g,d⟩
   ·exact absurd d (S b j' a g)
   ·exact absurd (l.dis _ _ b d (t b a)) g
  ·rcases d with⟨_,j',g,d⟩|⟨g,d⟩
   ·exact absurd d (T b j' a g)
   ·exact absurd (l.dis _ _ b d (u b a)) g
  ·rcases d with⟨V,j',_,d⟩|⟨V,d⟩<;>rcases a with⟨W,aa,_,a⟩|⟨W,a⟩
   ·omega
   ·exact absurd (l.dis _ _ b a (p _ b d)) W
   ·exact absurd (l.dis _ _ b d (p _ b a)) V
   ·have:=l.dis _ _ b d a;omega
 ·refine bI.same (hL f H) (λb d=>⟨d.1,?_⟩) (λ_ _ _=>rfl);rintro q (⟨_,h⟩|⟨_,h⟩|⟨r,_,⟨_,j',_,h⟩|⟨_,h⟩⟩)
  ·exact d.2 _ (t b h)
  ·exact d.2 _ (u b h)
  ·exact d.2 _ (p _ b h)
  ·exact d.2 _ h
theorem Sp (i j:Nat) {u:V0} {C:List V0} {h:List (List α)} {k:Int} {D:List V0} {g:List (List V0)} {d:List (List (List α))} (p:Nat.beq i j=false) (N:M[i]? = some (tC e D g d)) (O:M[j]? = some (Ve e u C h)) (R:0<=k/\k<d.length):
  dZ M L ((M.set i (tC e (D.set k.toNat u) (g.set k.toNat C) (d.set k.toNat h))).eraseIdx j) L:=λc w t=>
 t.merge i j (λe=>by subst e;simp at p) N O (by
  rintro w Q E ⟨⟨s,x⟩,G,F,o,H⟩ K A;refine⟨⟨by simp[s],by simp[x]⟩,λq b=>(q=k.toNat/\E b)\/(q≠k.toNat/\G q b),?_,?_,?_⟩
  ·intro q v P z l m n;by_cases y:q=k.toNat
   ·subst y;rw[zAi (by omega)]at l;rw[zAi (by omega)]at m;rw[zAi (by omega)]at n;cases l;cases m;cases n;exact bI.same K (λb a=> .inl ⟨rfl,a⟩) (λ_ _ _=>rfl)
   ·rw[zAp (Ne.symm y)]at l m n;exact bI.same (F q v P z l m n) (λb a=> .inr ⟨y,a⟩) (λ_ _ _=>rfl)
  ·rintro q b (⟨_,a⟩|⟨_,a⟩)
   ·exact .inr a
   ·exact .inl (o q b a)
  ·rintro q B b (⟨I,a⟩|⟨I,a⟩) (⟨J,f⟩|⟨J,f⟩)
   ·omega
   ·exact absurd a (A b (o B b f))
   ·exact absurd f (A b (o q b a))
   ·exact H q B b a f)
theorem DV (i j q:Nat) {us:List V0} {a:List (List α)} {k:Int} {vs:List V0} {wss:List (List V0)} {xsss:List (List (List α))} {i' j':Nat} (g:Nat.beq j q=false) (f:Nat.beq i' j'=false) (p:M[i]? = some (tC e (vs.set k.toNat (.slice none 0 0)) (wss.set k.toNat []) (xsss.set k.toNat []))) (n:M[j]? = some (Ar bJ.raw (at' vs k) us)) (o:M[q]? = some (fQ e us a))
  (d:((M.set j (Ve e (at' vs k) us a)).eraseIdx q)[i']? = some (tC e (vs.set k.toNat (.slice none 0 0)) (wss.set k.toNat []) (xsss.set k.toNat []))) (b:((M.set j (Ve e (at' vs k) us a)).eraseIdx q)[j']? = some (Ve e (at' vs k) us a)) (m:0<=k/\k<xsss.length):
  dZ M L ((((M.set j (Ve e (at' vs k) us a)).eraseIdx q).set i' (tC e vs (wss.set k.toNat us) (xsss.set k.toNat a))).eraseIdx j') L:=by
 rintro c w t;have s:vs.length=xsss.length:=by obtain⟨_,h⟩:=t.res p;simpa using h.1.1
 have u:=G_ (L:=L) j q g n o c w t;have l:=Sp (L:=L) (k:=k) _ _ f d b (by simpa using m) c w u;simp only[List.set_set]at l;rw[FJ vs k (by omega) m.1]at l;exact l
end
section
variable {P:Program} {rd:Option Nat} {c:zL} {n:Sz} {σ:Fr} {M L:List bI} {Q:Exit->Act->World->Prop} {ops:Array Oper} {rest:List Oper} {d:Option Tmp} {ty:TypeId} {pos:String} {aft:Array Edge} {g:Option (Nat×Bool)} {α:Type} {e:bJ α} {r:eK α}
@[reducible] def tg {a:Type} (_:Nat) (x:a):a:=x
def Gg:eK V0:=⟨1,Nat.one_pos,λ_ _ a x=>a=[x]/\one x=true,λh=>by simp[h.1],λh _=>h⟩
def acw {α:Type} (e:bJ α) (r:eK α):Prop:=r.sz=e.sz/\∀{w S es x},r.R w S es x->es=e.enc x/\(e.enc x).all one=true
theorem HA:acw bJ.raw Gg:=⟨rfl,λh=>⟨h.1,by show[_].all one=true;simp[h.2]⟩⟩
theorem Lj {w:World} {F:Nat->Prop} {v:V0} {l:List V0} (h:Br bJ.raw w F v l):Gd Gg w F v l:=by
 have o:=h;obtain⟨B,p,s⟩:=h;rcases s with⟨rfl,rfl⟩|⟨b,f,a,T,m,rfl,q,y,A,z,C⟩
 ·exact⟨none,0,rfl,by simp,.inl Z⟩
 ·refine⟨_,a,rfl,by omega,.inr ⟨b,f,rfl,q,λi x k=>⟨[x],λj u t=> ?_,rfl,?_⟩⟩⟩
  ·have:=Br.cell o k (j:=j) (u:=u) t;simp only[KA,fC]at this;exact this
  ·exact zA7.1 p x (by simp only[cellsOf,List.mem_flatMap];exact⟨x,zA0 k,by simp[bJ.raw]⟩)
theorem Qn [dV P] (b:acw e r) {w:World} {S:Nat->Prop} {v:V0} {f:List α} {T E:TypeId} {D F:Nat} {z:V0} (h:Gd r w S v f) (p:dV.tab P T=some ⟨.slice E,D,F,z⟩):
  Src P e.sz T v f.length (cellsOf e f) w/\(cellsOf e f).all one=true:=by
 obtain⟨a,k⟩:=b;obtain⟨m,A,y,t,q⟩:=Gd.src h p (λ{w S o x} hr=>by rw[(k hr).1];exact(k hr).2);have:m=cellsOf e f:=Kg (by rw[t,a]) (λi x C j u B=>by
  obtain⟨o,l,s⟩:=q i x C;rw[<-a];exact s j u (by rw[(k l).1];exact B))
 subst this;rw[<-a];exact⟨A,y⟩
theorem pK {i:Nat} {v:V0} {vs:List V0} (a:M[i]? = some (Ar bJ.raw v vs)):aI M L (Sl Gg v vs):=(aI.res i a).mono λh=>Lj h
theorem j_ (q:Nat) {vs:List V0} {wss:List (List V0)} {xsss:List (List (List α))} (j:M[q]? = some (tC e vs wss xsss)) {k:Int} (h:0<=k/\k<xsss.length):∀c w,St c M L w->(at' wss k).length=(at' xsss k).length:=λc w t=>by
 obtain⟨_,⟨f,i⟩,G,a,l,_⟩:=t.res j;obtain⟨A,B,m,b,_⟩:=a k.toNat _ _ _ (cY h.1 (by omega)) (cY h.1 (by omega)) (cY h.1 h.2);exact b.1
theorem mX {a f:Type} {q:eK a} {b:a->f}:aI M L (Sn q b (.slice none 0 0) [] []):=λ_ _ _ _ _ _ _ _=>⟨⟨none,0,rfl,by simp,.inl Z⟩,rfl⟩
theorem Lq [dV P] (q:Nat) {x y:Operand} {v:V0} {f:List V0} {i j:Int} {T E:TypeId} {s1 s2 D s4:Nat} {z z':V0} {dE:TypeDesc} (hx:ev σ x=some (slq v (0:Int).toNat i.toNat D)) (hy:ev σ y=some (slq v j.toNat (f.length:Int).toNat D)) (hf:M[q]? = some (Ar bJ.raw v f))
  (hT:dV.tab P T=some ⟨.slice E,s1,s2,z⟩) (hE:dV.tab P E=some ⟨dE,D,s4,z'⟩) (h3:bJ.raw.sz=D) (h:0<=i/\i<j/\j<=f.length):
  aQ P c n σ M L ⟨d,.call ⟨.builtin .append,#[x,y],#[T,T]⟩,ty,pos,aft,g⟩ (λ_:Unit=>slq v 0 (i+((f.length:Int) - j)).toNat D) (λ_=>M.set q (Ar bJ.raw (slq v 0 (i+((f.length:Int) - j)).toNat D) (f.take i.toNat++f.drop j.toNat))) (λ_=>L):=λa w s t=>by
 subst h3;have t0:=t;obtain⟨ho,W,hO,N⟩:=t0;have Y:=hO.res q _ hf;have V:=Lj Y;have U:=Gd.part V (l:=j.toNat) (h:=f.length) (by omega) (zAh _);have U:Gd Gg w (W q) (slq v j.toNat f.length bJ.raw.sz) ((f.take f.length).drop j.toNat):=U;obtain⟨hs,F⟩:=Qn HA U hT;obtain⟨h0,K,hh⟩:=Y;rcases hh with⟨_,rfl⟩|⟨b,o,p,X,m,rfl,G,H,hk,hc,ht⟩
 ·simp at h;omega
 have J:((f.take f.length).drop j.toNat)=f.drop j.toNat:=by rw[zB2]
 rw[J]at hs F;have A:(f.drop j.toNat).length=f.length - j.toNat:=by simp
 have hn:(i+((f.length:Int) - j)).toNat=i.toNat+(f.length - j.toNat):=by omega
 rw[show(0:Int).toNat=0 from rfl,Mk]at hx;rw[show(f.length:Int).toNat=f.length by omega]at hy;have C:i.toNat+(f.drop j.toNat).length<=p:=by omega
 have hr:=Mi (P:=P) (ty:=ty) (dV.ok hT) Z (dV.ok hE) H hs C hc;simp only[Oper.wp,AT s hx hy w,hr,Result.andThen_ok,Oper.upon];have aa:(i.toNat+(f.length - j.toNat))*bJ.raw.sz<=p*bJ.raw.sz:=zAw _ (by omega);have I:(cellsOf bJ.raw (f.drop j.toNat)).length=(f.length - j.toNat)*bJ.raw.sz:=by rw[fK,A]
 have B:(i.toNat+(f.length - j.toNat))*bJ.raw.sz=i.toNat*bJ.raw.sz+(f.length - j.toNat)*bJ.raw.sz:=zAz _ _ _;have S:o+i.toNat*bJ.raw.sz+(cellsOf bJ.raw (f.drop j.toNat)).length<=m.toList.length:=by
  rw[I];simp;omega
 refine⟨(),?_,?_⟩
 ·rw[Mk,hn,A]
 ·rw[Mk,hn];refine GZ ho hO N hf Z Z Z (by simp) (λk _ O=>setRow_other w b k _ (λe=>O (by subst e;exact G))) (F':=W q) ?_ (λk hk=> .inl hk);refine⟨by simp;omega,?_,.inr ⟨b,o,p,X,_,by simp;omega,G,setRow_heap w b _ _ X _ H,by simp;omega,?_,?_⟩⟩
  ·rw[mJ,List.all_append,F,Bool.and_true];refine zA7.2 λu hu=>zA7.1 K u ?_;rw[<-zB7 i.toNat f,mJ];exact List.mem_append_left _ hu
  ·simp only[List.size_toArray,zA5,List.length_take,List.length_drop];have:m.size=m.toList.length:=by simp
   omega
  ·have hd:=Nw m.toList o (i.toNat*bJ.raw.sz) (cellsOf bJ.raw (f.drop j.toNat)) S;have e1:(f.take i.toNat++f.drop j.toNat).length*bJ.raw.sz=i.toNat*bJ.raw.sz+(cellsOf bJ.raw (f.drop j.toNat)).length:=by
    rw[I,zA5,List.length_take,A,Nat.min_eq_left (by omega)];exact B
   have e2:(m.toList.drop o).take (i.toNat*bJ.raw.sz)=cellsOf bJ.raw (f.take i.toNat):=by
    have:(m.toList.drop o).take (i.toNat*bJ.raw.sz)=((m.toList.drop o).take (f.length*bJ.raw.sz)).take (i.toNat*bJ.raw.sz):=by
     rw[List.take_take,Nat.min_eq_left (zAw _ (by omega))]
    rw[this,ht]
    conv=>lhs;rw[<-zB7 i.toNat f,mJ]
    have R:(cellsOf bJ.raw (f.take i.toNat)).length=i.toNat*bJ.raw.sz:=by rw[fK,List.length_take,Nat.min_eq_left (by omega)]
    rw[<-R,List.take_left]
   rw[e1,mJ,<-e2];exact hd
theorem MQ [dV P] (i:Nat) (b:acw e r) {x y:Operand} {v u:V0} {h j:List α} {T E:TypeId} {V W m k:Nat} {z p:V0} {q:TypeDesc} (R:ev σ x=some v) (S:ev σ y=some u) (I:M[i]? = some (Ar e v h)) (J:aI M L (Sl r u j))
  (o:dV.tab P T=some ⟨.slice E,V,W,z⟩) (D:dV.tab P E=some ⟨q,m,k,p⟩) (B:e.sz=m) (C:Nat.ble k 1024=true) (X:(h.length:Int)+j.length<=1099511627) (U:p.cells.size=m):
  aQ P c n σ M L ⟨d,.call ⟨.builtin .append,#[x,y],#[T,T]⟩,ty,pos,aft,g⟩ (λf:V0=>f) (λf=>M.set i (Ar e f (h++j))) (λ_=>L):=λa w s t=>by
 subst B;obtain⟨F,G⟩:=J.st t;obtain⟨N,A⟩:=Qn b G o;have l:k<=1024:=by simpa using C
 have H:(h.length+j.length)*k<=140737488355328:=zB4 (Nat.mul_le_mul (show h.length+j.length<=1099511627 by omega) l) (by decide);obtain⟨f,Y,K,O⟩:=t.append (ty:=ty) I N A o D H (by omega) U;simp only[Oper.wp,AT s R S w,K,Result.andThen_ok,Oper.upon];exact⟨f,rfl,O⟩
theorem cE {a h:Type} {q:eK a} {i:a->h} {v:V0} {k:List a} {f:List h} (b:aI M L (Sn q i v k f)):∀c w,St c M L w->acE v f.length:=λc w t=>by
 obtain⟨_,j⟩:=b.st t;rw[<-Sn.len j];exact Know.len b.sl c w t
theorem Vo [dV P] {T E:TypeId} {F G m H:Nat} {z I:V0} {u:TypeDesc} {x l:Operand} {v:V0} {i:Int} {j p:Type} {q:eK j} {y:j->p} {o:List j} {b:List p} (D:ev σ x=some v) (f:ev σ l=some (.int .i64 i)) (k:aI M L (Sn q y v o b))
  (C:dV.tab P T=some ⟨.slice E,F,G,z⟩) (B:dV.tab P E=some ⟨u,m,H,I⟩) (h:0<=i/\i<=(b.length:Int)):Y P c n σ M L ⟨d,.slice T x (some l) none none,ty,pos,aft,g⟩ (slq v i.toNat b.length m):=λa w s t=>by
 obtain⟨_,A⟩:=k.st t;have J:=Sn.len A;have:=Qs (P:=P) (c:=c) (n:=n) (d:=d) (ty:=ty) (pos:=pos) (aft:=aft) (g:=g) D f k.sl C B (by omega) a w s t;rw[show((o.length:Nat):Int).toNat=b.length by omega]at this;exact this
theorem Br.tail {w:World} {F:Nat->Prop} {v:V0} {f:List α} {i m:Nat} (x:Br e w F v f) (E:f.length=m) (D:i<=m):Br e w F (slq v i m e.sz) (f.drop i):=by
 subst E;have p:(cellsOf e (f.drop i))=(cellsOf e f).drop (i*e.sz):=by
  have:cellsOf e f=cellsOf e (f.take i)++cellsOf e (f.drop i):=by rw[<-mJ,zB7]
  have z:(cellsOf e (f.take i)).length=i*e.sz:=by rw[fK,List.length_take,Nat.min_eq_left (by omega)]
  rw[this,<-z,List.drop_left]
 have o:(cellsOf e (f.drop i)).all one=true:=by
  rw[p,zA7];intro u H;exact zA7.1 x.2.1 u (List.mem_of_mem_drop H)
 obtain⟨z,B,C⟩:=x;rcases C with⟨rfl,rfl⟩|⟨b,h,a,t,k,rfl,l,y,J,I,G⟩
 ·have s:i=0:=by simp at D;omega
  subst s;exact⟨by simp,rfl,.inl ⟨rfl,rfl⟩⟩
 ·refine⟨by simp;omega,o,.inr ?_⟩
  have A:slq (.slice (some ⟨b,h,none⟩) f.length a) i f.length e.sz = .slice (if a=i then some ⟨b,h,none⟩else some ⟨b,h+i*e.sz,none⟩) (f.length - i) (a - i):=by simp[slq,fC]
  rw[A];by_cases j:a=i
  ·have q:f.drop i=[]:=List.drop_of_length_le (by omega);rw[if_pos j,q];exact⟨b,h,a - i,t,k,by simp;omega,l,y,by simp,by have:=zAw e.sz (show a - i<=a by omega);omega,by simp[cellsOf]⟩
  ·rw[if_neg j];refine⟨b,h+i*e.sz,a - i,t,k,by simp,l,y,by simp;omega,?_,?_⟩
   ·have:=zAw e.sz (show i<=a by omega);rw[Nat.sub_mul];omega
   ·rw[p,<-G,List.drop_take,List.drop_drop,List.length_drop,Nat.sub_mul]
theorem Vm (j:Nat) {v:V0} {k:List α} {i:Int} {m:Nat} (o:M[j]? = some (Ar e v k)) (s:k.length=m) (h:0<=i/\i<=(m:Int)):dZ M L (M.set j (Ar e (slq v i.toNat m e.sz) (k.drop i.toNat))) L:=λc w t=>by
 obtain⟨u,F,a,p⟩:=t;have f:=bP o;refine⟨u,F,⟨λq x b=> ?_,a.rng,a.dis⟩,p⟩
 by_cases l:j=q
 ·subst l;rw[zAi f]at b;cases b;exact Br.tail (a.res j _ o) s (by omega)
 ·rw[zAp l]at b;exact a.res q x b
theorem fZ (i:Nat) {a g:bI} (b:M[i]? = some a) (h:aI [a] L g):dZ M L (M.eraseIdx i) (g::L):=tD [a] _ (a_.cons i b (a_.refl _)) h
theorem uK {x:Operand} {v:V0} {o:Nat} (b:ev σ x=some (Fq v o)):Y P c n σ M L ⟨d,.nilCheck x,ty,pos,aft,g⟩ (Fq v o):=λa w s _=>by
 simp[execOp,s.eval b,Fq]
end
end Go.Sx
namespace Go.Proofs.YtflciafboapaaaaGreat
open Go.Sx
theorem _root_.Go.Sx.Y.bld5 {P:Program} {c:zL} {n:Sz} {a:Fr} {M L:List bI} {d:Option Tmp} {E:TypeId} {k:String} {j:Array Edge} {g:Option (Nat×Bool)} {T:TypeId} {b e f h i:Nat} {s t u v x:Operand} {l m o p q r:V0} (y:ev a s=some l) (z:ev a t=some m) (A:ev a u=some o) (B:ev a v=some p) (C:ev a x=some q) (D:∀w,(Instr.build T ([(b,l),(e,m),(f,o),(h,p),(i,q)]:List (Nat×V0)).toArray).run P w = .ok r w):Y P c n a M L ⟨d,.build T #[(b,s),(e,t),(f,u),(h,v),(i,x)],E,k,j,g⟩ r:=
 Dk (ps:=[(b,s),(e,t),(f,u),(h,v),(i,x)]) (vs:=[(b,l),(e,m),(f,o),(h,p),(i,q)]) (by simp[y,z,A,B,C]) D
abbrev ESt:bJ ByteArray:=⟨1,Nat.one_pos,λx=>[.string x],λ_=>rfl⟩
abbrev RSt:eK ByteArray:=⟨1,Nat.one_pos,λ_ _ a x=>a=[.string x],λh=>by simp[h],λh _=>h⟩
theorem FSt:ESt.Fits RSt:=⟨rfl,λh=>h,rfl,λ_=>rfl⟩
abbrev fT:bJ Int:=bJ.int .i64
abbrev aM:eK Int:=eK.int .i64
theorem iY:fT.Fits aM:=Oi .i64
theorem eZ:aM.Cell 0 (λx=> .int .i64 x):=Ow .i64
abbrev lN:bJ UR:=bJ.pair ESt (bJ.pair fT (bJ.pair fT (bJ.pair fT (bJ.pair fT (fT)))))
abbrev aE:eK UR:=eK.pair RSt (eK.pair aM (eK.pair aM (eK.pair aM (eK.pair aM (aM)))))
theorem qD:lN.Fits aE:=mC FSt (mC iY (mC iY (mC iY (mC iY (iY)))))
theorem lV:aE.Cell 1 (λx=> .int .i64 x.2.1):=eD (n_ (eZ))
theorem Bb:aE.Cell 2 (λx=> .int .i64 x.2.2.1):=eD (eD (n_ (eZ)))
theorem Bc:aE.Cell 3 (λx=> .int .i64 x.2.2.2.1):=eD (eD (eD (n_ (eZ))))
theorem Bd:aE.Cell 4 (λx=> .int .i64 x.2.2.2.2.1):=eD (eD (eD (eD (n_ (eZ)))))
theorem Be:aE.Cell 5 (λx=> .int .i64 x.2.2.2.2.2):=eD (eD (eD (eD (eD (eZ)))))
abbrev bX:bJ fW:=bJ.pair fT (fT)
abbrev aY:eK fW:=eK.pair aM (aM)
theorem cR:bX.Fits aY:=mC iY (iY)
theorem gA:aY.Cell 0 (λx=> .int .i64 x.1):=n_ (eZ)
theorem Fi:aY.Cell 1 (λx=> .int .i64 x.2):=eD (eZ)
abbrev nO:eK (Int×(V0×fI)):=eK.pair aM ((eK.sl aY))
theorem MP:nO.All 2 (λx=>[Value.int .i64 (x.1),x.2.1]):=(Ov (Sk iY) (Sm aY))
theorem FV:nO.Cell 0 (λx=> .int .i64 x.1):=n_ (eZ)
theorem Kz:nO.Cell 1 (λx=>x.2.1):=eD (eK.sl_cell aY)
theorem CF:nO.Deep aY (λx=>x.2):=GY (Gh aY)
abbrev aD:eK (ByteArray×(V0×fI)×(V0×List (Int×(V0×fI)))):=eK.pair RSt (eK.pair (eK.sl aY) ((eK.sl nO)))
theorem tQ:aD.Cell 1 (λx=>x.2.1.1):=eD (n_ (eK.sl_cell aY))
theorem tS:aD.Deep aY (λx=>x.2.1):=GY (Vk (Gh aY))
theorem tR:aD.Cell 2 (λx=>x.2.2.1):=eD (eD (eK.sl_cell nO))
theorem cS:aD.Deep nO (λx=>x.2.2):=GY (GY (Gh nO))
abbrev EFn:bJ Nat:=bJ.fn
abbrev RFn:eK Nat:=eK.fn
theorem FFn:EFn.Fits RFn:=P_
abbrev KP:bJ (Int×Nat):=bJ.pair fT (EFn)
abbrev ZI:eK (Int×Nat):=eK.pair aM (RFn)
theorem DT:KP.Fits ZI:=mC iY (FFn)
abbrev EBo:bJ Bool:=bJ.bool
abbrev Ge:bJ (Int×Int×Int):=bJ.pair fT (bJ.pair fT (fT))
abbrev dY:eK (Int×Int×Int):=eK.pair aM (eK.pair aM (aM))
theorem Cq:Ge.Fits dY:=mC iY (mC iY (iY))
def RE (x:Int):V0:=Value.int .i64 (x)
def oS (x:fF):V0:=Value.agg #[Value.int .i64 (x.1),Value.int .i64 (x.2)]
theorem Yk (x y:fF) (m:Nat) (w:World):(Op.equalIn (m+2) 138 (.agg #[.int .i64 x.1,.int .i64 x.2]) (.agg #[.int .i64 y.1,.int .i64 y.2])).run Tryz.prog w = .ok (decide (x=y)) w:=by
 have c:∀a b:Int,(Op.equalIn (m+1) 3 (.int .i64 a) (.int .i64 b)).run Tryz.prog w = .ok (a==b) w:=by
  intro a b;simp[Op.equalIn]
 unfold Op.equalIn;simp[show List.range' 0 2=[0,1]from rfl,part,isAgg,c];obtain⟨d,e⟩:=x;obtain⟨f,g⟩:=y;by_cases h:d=f<;>by_cases i:e=g<;>simp[h,i,c]
theorem Xz (b:Bool) (k:fF) (w:World):(Instr.checkKey b 10000 138 (oS k)).run Tryz.prog w = .ok () w:=by
 have a:∀m:Nat,(Instr.checkKey b (m+2) 138 (oS k)).run Tryz.prog w = .ok () w:=by
  intro m;simp[Instr.checkKey,oS,part,isAgg,show List.range' 0 2=[0,1]from rfl]
 exact a 9998
theorem O_:Lp Tryz.prog 138 oS:=Sf Tryz.underlying138 Xz (λ_ _=>rfl) (λa b w=>Yk a b 9998 w) (λk=>by
 have c:∀m:Nat,Instr.sameBits (m+2) (oS k) (oS k)=true:=λm=>by simp[Instr.sameBits,oS]
 exact c 9998)
theorem jU (b:V0) (c:one b=true) (a:Array V0) (h:a.size=1*1):Instr.fill (λi=>some (i*1,1)) a [(0,b)]=some [b].toArray:=by
 obtain⟨l⟩:=a
 match l,h with
 | [z0],_=>simp[Instr.fill,iF c]
theorem IG (b c:V0) (a:Array V0) (h:a.size=1*2):Instr.fill (λi=>some (i*2,2)) a [(0,.agg #[b,c])]=some [b,c].toArray:=by
 obtain⟨l⟩:=a
 match l,h with
 | [z0,z1],_=>simp[Instr.fill,Value.cells]
theorem QD (b c d:V0) (a:Array V0) (h:a.size=1*3):Instr.fill (λi=>some (i*3,3)) a [(0,.agg #[b,c,d])]=some [b,c,d].toArray:=by
 obtain⟨l⟩:=a
 match l,h with
 | [z0,z1,z2],_=>simp[Instr.fill,Value.cells]
theorem XT (d e f g j k m n o p b c:V0) (a:Array V0) (h:a.size=2*6):Instr.fill (λi=>some (i*6,6)) a [(0,.agg #[d,e,f,g,j,k]),(1,.agg #[m,n,o,p,b,c])]=some [d,e,f,g,j,k,m,n,o,p,b,c].toArray:=by
 obtain⟨l⟩:=a
 match l,h with
 | [z0,z1,z2,z3,z4,z5,z6,z7,z8,z9,z10,z11],_=>simp[Instr.fill,Value.cells]
theorem XU (b c d e f g:V0) (a:Array V0) (h:a.size=3*2):Instr.fill (λi=>some (i*2,2)) a [(0,.agg #[b,c]),(1,.agg #[d,e]),(2,.agg #[f,g])]=some [b,c,d,e,f,g].toArray:=by
 obtain⟨l⟩:=a
 match l,h with
 | [z0,z1,z2,z3,z4,z5],_=>simp[Instr.fill,Value.cells]
def Cp (a:Int) (b:Bool):Option (Int):=
 if b=true then(some (-1:Int))else(if a<=(17:Int)then(some (0:Int))else(if a<=(29:Int)then(some (1:Int))else(if a<=(42:Int)then(some (2:Int))else(some (3:Int)))))
def Al (U:Nat) (a:Int):Option (Int):=
 if a<(1:Int)then(Cp a (true))else(Cp a (decide ((43:Int)<a)))
theorem aaD:bB Tryz.prog 246:=Tryz.call246
theorem PT (U:Nat) {b:Int} (r:Int) (h:Al U b=some r):
  bE Tryz.prog 246 #[vI (b)] [] (λx:Unit=>vI (r)) (λx l=>l) (λ_ l=>l):=by
 refine bE.of Tryz.func246 Z Tryz.ntmps246 Z λc=>?_;refine aU<|aC Z<|aP<|aN<|aT<|aN<|eB (λa=>Cp b a=some r) (λa d=>[(0,vI (b)),(3,vB (a))]) (λa d=>[]) ?_ ?_
 ·refine aR<|aA Z<|cU Z<|aA Z ?_;refine Ds h Z (λ_ h=>?_) λ_ h=>?_
  ·refine aO Z<|aO Z<|d_ Z<|aC Z<|aP ?_;exact f_ (true) () h SF Z
  refine dD Z<|aW Z (wY Z Z) Z<|eR Z<|aC Z<|aP ?_;exact f_ (decide ((43:Int)<b)) () h SF Z
 intro a d h;refine rR h Z (λ_ h=>?_) λ_ h=>?_
 ·refine aU<|aC Z<|aP<|aS<|bF<|aG ?_;cases h;exact iR Z
 refine aU<|aA Z<|aB (CS Z Z) Z<|aC Z<|aP ?_;refine eG h Z (λh=>?_) λh=>?_
 ·refine aU<|aC Z<|aP<|aS<|bF<|aG ?_;cases h;exact iR Z
 refine aU<|aA Z<|aB (CS Z Z) Z<|aC Z<|aP ?_;refine eG h Z (λh=>?_) λh=>?_
 ·refine aU<|aC Z<|aP<|aS<|bF<|aG ?_;cases h;exact iR Z
 refine aU<|aA Z<|aB (CS Z Z) Z<|aC Z<|aP ?_;refine eG h Z (λh=>?_) λh=>?_
 ·refine aU<|aC Z<|aP<|aS<|bF<|aG ?_;cases h;exact iR Z
 refine dW<|lA<|aU<|aC Z<|aP<|aS ?_;cases h;exact iR Z
def GQ (a:Unit):Option (Int):=
 some (-1:Int)
def mP (U:Nat) (d:fI) (a:fF) (c:fW->Option (Int)):Option (Int):=
 if a.1<(d.length:Int)then(ck (0<=a.1/\a.1<(d.length:Int)) (Option.bind (Al U ((at' d a.1).1)) λb=>(if b<(0:Int)then(some (-1:Int))else(if(wI .i64 (a.2+(wI .i64 (b - (1:Int)))))=(0:Int)then(some (wI .i64 (a.1+(1:Int))))else(c ((wI .i64 (a.1+(1:Int))),(wI .i64 (a.2+(wI .i64 (b - (1:Int)))))))))))else(GQ (()))
def Eh (U:Nat) (b:fI) (c:Int) (a:Bool):Option (Int):=
 if a=true then(some (-1:Int))else(bL (mP U b) U (c,(1:Int)))
def FB (U:Nat) (b:fI) (a:Int):Option (Int):=
 if a<(0:Int)then(Eh U b a (true))else(Eh U b a (decide ((b.length:Int)<=a)))
theorem aaw:bB Tryz.prog 217:=Tryz.call217
theorem Tz (U:Nat) {g:fI} {b:Int} (k:V0) (r:Int) (h:FB U g b=some r):
  bE Tryz.prog 217 #[k,vI (b)] [Sl aY k g] (λx:Unit=>vI (r)) (λx l=>l) (λ_ l=>l):=by
 refine bE.of Tryz.func217 Z Tryz.ntmps217 Z λc=>?_;refine aU<|aC Z<|aP<|aN<|aN<|eB (λd=>Eh U g b d=some r) (λd n=>[(0,k),(1,vI (b)),(14,vB (d))]) (λd n=>[]) ?_ ?_
 ·refine aR<|aA Z<|cU Z<|aA Z ?_;refine Ds h Z (λ_ h=>?_) λ_ h=>?_
  ·refine aO Z<|aO Z<|aO Z<|aO Z<|d_ Z<|aP ?_;exact f_ (true) () h SF Z
  refine dD Z<|dD Z<|aW Z (fH Z (b_ Z) Z) Z<|aW Z (uI Z Z) Z<|eR Z<|aP ?_;exact f_ (decide ((g.length:Int)<=b)) () h SF Z
 intro d n h;refine rR h Z (λ_ h=>?_) λ_ h=>?_
 ·refine aU<|aC Z<|aP<|aS<|aG ?_;cases h;exact iR Z
 refine cL<|aN<|eB (λj=>GQ j=some r) (λj o=>[]) (λj o=>[]) ?_ ?_
 ·refine aU<|aC Z<|aP<|aT<|eW (mP U g) (λa e=>[(0,k),(1,vI (a.1)),(5,vI (a.2))]) (λa e=>[]) (b,(1:Int)) () h SF (a_.refl _) ?_;intro p a e h;refine aN<|aU<|aA Z<|aA Z<|iL (b_ Z) Z<|cU Z<|aP ?_;refine eG h Z (λh=>?_) λh=>?_
  ·refine cL<|aN<|aT<|aU<|aA Z<|aA Z<|cQ h λf h=>aB (bG Z Z (b_ Z) Z Z f) Z<|aB (dC Z Z Z Z Z) Z<|aB (eL Z (b_ Z) Z Z Z gA f) Z<|eI h λi m h=>aJ (zBb aaD (PT U i m) Z .nil) Z λq=>aC Z<|aP<|aN<|aU<|aA Z<|cU Z<|aP ?_;refine eG h Z (λh=>?_) λh=>?_
   ·refine aU<|aC Z<|aP<|aS<|aG<|bF<|aG<|aG<|bF<|aG ?_;cases h;exact iR Z
   refine cL<|aU<|aA Z<|aA Z<|aB (nI Z Z) Z<|cN Z<|aC Z<|aP<|aU<|aA Z<|cH Z<|aP ?_;refine eG h Z (λh=>?_) λh=>?_
   ·refine aU<|aA Z<|cN Z<|aC Z<|aP<|aS<|bF<|aG<|aG<|bF<|aG ?_;cases h;exact iR Z
   refine dW<|lA<|aR<|aA Z<|cN Z<|aC Z<|aP ?_;exact xD ((wI .i64 (a.1+(1:Int))),(wI .i64 (a.2+(wI .i64 (i - (1:Int)))))) () h SF Z
  refine eP ?_;exact f_ () (()) h SF Z
 intro j o h;unfold GQ at h;refine aU<|aC Z<|aP<|aS ?_;cases h;exact iR Z
def kL (U:Nat) (a:Bool):Option (Int):=
 if a=true then(some (1:Int))else(some (0:Int))
theorem BQ:bB Tryz.prog 260:=Tryz.call260
theorem mG (U:Nat) {a:Bool} (r:Int) (h:kL U a=some r):
  bE Tryz.prog 260 #[vB (a)] [] (λx:Unit=>vI (r)) (λx l=>l) (λ_ l=>l):=by
 refine bE.of Tryz.func260 Z Tryz.ntmps260 Z λc=>?_;refine aU<|aC Z<|aP<|aN<|aU<|aA Z<|aP ?_;refine rR h Z (λ_ h=>?_) λ_ h=>?_
 ·refine aU<|aC Z<|aP<|aS<|aG ?_;cases h;exact iR Z
 refine cL<|aU<|aC Z<|aP<|aS ?_;cases h;exact iR Z
def uS (U:Nat) (a:Wh) (d b c:Int):Option (Int):=
 if d=(6:Int)then(some (a.2.1.1.length:Int))else(if d=(7:Int)then(some (a.2.2.1))else(if d=(8:Int)then(ck (0<=b/\b<(a.2.1.1.length:Int)) (some (at' a.2.1.1 b)))else(if d=(9:Int)then(ck (0<=b/\b<(a.2.1.2.length:Int)) (some ((at' a.2.1.2 b).length:Int)))else(if d=(10:Int)then(Option.bind (kL U (decide (b=(0:Int)))) λf=>(some (f)))else(if d=(11:Int)then(some (c))else(ck (0<=b/\b<(a.2.1.2.length:Int)) (ck (0<=c/\c<((at' a.2.1.2 b).length:Int)) (if d=(13:Int)then(ck (0<=((at' (at' a.2.1.2 b) c).1)/\((at' (at' a.2.1.2 b) c).1)<(a.2.1.1.length:Int)) (some (at' a.2.1.1 ((at' (at' a.2.1.2 b) c).1))))else(if d=(14:Int)then(ck (0<=((at' (at' a.2.1.2 b) c).1)/\((at' (at' a.2.1.2 b) c).1)<(a.2.1.2.length:Int)) (some ((at' a.2.1.2 ((at' (at' a.2.1.2 b) c).1)).length:Int)))else(if d=(15:Int)then(Option.bind (kL U (decide (((at' (at' a.2.1.2 b) c).1)=(0:Int)))) λe=>(some (e)))else(if d=(16:Int)then(some ((at' (at' a.2.1.2 b) c).2))else(ck (0<=b/\b<(a.2.2.2.length:Int)) (ck (0<=c/\c<((at' a.2.2.2 b).length:Int)) (some (at' (at' a.2.2.2 b) c)))))))))))))))
theorem aaE:bB Tryz.prog 259:=Tryz.call259
theorem GE (U:Nat) {d:Wh} {t k m:Int} (f:Nat) (u v w y:V0) (G:kX) (A:V0) (H:nG) (r:Int) (h:uS U d t k m=some r):
  bE Tryz.prog 259 #[vP f,vI (t),vI (k),vI (m)] [bM f [vS (d.1.1),u,v,w,y,vI (d.2.2.1),A] 206,Sl aE u d.1.2.1,Sl aD v d.1.2.2,Sl aM w d.2.1.1,S2 aY y G d.2.1.2,S2 aM A H d.2.2.2] (λx:Unit=>vI (r)) (λx l=>l) (λ_ l=>l):=by
 let n:=(at' (at' d.2.1.2 k) m)
 refine bE.of Tryz.func259 Z Tryz.ntmps259 Z λc=>?_;refine aU<|aC Z<|aP<|aN<|aU<|aA Z<|aP<|aT<|aU<|cH Z<|aC Z<|aP ?_;refine eG h Z (λh=>?_) λh=>?_
 ·refine aU<|aA Z<|aB (bU Z) Z<|bV Z<|bV Z<|aB (fU Z (b_ Z) Z Z Z) Z<|iL (Bh Z) Z<|aC Z<|aP<|aS<|bF<|aG ?_;cases h;exact iR Z
 refine aU<|cH Z<|aC Z<|aP ?_;refine eG h Z (λh=>?_) λh=>?_
 ·refine aU<|aA Z<|aB (bU Z) Z<|bV Z<|aB (fU Z (b_ Z) Z Z Z) Z<|aC Z<|aP<|aS<|bF<|aG ?_;cases h;exact iR Z
 refine aU<|cH Z<|aC Z<|aP ?_;refine eG h Z (λh=>?_) λh=>?_
 ·refine aU<|aA Z<|aB (bU Z) Z<|bV Z<|bV Z<|aB (fU Z (b_ Z) Z Z Z) Z<|aA Z<|cQ h λs h=>aB (bG Z Z (Bh Z) Z Z s) Z<|aB (cI Z (Bh Z) Z Z Z eZ s) Z<|aC Z<|aP<|aS<|bF<|aG ?_;cases h;exact iR Z
 refine aU<|cH Z<|aC Z<|aP ?_;refine eG h Z (λh=>?_) λh=>?_
 ·refine aU<|aA Z<|aB (bU Z) Z<|bV Z<|bV Z<|aB (fU Z (b_ Z) Z Z Z) Z<|aA Z<|cQ h λo h=>aB (bK Z Z (CL Z) Z Z o) Z<|aB (bS Z (CL Z) Z Z o) Z<|aB (fH Z (zBc (CL Z) o.1 o.2) Z) Z<|aC Z<|aP<|aS<|bF<|aG ?_;cases h;exact iR Z
 refine aU<|cH Z<|aC Z<|aP ?_;refine eG h Z (λh=>?_) λh=>?_
 ·refine aU<|aA Z<|cH Z<|eI h λC D h=>aJ (zBb BQ (mG U C D) Z .nil) Z λE=>aC Z<|aP<|aS<|bF<|aG ?_;cases h;exact iR Z
 refine aU<|cH Z<|aC Z<|aP ?_;refine eG h Z (λh=>?_) λh=>?_
 ·refine aU<|aA Z<|aC Z<|aP<|aS<|bF<|aG ?_;cases h;exact iR Z
 refine dW<|lA<|aU<|aA Z<|aB (bU Z) Z<|bV Z<|bV Z<|aB (fU Z (b_ Z) Z Z Z) Z<|aA Z<|cQ h λa h=>aB (bK Z Z (CL Z) Z Z a) Z<|aB (bS Z (CL Z) Z Z a) Z<|aA Z<|cQ h λg h=>aB (bG Z Z (zBc (CL Z) a.1 a.2) Z Z g) Z<|aB (gS (cs:=[vI (n.1),vI (n.2)]) Z (zBc (CL Z) a.1 a.2) cR Z Z Z Z g) Z<|aJ (aQ.alloc (cs:=TF) Z Z) Z λB=>cD 0 (vs:=[vI ((at' (at' d.2.1.2 k) m).1),vI ((at' (at' d.2.1.2 k) m).2)]) Z Z Z Z Z Z<|aP<|aN<|aU<|aA Z<|aP<|aT<|aU<|cH Z<|aC Z<|aP ?_;refine eG h Z (λh=>?_) λh=>?_
 ·refine aN ?_;refine rP [0,1,3,7,15,0,32,127,255,511] 7 mixedOrders ?_;refine aV Z<|eN Z (bU Z)<|cC Z<|cC Z<|bA Z .nil (eV 0 Z) (fU Z (b_ Z) Z Z Z) aL.z<|cC Z<|eQ 0 Z<|bN 7 Z Z<|cQ h λi h=>aB (bG Z Z (Bh Z) Z Z i) Z<|aB (cI Z (Bh Z) Z Z Z eZ i) Z<|aC Z<|aP<|aS<|bF<|aG ?_;cases h;exact mO Z
 refine aU<|cH Z<|aC Z<|aP ?_;refine eG h Z (λh=>?_) λh=>?_
 ·refine aN ?_;refine rP [0,1,3,7,15,0,32,127,255,511,1023] 7 mixedOrders ?_;refine aV Z<|eN Z (bU Z)<|cC Z<|cC Z<|bA Z .nil (eV 0 Z) (fU Z (b_ Z) Z Z Z) aL.z<|cC Z<|eQ 0 Z<|bN 7 Z Z<|cQ h λe h=>aB (bK Z Z (CL Z) Z Z e) Z<|aB (bS Z (CL Z) Z Z e) Z<|aB (fH Z (zBc (CL Z) e.1 e.2) Z) Z<|aC Z<|aP<|aS<|bF<|aG ?_;cases h;exact mO Z
 refine aU<|cH Z<|aC Z<|aP ?_;refine eG h Z (λh=>?_) λh=>?_
 ·refine aU<|bV Z<|dK 0 Z<|cH Z<|eI h λp q h=>aJ (zBb BQ (mG U p q) Z .nil) Z λF=>aC Z<|aP<|aS<|bF<|aG ?_;cases h;exact mO Z
 refine aU<|cH Z<|aC Z<|aP ?_;refine eG h Z (λh=>?_) λh=>?_
 ·refine aU<|bV Z<|dK 0 Z<|aC Z<|aP<|aS<|bF<|aG ?_;cases h;exact mO Z
 refine dW<|lA<|aU<|aA Z<|aB (bU Z) Z<|bV Z<|aB (fU Z (b_ Z) Z Z Z) Z<|aA Z<|cQ h λb h=>aB (bK Z Z (zJ Z) Z Z b) Z<|aB (bS Z (zJ Z) Z Z b) Z<|aA Z<|cQ h λj h=>aB (bG Z Z (zBc (zJ Z) b.1 b.2) Z Z j) Z<|aB (cI Z (zBc (zJ Z) b.1 b.2) Z Z Z eZ j) Z<|aC Z<|aP<|aS ?_;cases h;exact mO Z
def nE (U:Nat) (a:PW) (b:fF) (c:Int):Option (Int):=
 if b.1=(1:Int)then(some (b.2))else(if b.1=(2:Int)then(some (1:Int))else(if b.1=(3:Int)then(some (0:Int))else(if b.1=(4:Int)then(some (-1:Int))else(if b.1=(5:Int)then(ck (0<=a.2.2.1/\a.2.2.1<(a.2.1.length:Int)) (ck (0<=b.2/\b.2<((at' a.2.1 a.2.2.1).length:Int)) (some (at' (at' a.2.1 a.2.2.1) b.2))))else(if b.1=(12:Int)then(ck (0<=a.2.2.1/\a.2.2.1<(a.1.2.1.2.length:Int)) (ck (0<=c/\c<((at' a.1.2.1.2 a.2.2.1).length:Int)) (ck (0<=((at' (at' a.1.2.1.2 a.2.2.1) c).1)/\((at' (at' a.1.2.1.2 a.2.2.1) c).1)<(a.2.1.length:Int)) (ck (0<=b.2/\b.2<((at' a.2.1 ((at' (at' a.1.2.1.2 a.2.2.1) c).1)).length:Int)) (some (at' (at' a.2.1 ((at' (at' a.1.2.1.2 a.2.2.1) c).1)) b.2))))))else(Option.bind (uS U ((((a.1.1.1,a.1.1.2.1,a.1.1.2.2)),((a.1.2.1.1,a.1.2.1.2)),a.1.2.2.1,a.1.2.2.2)) b.1 a.2.2.1 c) λd=>(some (d))))))))
theorem aaA:bB Tryz.prog 235:=Tryz.call235
theorem Hv (U:Nat) {d:PW} {k:fF} {y:Int} (g e:Nat) (o p q s:V0) (B:kX) (t:V0) (C:nG) (A:V0) (v:nG) (m:V0) (r:Int) (h:nE U d k y=some r):
  bE Tryz.prog 235 #[vP g,Value.agg #[vI (k.1),vI (k.2)],vI (y)] [bM g [vP e,A,vI (d.2.2.1),m] 237,bM e [vS (d.1.1.1),o,p,q,s,vI (d.1.2.2.1),t] 206,Sl aE o d.1.1.2.1,Sl aD p d.1.1.2.2,Sl aM q d.1.2.1.1,S2 aY s B d.1.2.1.2,S2 aM t C d.1.2.2.2,S2 aM A v d.2.1,Sl aY m d.2.2.2] (λx:Unit=>vI (r)) (λx l=>l) (λ_ l=>l):=by
 refine bE.of Tryz.func235 Z Tryz.ntmps235 Z λc=>?_;refine aU<|aJ (aQ.box (cs:=[vI (k.1),vI (k.2)]) Z Z) Z λE=>aC Z<|aP<|aN<|aU<|bV Z<|dK 0 Z<|aP<|aT<|aU<|cH Z<|aC Z<|aP ?_;refine eG h Z (λh=>?_) λh=>?_
 ·refine aU<|bV Z<|dK 0 Z<|aC Z<|aP<|aS<|bF<|aG ?_;cases h;exact mO Z
 refine aU<|cH Z<|aC Z<|aP ?_;refine eG h Z (λh=>?_) λh=>?_
 ·refine aU<|aC Z<|aP<|aS<|bF<|aG ?_;cases h;exact mO Z
 refine aU<|cH Z<|aC Z<|aP ?_;refine eG h Z (λh=>?_) λh=>?_
 ·refine aU<|aC Z<|aP<|aS<|bF<|aG ?_;cases h;exact mO Z
 refine aU<|cH Z<|aC Z<|aP ?_;refine eG h Z (λh=>?_) λh=>?_
 ·refine aU<|aC Z<|aP<|aS<|bF<|aG ?_;cases h;exact mO Z
 refine aU<|cH Z<|aC Z<|aP ?_;refine eG h Z (λh=>?_) λh=>?_
 ·refine aN ?_;refine rP [0,1,3,7,0,16,48,112,255,511,0,1024,4095,8191,16383] 12 mixedOrders ?_;refine aV Z<|eN Z (bU Z)<|cC Z<|bA Z .nil (eV 0 Z) (fU Z (b_ Z) Z Z Z) aL.z<|aV Z<|eN Z (bU Z)<|cC Z<|bA Z .nil (eV 0 Z) (fU Z (b_ Z) Z Z Z) aL.z<|cQ h λf h=>bA Z .nil (eV 7 Z) (bK Z Z (b_ Z) Z Z f) aL.z<|bA Z .nil (eV 7 Z) (bS Z (b_ Z) Z Z f) aL.z<|cC Z<|eQ 0 Z<|bN 12 Z Z<|cQ h λw h=>aB (bG Z Z (zBc (z_ Z) f.1 f.2) Z Z w) Z<|aB (cI Z (zBc (z_ Z) f.1 f.2) Z Z Z eZ w) Z<|aC Z<|aP<|aS<|bF<|aG ?_;cases h;exact mO Z
 refine aU<|cH Z<|aC Z<|aP ?_;refine eG h Z (λh=>?_) λh=>?_
 ·refine aN ?_;refine rP [0,1,3,7,0,16,48,112,240,496,1008,2032,0,4096,12288,28672,65520,131056,0,524272,1048560,2097136,4194303,8388607,0,16777216,67108863,134217727,268435455] 26 mixedOrders ?_;refine aV Z<|eN Z (bU Z)<|cC Z<|bA Z .nil (eV 0 Z) (fU Z (b_ Z) Z Z Z) aL.z<|aV Z<|eN Z (bU Z)<|cC Z<|bA Z .nil (eV 0 Z) (fU Z (b_ Z) Z Z Z) aL.z<|eN Z (bU Z)<|cC Z<|cC Z<|bA Z .nil (eV 1 Z) (fU Z (b_ Z) Z Z Z) aL.z<|aV Z<|eN Z (bU Z)<|cC Z<|bA Z .nil (eV 0 Z) (fU Z (b_ Z) Z Z Z) aL.z<|cQ h λa h=>bA Z .nil (eV 5 Z) (bK Z Z (b_ Z) Z Z a) aL.z<|bA Z .nil (eV 5 Z) (bS Z (b_ Z) Z Z a) aL.z<|aV Z<|cQ h λi h=>bA Z .nil (eV 5 Z) (bG Z Z (zBc (b_ Z) a.1 a.2) Z Z i) aL.z<|eN Z (dC Z Z Z Z Z)<|bA Z .nil (eV 5 Z) (eL Z (zBc (b_ Z) a.1 a.2) Z Z Z gA i) aL.z<|cQ h λb h=>bA Z .nil (eV 7 Z) (bK Z Z (b_ Z) Z Z b) aL.z<|bA Z .nil (eV 7 Z) (bS Z (b_ Z) Z Z b) aL.z<|cC Z<|eQ 0 Z<|bN 26 Z Z<|cQ h λj h=>aB (bG Z Z (zBc (z_ Z) b.1 b.2) Z Z j) Z<|aB (cI Z (zBc (z_ Z) b.1 b.2) Z Z Z eZ j) Z<|aC Z<|aP<|aS<|bF<|aG ?_;cases h;exact mO Z
 refine dW<|lA<|aN ?_;refine rP [0,1,3,7,0,16,0,64,192,448,0,2047,4095] 11 mixedOrders ?_;refine aV Z<|eN Z (bU Z)<|cC Z<|bA Z .nil (eV 0 Z) (fU Z (b_ Z) Z Z Z) aL.z<|cC Z<|eQ 0 Z<|aV Z<|eN Z (bU Z)<|cC Z<|bA Z .nil (eV 0 Z) (fU Z (b_ Z) Z Z Z) aL.z<|aV Z<|bN 11 Z Z<|eI h λn u h=>aJ (zBb aaE (GE U e o p q s B t C n u) Z (iB [1,2,3,4,5,6] Z)) Z λD=>aC Z<|aP<|aS ?_;cases h;exact mO Z
def Db (U:Nat) (b a:Int):Option (Int):=
 if b=(18:Int)then(some (wI .i64 (0 - a)))else(Option.bind (kL U (decide (a=(0:Int)))) λc=>(some (c)))
theorem aaB:bB Tryz.prog 236:=Tryz.call236
theorem PD (U:Nat) {a b:Int} (r:Int) (h:Db U a b=some r):
  bE Tryz.prog 236 #[vI (a),vI (b)] [] (λx:Unit=>vI (r)) (λx l=>l) (λ_ l=>l):=by
 refine bE.of Tryz.func236 Z Tryz.ntmps236 Z λc=>?_;refine aU<|aC Z<|aP<|aN<|aU<|aA Z<|cH Z<|aP ?_;refine eG h Z (λh=>?_) λh=>?_
 ·refine aU<|aA Z<|aB (abW Z) Z<|aC Z<|aP<|aS<|aG ?_;cases h;exact iR Z
 refine cL<|aU<|aA Z<|cH Z<|eI h λd e h=>aJ (zBb BQ (mG U d e) Z .nil) Z λf=>aC Z<|aP<|aS ?_;cases h;exact iR Z
def kU (U:Nat) (a:Int):Option (Int):=
 some (max (-1073741824:Int) (min a (1073741824:Int)))
theorem Hb:bB Tryz.prog 262:=Tryz.call262
theorem nY (U:Nat) {a:Int} (r:Int) (h:kU U a=some r):
  bE Tryz.prog 262 #[vI (a)] [] (λx:Unit=>vI (r)) (λx l=>l) (λ_ l=>l):=by
 refine bE.of Tryz.func262 Z Tryz.ntmps262 Z λc=>?_;unfold kU at h;refine aU<|aC Z<|aP<|aU<|aA Z<|aB (Nq Z Z) Z<|aB (HB Z Z) Z<|aC Z<|aP<|aS ?_;cases h;exact iR Z
def qS (a:Int):Option (Int):=
 some (a)
def wB (a b:Int) (c:Bool):Option (Int):=
 if c=true then(qS (wI .i64 ((wI .i64 (Int.tdiv a b)) - (1:Int))))else(qS (wI .i64 (Int.tdiv a b)))
def sR (U:Nat) (b a:Int):Option (Int):=
 if a=(0:Int)then(some (0:Int))else(ck (a≠0) (ck (a≠0) (if(Int.tmod b a)≠(0:Int)then(wB b a (((decide (b<(0:Int))) != (decide (a<(0:Int))))))else(wB b a (false)))))
theorem Uc:bB Tryz.prog 263:=Tryz.call263
theorem FZ (U:Nat) {a b:Int} (r:Int) (h:sR U a b=some r):
  bE Tryz.prog 263 #[vI (a),vI (b)] [] (λx:Unit=>vI (r)) (λx l=>l) (λ_ l=>l):=by
 refine bE.of Tryz.func263 Z Tryz.ntmps263 Z λc=>?_;refine aU<|aC Z<|aP<|aN<|aU<|aA Z<|cH Z<|aP ?_;refine eG h Z (λh=>?_) λh=>?_
 ·refine aU<|aC Z<|aP<|aS<|aG ?_;cases h;exact iR Z
 refine cL<|aU<|aA Z<|aA Z<|cQ h λj h=>aB (WW Z Z j) Z<|aC Z<|aP<|aN<|eB (λd=>qS d=some r) (λd g=>[(5,vI (d))]) (λd g=>[]) ?_ ?_
 ·refine aN<|eB (λe=>wB a b e=some r) (λe i=>[(5,vI (wI .i64 (Int.tdiv a b))),(21,vB (e))]) (λe i=>[]) ?_ ?_
  ·refine aR<|aA Z<|aA Z<|cQ h λf h=>aB (Nr Z Z f) Z<|lB Z<|aA Z ?_;refine Ds h Z (λ_ h=>?_) λ_ h=>?_
   ·refine dD Z<|aW Z (EF Z Z) Z<|dD Z<|aW Z (EF Z Z) Z<|aW Z (WV Z Z Z) Z<|d_ Z<|aP ?_;exact f_ (((decide (a<(0:Int))) != (decide (b<(0:Int))))) () h SF Z
   refine aO Z<|aO Z<|aO Z<|aO Z<|aO Z<|eR Z<|aP ?_;exact f_ (false) () h SF Z
  intro e i h;refine rR h Z (λ_ h=>?_) λ_ h=>?_
  ·refine aR<|aA Z<|aB (nI Z Z) Z<|aC Z<|aP ?_;exact f_ (wI .i64 ((wI .i64 (Int.tdiv a b)) - (1:Int))) () h SF Z
  refine cL ?_;exact f_ (wI .i64 (Int.tdiv a b)) () h SF Z
 intro d g h;unfold qS at h;refine aU<|aA Z<|aC Z<|aP<|aS ?_;cases h;exact iR Z
def yF (U:Nat) (c a b:Int):Option Bool:=
 if c=(35:Int)then(some (decide (a=b)))else(if c=(36:Int)then(some (decide (a≠b)))else(if c=(37:Int)then(some (decide (a<b)))else(if c=(38:Int)then(some (decide (a<=b)))else(if c=(39:Int)then(some (decide (b<a)))else(some (decide (b<=a)))))))
theorem aaG:bB Tryz.prog 264:=Tryz.call264
theorem KG (U:Nat) {a b d:Int} (r:Bool) (h:yF U a b d=some r):
  bE Tryz.prog 264 #[vI (a),vI (b),vI (d)] [] (λx:Unit=>vB (r)) (λx l=>l) (λ_ l=>l):=by
 refine bE.of Tryz.func264 Z Tryz.ntmps264 Z λc=>?_;refine aU<|aC Z<|aP<|aN<|aU<|aA Z<|aP<|aT<|aU<|cH Z<|aC Z<|aP ?_;refine eG h Z (λh=>?_) λh=>?_
 ·refine aU<|aA Z<|aA Z<|cH Z<|aC Z<|aP<|aS<|bF<|aG ?_;cases h;exact iR Z
 refine aU<|cH Z<|aC Z<|aP ?_;refine eG h Z (λh=>?_) λh=>?_
 ·refine aU<|aA Z<|aA Z<|lB Z<|aC Z<|aP<|aS<|bF<|aG ?_;cases h;exact iR Z
 refine aU<|cH Z<|aC Z<|aP ?_;refine eG h Z (λh=>?_) λh=>?_
 ·refine aU<|aA Z<|aA Z<|cU Z<|aC Z<|aP<|aS<|bF<|aG ?_;cases h;exact iR Z
 refine aU<|cH Z<|aC Z<|aP ?_;refine eG h Z (λh=>?_) λh=>?_
 ·refine aU<|aA Z<|aA Z<|aB (CS Z Z) Z<|aC Z<|aP<|aS<|bF<|aG ?_;cases h;exact iR Z
 refine aU<|cH Z<|aC Z<|aP ?_;refine eG h Z (λh=>?_) λh=>?_
 ·refine aU<|aA Z<|aA Z<|aB (wY Z Z) Z<|aC Z<|aP<|aS<|bF<|aG ?_;cases h;exact iR Z
 refine dW<|lA<|aU<|aA Z<|aA Z<|aB (uI Z Z) Z<|aC Z<|aP<|aS ?_;cases h;exact iR Z
def qQ (a:Int):Option (Int):=
 some (a)
def qR (a:Int):Option (Int):=
 some (a)
def BV (U:Nat) (c b a:Int):Option (Int):=
 if c=(30:Int)then(Option.bind (kU U (wI .i64 (b*a))) λn=>(some (n)))else(if c=(31:Int)then(Option.bind (sR U b a) λo=>(Option.bind (kU U o) λp=>(some (p))))else(if c=(32:Int)then(if a=(0:Int)then(some (0:Int))else(Option.bind (sR U b a) λd=>(Option.bind (kU U (wI .i64 (b - (wI .i64 (a*d))))) λe=>(some (e)))))else(if c=(33:Int)then(Option.bind (kU U (wI .i64 (b+a))) λf=>(some (f)))else(if c=(34:Int)then(Option.bind (kU U (wI .i64 (b - a))) λg=>(some (g)))else(if c=(41:Int)then(if b≠(0:Int)then(Option.bind (kL U (decide (a≠(0:Int)))) λh=>(qQ (h)))else(Option.bind (kL U false) λi=>(qQ (i))))else(if c=(42:Int)then(if b≠(0:Int)then(Option.bind (kL U true) λj=>(qR (j)))else(Option.bind (kL U (decide (a≠(0:Int)))) λk=>(qR (k))))else(Option.bind (yF U c b a) λl=>(Option.bind (kL U l) λm=>(some (m))))))))))
theorem aaC:bB Tryz.prog 238:=Tryz.call238
theorem MW (U:Nat) {E F G:Int} (r:Int) (h:BV U E F G=some r):
  bE Tryz.prog 238 #[vI (E),vI (F),vI (G)] [] (λx:Unit=>vI (r)) (λx l=>l) (λ_ l=>l):=by
 refine bE.of Tryz.func238 Z Tryz.ntmps238 Z λc=>?_;refine aU<|aC Z<|aP<|aN<|aU<|aA Z<|aP<|aT<|aU<|cH Z<|aC Z<|aP ?_;refine eG h Z (λh=>?_) λh=>?_
 ·refine aU<|aA Z<|aA Z<|aB (xA Z Z) Z<|eI h λH K h=>aJ (zBb Hb (nY U H K) Z .nil) Z λY=>aC Z<|aP<|aS<|bF<|aG ?_;cases h;exact iR Z
 refine aU<|cH Z<|aC Z<|aP ?_;refine eG h Z (λh=>?_) λh=>?_
 ·refine aU<|aA Z<|aA Z<|eI h λI L h=>aJ (zBb Uc (FZ U I L) Z .nil) Z λx8=>eI h λJ s h=>aJ (zBb Hb (nY U J s) Z .nil) Z λM=>aC Z<|aP<|aS<|bF<|aG ?_;cases h;exact iR Z
 refine aU<|cH Z<|aC Z<|aP ?_;refine eG h Z (λh=>?_) λh=>?_
 ·refine aN<|aU<|aA Z<|cH Z<|aP ?_;refine eG h Z (λh=>?_) λh=>?_
  ·refine aU<|aC Z<|aP<|aS<|aG<|bF<|aG ?_;cases h;exact iR Z
  refine cL<|aU<|aA Z<|aA Z<|aA Z<|aA Z<|eI h λk t h=>aJ (zBb Uc (FZ U k t) Z .nil) Z λN=>aB (xA Z Z) Z<|aB (nI Z Z) Z<|eI h λm u h=>aJ (zBb Hb (nY U m u) Z .nil) Z λO=>aC Z<|aP<|aS<|bF<|aG ?_;cases h;exact iR Z
 refine aU<|cH Z<|aC Z<|aP ?_;refine eG h Z (λh=>?_) λh=>?_
 ·refine aU<|aA Z<|aA Z<|cN Z<|eI h λn v h=>aJ (zBb Hb (nY U n v) Z .nil) Z λP=>aC Z<|aP<|aS<|bF<|aG ?_;cases h;exact iR Z
 refine aU<|cH Z<|aC Z<|aP ?_;refine eG h Z (λh=>?_) λh=>?_
 ·refine aU<|aA Z<|aA Z<|aB (nI Z Z) Z<|eI h λo w h=>aJ (zBb Hb (nY U o w) Z .nil) Z λQ=>aC Z<|aP<|aS<|bF<|aG ?_;cases h;exact iR Z
 refine aU<|cH Z<|aC Z<|aP ?_;refine eG h Z (λh=>?_) λh=>?_
 ·refine aN<|eB (λa=>qQ a=some r) (λa d=>[(6,vI (a))]) (λa d=>[]) ?_ ?_
  ·refine aR<|aA Z<|lB Z<|aA Z ?_;refine Ds h Z (λ_ h=>?_) λ_ h=>?_
   ·refine dD Z<|aW Z (Bg Z Z) Z<|d_ Z<|eI h λf y h=>aJ (zBb BQ (mG U f y) Z .nil) Z λR=>aC Z<|aP ?_;exact f_ (f) () h SF Z
   refine aO Z<|aO Z<|eR Z<|eI h λg z h=>aJ (zBb BQ (mG U g z) Z .nil) Z λS=>aC Z<|aP ?_;exact f_ (g) () h SF Z
  intro a d h;unfold qQ at h;refine aS<|bF<|aG ?_;cases h;exact iR Z
 refine aU<|cH Z<|aC Z<|aP ?_;refine eG h Z (λh=>?_) λh=>?_
 ·refine aN<|eB (λb=>qR b=some r) (λb e=>[(6,vI (b))]) (λb e=>[]) ?_ ?_
  ·refine aR<|aA Z<|lB Z<|aA Z ?_;refine Ds h Z (λ_ h=>?_) λ_ h=>?_
   ·refine aO Z<|aO Z<|d_ Z<|eI h λi A h=>aJ (zBb BQ (mG U i A) Z .nil) Z λT=>aC Z<|aP ?_;exact f_ (i) () h SF Z
   refine dD Z<|aW Z (Bg Z Z) Z<|eR Z<|eI h λj B h=>aJ (zBb BQ (mG U j B) Z .nil) Z λV=>aC Z<|aP ?_;exact f_ (j) () h SF Z
  intro b e h;unfold qR at h;refine aS<|bF<|aG ?_;cases h;exact iR Z
 refine dW<|lA<|aU<|aA Z<|aA Z<|aA Z<|eI h λp C h=>aJ (zBb aaG (KG U p C) Z .nil) Z λW=>eI h λq D h=>aJ (zBb BQ (mG U q D) Z .nil) Z λX=>aC Z<|aP<|aS ?_;cases h;exact iR Z
def BR (a:Int):Option (Int):=
 some (a)
def xJ (c:fF) (b:fW->Option (Int)) (a:Int):Option (Int):=
 b (a,(wI .i64 (c.2+(1:Int))))
def tE (c:bT) (a:fF) (b:fW->Option (Int)):Option (Int):=
 if a.2<(c.length:Int)then(ck (0<=a.2/\a.2<(c.length:Int)) (if(at' c a.2)≠(0:Int)then(xJ a b (wI .i64 (a.1+(1:Int))))else(xJ a b (a.1))))else(BR (a.1))
def r_ (U:Nat) (a:bT):Option (Int):=
 bL (tE a) U ((0:Int),(0:Int))
theorem OM:bB Tryz.prog 280:=Tryz.call280
theorem FM (U:Nat) {d:bT} (i:V0) (r:Int) (h:r_ U d=some r):
  bE Tryz.prog 280 #[i] [Sl aM i d] (λx:Unit=>vI (r)) (λx l=>l) (λ_ l=>l):=by
 refine bE.of Tryz.func280 Z Tryz.ntmps280 Z λc=>?_;unfold r_ at h;refine aU<|aC Z<|aP<|aU<|aC Z<|aP<|aN<|eB (λe=>BR e=some r) (λe j=>[(3,vI (e))]) (λe j=>[]) ?_ ?_
 ·refine aU<|aA Z<|iL (b_ Z) Z<|aA Z<|aP<|aT<|eW (tE d) (λb k=>[(3,vI (b.1)),(6,i),(7,vI (d.length:Int)),(8,vI (b.2))]) (λb k=>[]) ((0:Int),(0:Int)) () h SF (a_.refl _) ?_;intro m b k h;refine aU<|cU Z<|aP<|aN ?_;refine eG h Z (λh=>?_) λh=>?_
  ·refine cL<|aN<|eB (λa=>xJ b (bL (tE d) m) a=some r) (λa f=>[(3,vI (a)),(6,i),(7,vI (d.length:Int)),(8,vI (b.2))]) (λa f=>[]) ?_ ?_
   ·refine aT<|aU<|cQ h λg h=>aB (bG Z Z (b_ Z) Z Z g) Z<|aB (cI Z (b_ Z) Z Z Z eZ g) Z<|aC Z<|aP<|aU<|aA Z<|lB Z<|aP ?_;refine eG h Z (λh=>?_) λh=>?_
    ·refine aR<|aA Z<|cN Z<|aC Z<|eS<|lA ?_;exact f_ (wI .i64 (b.1+(1:Int))) () h SF Z
    refine dW<|lA ?_;exact f_ (b.1) () h SF Z
   intro a f h;unfold xJ at h;refine aR<|cN Z<|aA Z<|aP ?_;exact xD (a,(wI .i64 (b.2+(1:Int)))) () h SF Z
  refine eP ?_;exact f_ (b.1) () h SF Z
 intro e j h;unfold BR at h;refine aU<|aA Z<|aC Z<|aP<|aS ?_;cases h;exact iR Z
def qM (a:Unit):Option (Int):=
 some (-1:Int)
def iX (c:bT) (e:Int->Option Bool) (a:Int) (b:(Int)->Option (Int)):Option (Int):=
 if a<(c.length:Int)then(ck (0<=a/\a<(c.length:Int)) (Option.bind (e (at' c a)) λd=>(if d=true then(some (a))else(b (wI .i64 (a+(1:Int)))))))else(qM (()))
def oH (U:Nat) (b:bT) (a:Int->Option Bool):Option (Int):=
 bL (iX b a) U (0:Int)
theorem aaH:bB Tryz.prog 281:=Tryz.call281
theorem Im (U:Nat) {b:bT} {o:Int->Option Bool} (k:FuncId) (a:fL) (j:List bI) (e:bB Tryz.prog k) (f:∀(t:Int) (r:Bool),o t=some r->bE Tryz.prog k ([vI (t)]++a).toArray j (λ_:Unit=>vB (r)) (λ_ l=>l) (λ_ l=>l)) (i:V0) (r:Int) (h:oH U b o=some r):
  bE Tryz.prog 281 #[i,Value.func (.func k) #[] (a).toArray] ([Sl aM i b]++j) (λx:Unit=>vI (r)) (λx l=>l) (λ_ l=>l):=by
 refine bE.of Tryz.func281 Z Tryz.ntmps281 Z λc=>?_;unfold oH at h;refine aU<|aC Z<|aP<|aN<|jW (B:=Unit) (λg=>qM g=some r) (λg m=>[]) (λg m=>[]) (λg m=>([Sl aM i b]++j)) ?_ ?_
 ·refine aU<|aA Z<|iL (b_ Z) Z<|aA Z<|aP<|aT<|nH (B:=Unit) (iX b o) (λd n=>[(0,i),(1,Value.func (.func k) #[] (a).toArray),(7,vI (b.length:Int)),(8,vI (d))]) (λd n=>[]) (λd n=>([Sl aM i b]++j)) (0:Int) () h SF (a_.refl _) (aH.refl _ _) ?_;intro v d n h;refine aU<|cU Z<|aP<|aN ?_;refine eG h Z (λh=>?_) λh=>?_
  ·refine cL<|aN<|aT<|aU<|aA Z<|aC Z<|aP<|aU<|aA Z<|aA Z<|aA Z<|cQ h λs h=>aB (bG Z Z (b_ Z) Z Z s) Z<|aB (cI Z (b_ Z) Z Z Z eZ s) Z<|eI h λp q h=>aJ (uF (vs:=[vI (at' b d)]) (cs:=a) e Z (f (at' b d) p q) Z (aH.tail _) (λ_ _=>rfl)) Z λu=>aP ?_;refine rR h Z (λ_ h=>?_) λ_ h=>?_
   ·refine aU<|aA Z<|aC Z<|aP<|aS<|bF<|aG<|aG<|bF<|aG ?_;cases h;exact iR Z
   refine dW<|lA<|aR<|cN Z<|aA Z<|aP ?_;exact xD (wI .i64 (d+(1:Int))) () h SF Z
  refine eP ?_;exact f_ () (()) h SF Z
 intro g m h;unfold qM at h;refine aU<|aC Z<|aP<|aS ?_;cases h;exact iR Z
def pW (U:Nat) (a:Int):Option Bool:=
 some (decide (a≠(0:Int)))
theorem aaI:bB Tryz.prog 282:=Tryz.call282
theorem MX (U:Nat) {a:Int} (r:Bool) (h:pW U a=some r):
  bE Tryz.prog 282 #[vI (a)] [] (λx:Unit=>vB (r)) (λx l=>l) (λ_ l=>l):=by
 refine bE.of Tryz.func282 Z Tryz.ntmps282 Z λc=>?_;unfold pW at h;refine aU<|aC Z<|aP<|aU<|aA Z<|lB Z<|aC Z<|aP<|aS ?_;cases h;exact iR Z
def xE (a:fF):Option fW:=
 some (a.1,a.2)
def qI (c:DO) (b:(Int×Int×Int)->Option fW) (a:fF):Option fW:=
 b (a.1,a.2,(wI .i64 (c.2.2+(1:Int))))
def xF (c:bT) (a:DO) (b:(Int×Int×Int)->Option fW):Option fW:=
 if a.2.2<(c.length:Int)then(ck (0<=a.2.2/\a.2.2<(c.length:Int)) (if a.1<(at' c a.2.2)then(qI a b ((at' c a.2.2),a.1))else(qI a b (a.1,(max a.2.1 (at' c a.2.2))))))else(xE (a.1,a.2.1))
def sA (U:Nat) (a:bT):Option fW:=
 bL (xF a) U ((-1073741824:Int),(-1073741824:Int),(0:Int))
theorem Ud:bB Tryz.prog 283:=Tryz.call283
theorem DI (U:Nat) {d:bT} (j:V0) (r:fF) (h:sA U d=some r):
  bE Tryz.prog 283 #[j] [Sl aM j d] (λx:Unit=>Value.tuple #[vI (r.1),vI (r.2)]) (λx l=>l) (λ_ l=>l):=by
 refine bE.of Tryz.func283 Z Tryz.ntmps283 Z λc=>?_;unfold sA at h;refine aU<|aC Z<|aC Z<|aP<|aU<|aC Z<|aC Z<|aP<|aN<|eB (λe=>xE e=some r) (λe m=>[(2,vI (e.1)),(3,vI (e.2))]) (λe m=>[]) ?_ ?_
 ·refine aU<|aA Z<|iL (b_ Z) Z<|aA Z<|aP<|aT<|eW (xF d) (λb f=>[(2,vI (b.1)),(3,vI (b.2.1)),(6,j),(7,vI (d.length:Int)),(8,vI (b.2.2))]) (λb f=>[]) ((-1073741824:Int),(-1073741824:Int),(0:Int)) () h SF (a_.refl _) ?_;intro k b f h;refine aU<|cU Z<|aP<|aN ?_;refine eG h Z (λh=>?_) λh=>?_
  ·refine cL<|aN<|eB (λa=>qI b (bL (xF d) k) a=some r) (λa g=>[(2,vI (a.1)),(3,vI (a.2)),(6,j),(7,vI (d.length:Int)),(8,vI (b.2.2))]) (λa g=>[]) ?_ ?_
   ·refine aT<|aU<|cQ h λi h=>aB (bG Z Z (b_ Z) Z Z i) Z<|aB (cI Z (b_ Z) Z Z Z eZ i) Z<|aC Z<|aP<|aU<|aA Z<|aA Z<|aB (wY Z Z) Z<|aP ?_;refine eG h Z (λh=>?_) λh=>?_
    ·refine aR<|aA Z<|aA Z<|aC Z<|aC Z<|eS<|lA ?_;exact f_ ((at' d b.2.2),b.1) () h SF Z
    refine aR<|aA Z<|aA Z<|aB (HB Z Z) Z<|aC Z<|eS<|lA ?_;exact f_ (b.1,(max b.2.1 (at' d b.2.2))) () h SF Z
   intro a g h;unfold qI at h;refine aR<|cN Z<|aA Z<|aP ?_;exact xD (a.1,a.2,(wI .i64 (b.2.2+(1:Int)))) () h SF Z
  refine eP ?_;exact f_ (b.1,b.2.1) () h SF Z
 intro e m h;unfold xE at h;refine aU<|aA Z<|aA Z<|aC Z<|aC Z<|aP<|aS ?_;cases h;exact gY () Z Z (RV.tmp Z) (RV.tmp Z) (a_.refl _) aH.nil
def yN (a:Unit):Option (Int):=
 some (-1:Int)
def lT (c:bT) (d a:Int) (b:(Int)->Option (Int)):Option (Int):=
 if a<(c.length:Int)then(ck (0<=a/\a<(c.length:Int)) (if d=(at' c a)then(some (a))else(b (wI .i64 (a+(1:Int))))))else(yN (()))
def qW (U:Nat) (a:bT) (b:Int):Option (Int):=
 bL (lT a b) U (0:Int)
theorem aap:bB Tryz.prog 178:=Tryz.call178
theorem Mw (U:Nat) {d:bT} {e:Int} (f:V0) (r:Int) (h:qW U d e=some r):
  bE Tryz.prog 178 #[f,vI (e)] [Sl aM f d] (λx:Unit=>vI (r)) (λx l=>l) (λ_ l=>l):=by
 refine bE.of Tryz.func178 Z Tryz.ntmps178 Z λc=>?_;unfold qW at h;refine aU<|aC Z<|aP<|aN<|eB (λa=>yN a=some r) (λa g=>[]) (λa g=>[]) ?_ ?_
 ·refine aU<|aA Z<|iL (b_ Z) Z<|aA Z<|aP<|aT<|eW (lT d e) (λb i=>[(0,f),(1,vI (e)),(7,vI (d.length:Int)),(8,vI (b))]) (λb i=>[]) (0:Int) () h SF (a_.refl _) ?_;intro k b i h;refine aU<|cU Z<|aP<|aN ?_;refine eG h Z (λh=>?_) λh=>?_
  ·refine cL<|aN<|aT<|aU<|aA Z<|aC Z<|aP<|aU<|aA Z<|aA Z<|aA Z<|cQ h λj h=>aB (bG Z Z (b_ Z) Z Z j) Z<|aB (cI Z (b_ Z) Z Z Z eZ j) Z<|cH Z<|aP ?_;refine eG h Z (λh=>?_) λh=>?_
   ·refine aU<|aA Z<|aC Z<|aP<|aS<|bF<|aG<|aG<|bF<|aG ?_;cases h;exact iR Z
   refine dW<|lA<|aR<|cN Z<|aA Z<|aP ?_;exact xD (wI .i64 (b+(1:Int))) () h SF Z
  refine eP ?_;exact f_ () (()) h SF Z
 intro a g h;unfold yN at h;refine aU<|aC Z<|aP<|aS ?_;cases h;exact iR Z
def tV (U:Nat) (a:bT) (b:Int):Option Bool:=
 Option.bind (qW U a b) λc=>(some (decide ((0:Int)<=c)))
theorem aaK:bB Tryz.prog 290:=Tryz.call290
theorem Jk (U:Nat) {b:bT} {d:Int} (a:V0) (r:Bool) (h:tV U b d=some r):
  bE Tryz.prog 290 #[a,vI (d)] [Sl aM a b] (λx:Unit=>vB (r)) (λx l=>l) (λ_ l=>l):=by
 refine bE.of Tryz.func290 Z Tryz.ntmps290 Z λc=>?_;refine aU<|aC Z<|aP<|aU<|aA Z<|aA Z<|eI h λe f h=>aJ (zBb aap (Mw U a e f) Z (iB [0] Z)) Z λg=>aB (uI Z Z) Z<|aC Z<|aP<|aS ?_;cases h;exact iR Z
def DZ (a:Int):Option (Int):=
 some (a)
def Cv (U:Nat) (c:bT) (a:Int) (b:(Int)->Option (Int)):Option (Int):=
 Option.bind (tV U c a) λd=>(if d=true then(b (wI .i64 (a+(1:Int))))else(DZ (a)))
def Dx (U:Nat) (a:bT):Option (Int):=
 bL (Cv U a) U (0:Int)
theorem aaJ:bB Tryz.prog 284:=Tryz.call284
theorem Tx (U:Nat) {e:bT} (d:V0) (r:Int) (h:Dx U e=some r):
  bE Tryz.prog 284 #[d] [Sl aM d e] (λx:Unit=>vI (r)) (λx l=>l) (λ_ l=>l):=by
 refine bE.of Tryz.func284 Z Tryz.ntmps284 Z λc=>?_;unfold Dx at h;refine aU<|aC Z<|aP<|aU<|aC Z<|aP<|aN<|eB (λa=>DZ a=some r) (λa g=>[(3,vI (a))]) (λa g=>[]) ?_ ?_
 ·refine aT<|eW (Cv U e) (λb i=>[(0,d),(3,vI (b))]) (λb i=>[]) (0:Int) () h SF (a_.refl _) ?_;intro m b i h;refine aN<|aU<|aA Z<|aA Z<|eI h λj f h=>aJ (zBb aaK (Jk U d j f) Z (iB [0] Z)) Z λk=>aP ?_;refine rR h Z (λ_ h=>?_) λ_ h=>?_
  ·refine cL<|aT<|aR<|aA Z<|cN Z<|aC Z<|eS<|lA ?_;exact xD (wI .i64 (b+(1:Int))) () h SF Z
  refine eP ?_;exact f_ (b) () h SF Z
 intro a g h;unfold DZ at h;refine aU<|aA Z<|aC Z<|aP<|aS ?_;cases h;exact iR Z
def CZ (a:Int):Option (Int):=
 some (a)
def v_ (c:bT) (a:fF) (b:fW->Option (Int)):Option (Int):=
 if a.2<(c.length:Int)then(ck (0<=a.2/\a.2<(c.length:Int)) (b ((min a.1 (at' c a.2)),(wI .i64 (a.2+(1:Int))))))else(CZ (a.1))
def Fu (U:Nat) (a:Int):Option (Int):=
 Option.bind (kU U a) λb=>(some (b))
def wA (U:Nat) (c:bT) (a:fF) (b:fW->Option (Int)):Option (Int):=
 if a.2<(c.length:Int)then(ck (0<=a.2/\a.2<(c.length:Int)) (b ((wI .i64 (a.1+(at' c a.2))),(wI .i64 (a.2+(1:Int))))))else(Fu U (a.1))
def Ed (U:Nat) (b:Int) (a:bT):Option (Int):=
 if b=(20:Int)then(Option.bind (r_ U a) λi=>(Option.bind (kL U (decide (i=(a.length:Int)))) λj=>(some (j))))else(if b=(21:Int)then(Option.bind (r_ U a) λk=>(Option.bind (kL U (decide ((0:Int)<k))) λc=>(some (c))))else(if b=(22:Int)then(Option.bind (r_ U a) λd=>(some (d)))else(if b=(23:Int)then(Option.bind (oH U a (λl=>pW U l)) λe=>(some (e)))else(if b=(24:Int)then(bL (v_ a) U ((1073741824:Int),(0:Int)))else(if b=(25:Int)then(Option.bind (sA U a) λf=>(some (f.1)))else(if b=(26:Int)then(bL (wA U a) U ((0:Int),(0:Int)))else(if b=(27:Int)then(Option.bind (Dx U a) λg=>(some (g)))else(if b=(28:Int)then(Option.bind (sA U a) λh=>(some (h.2)))else(if(a.length:Int)=(0:Int)then(some (0:Int))else(ck (0<=(0:Int)/\(0:Int)<(a.length:Int)) (some (at' a (0:Int)))))))))))))
theorem aaF:bB Tryz.prog 261:=Tryz.call261
theorem Rs (U:Nat) {H:Int} {g:bT} (f:V0) (r:Int) (h:Ed U H g=some r):
  bE Tryz.prog 261 #[vI (H),f] [Sl aM f g] (λx:Unit=>vI (r)) (λx l=>l) (λ_ l=>l):=by
 refine bE.of Tryz.func261 Z Tryz.ntmps261 Z λc=>?_;refine aU<|aC Z<|aP<|aN<|aU<|aA Z<|aP<|aT<|aU<|cH Z<|aC Z<|aP ?_;refine eG h Z (λh=>?_) λh=>?_
 ·refine aU<|aA Z<|eI h λK N h=>aJ (zBb OM (FM U f K N) Z (iB [0] Z)) Z λY=>aA Z<|iL (b_ Z) Z<|cH Z<|eI h λL O h=>aJ (zBb BQ (mG U L O) Z .nil) Z λx7=>aC Z<|aP<|aS<|bF<|aG ?_;cases h;exact iR Z
 refine aU<|cH Z<|aC Z<|aP ?_;refine eG h Z (λh=>?_) λh=>?_
 ·refine aU<|aA Z<|eI h λM z h=>aJ (zBb OM (FM U f M z) Z (iB [0] Z)) Z λP=>aB (wY Z Z) Z<|eI h λq A h=>aJ (zBb BQ (mG U q A) Z .nil) Z λQ=>aC Z<|aP<|aS<|bF<|aG ?_;cases h;exact iR Z
 refine aU<|cH Z<|aC Z<|aP ?_;refine eG h Z (λh=>?_) λh=>?_
 ·refine aU<|aA Z<|eI h λs B h=>aJ (zBb OM (FM U f s B) Z (iB [0] Z)) Z λR=>aC Z<|aP<|aS<|bF<|aG ?_;cases h;exact iR Z
 refine aU<|cH Z<|aC Z<|aP ?_;refine eG h Z (λh=>?_) λh=>?_
 ·refine aU<|aA Z<|eI h λt C h=>aJ (zBb aaH (Im U 282 [] [] aaI (λy0 r h=>MX U r h) f t C) Z (iB [0] Z)) Z λS=>aC Z<|aP<|aS<|bF<|aG ?_;cases h;exact iR Z
 refine aU<|cH Z<|aC Z<|aP ?_;refine eG h Z (λh=>?_) λh=>?_
 ·refine aU<|aC Z<|aP<|aN<|eB (λd=>CZ d=some r) (λd i=>[(5,vI (d))]) (λd i=>[]) ?_ ?_
  ·refine aU<|aA Z<|iL (b_ Z) Z<|aA Z<|aP<|aT<|eW (v_ g) (λa j=>[(5,vI (a.1)),(40,f),(41,vI (g.length:Int)),(42,vI (a.2))]) (λa j=>[]) ((1073741824:Int),(0:Int)) () h SF (a_.refl _) ?_;intro I a j h;refine aU<|cU Z<|aP<|aN ?_;refine eG h Z (λh=>?_) λh=>?_
   ·refine cL<|aN<|aT<|aU<|cQ h λn h=>aB (bG Z Z (b_ Z) Z Z n) Z<|aB (cI Z (b_ Z) Z Z Z eZ n) Z<|aC Z<|aP<|aR<|aA Z<|aA Z<|aB (Nq Z Z) Z<|aC Z<|eS<|lA<|aR<|cN Z<|aA Z<|aP ?_;exact xD ((min a.1 (at' g a.2)),(wI .i64 (a.2+(1:Int)))) () h SF Z
   refine eP ?_;exact f_ (a.1) () h SF Z
  intro d i h;unfold CZ at h;refine aU<|aA Z<|aC Z<|aP<|aS<|bF<|aG ?_;cases h;exact iR Z
 refine aU<|cH Z<|aC Z<|aP ?_;refine eG h Z (λh=>?_) λh=>?_
 ·refine aU<|aA Z<|eI h λu D h=>aJ (zBb Ud (DI U f u D) Z (iB [0] Z)) Z λT=>aA Z<|iN Z<|iN Z<|aC Z<|aC Z<|aP<|aU<|aA Z<|aC Z<|aP<|aS<|bF<|aG ?_;cases h;exact iR Z
 refine aU<|cH Z<|aC Z<|aP ?_;refine eG h Z (λh=>?_) λh=>?_
 ·refine aU<|aC Z<|aP<|aN<|eB (λe=>Fu U e=some r) (λe k=>[(10,vI (e))]) (λe k=>[]) ?_ ?_
  ·refine aU<|aA Z<|iL (b_ Z) Z<|aA Z<|aP<|aT<|eW (wA U g) (λb m=>[(10,vI (b.1)),(61,f),(62,vI (g.length:Int)),(63,vI (b.2))]) (λb m=>[]) ((0:Int),(0:Int)) () h SF (a_.refl _) ?_;intro J b m h;refine aU<|cU Z<|aP<|aN ?_;refine eG h Z (λh=>?_) λh=>?_
   ·refine cL<|aN<|aT<|aU<|cQ h λo h=>aB (bG Z Z (b_ Z) Z Z o) Z<|aB (cI Z (b_ Z) Z Z Z eZ o) Z<|aC Z<|aP<|aR<|aA Z<|aA Z<|cN Z<|aC Z<|eS<|lA<|aR<|cN Z<|aA Z<|aP ?_;exact xD ((wI .i64 (b.1+(at' g b.2))),(wI .i64 (b.2+(1:Int)))) () h SF Z
   refine eP ?_;exact f_ (b.1) () h SF Z
  intro e k h;refine aU<|aA Z<|eI h λv E h=>aJ (zBb Hb (nY U v E) Z .nil) Z λV=>aC Z<|aP<|aS<|bF<|aG ?_;cases h;exact iR Z
 refine aU<|cH Z<|aC Z<|aP ?_;refine eG h Z (λh=>?_) λh=>?_
 ·refine aU<|aA Z<|eI h λw F h=>aJ (zBb aaJ (Tx U f w F) Z (iB [0] Z)) Z λW=>aC Z<|aP<|aS<|bF<|aG ?_;cases h;exact iR Z
 refine aU<|cH Z<|aC Z<|aP ?_;refine eG h Z (λh=>?_) λh=>?_
 ·refine aU<|aA Z<|eI h λy G h=>aJ (zBb Ud (DI U f y G) Z (iB [0] Z)) Z λX=>aA Z<|iN Z<|iN Z<|aC Z<|aC Z<|aP<|aU<|aA Z<|aC Z<|aP<|aS<|bF<|aG ?_;cases h;exact iR Z
 refine dW<|lA<|aN<|aU<|aA Z<|iL (b_ Z) Z<|cH Z<|aP ?_;refine eG h Z (λh=>?_) λh=>?_
 ·refine aU<|aC Z<|aP<|aS<|aG ?_;cases h;exact iR Z
 refine cL<|aU<|aA Z<|cQ h λp h=>aB (bG Z Z (b_ Z) Z Z p) Z<|aB (cI Z (b_ Z) Z Z Z eZ p) Z<|aC Z<|aP<|aS ?_;cases h;exact iR Z
def oV (a:fF):Option fW:=
 some (a.1,a.2)
def lW (U:Nat) (a:PW) (e:Int) (b:Int×bT) (c:Int):Option fW:=
 ck (0<=((at' a.1.2.1.2 a.2.2.1).length:Int)/\((at' a.1.2.1.2 a.2.2.1).length:Int)<=((24:Nat):Int)/\((at' a.1.2.1.2 a.2.2.1).length:Int)<=(b.2.length:Int)) (Option.bind (Ed U ((at' a.2.2.2 e).1) (List.take (Int.toNat ((at' a.1.2.1.2 a.2.2.1).length:Int)) b.2)) λd=>(oV (d,c)))
def tK (U:Nat) (b:PW) (c:Int) (a:Int×bT):Option fW:=
 if((at' b.1.2.1.2 b.2.2.1).length:Int)=(0:Int)then(Option.bind (FB U b.2.2.2 c) λd=>(lW U b c a (d)))else(lW U b c a (a.1))
def lX (U:Nat) (b:PW) (e:Int) (f:UO->Int->Int->Option fW) (a:Int×Int×bT) (c:(Int×Int×bT)->Option fW):Option fW:=
 if a.2.1<((at' b.1.2.1.2 b.2.2.1).length:Int)then(Option.bind (f ((((((b.1.1.1,b.1.1.2.1,b.1.1.2.2)),((b.1.2.1.1,b.1.2.1.2)),b.1.2.2.1,b.1.2.2.2)),b.2.1,b.2.2.1,b.2.2.2)) (wI .i64 (e+(1:Int))) a.2.1) λd=>(ck ((0<=a.2.1/\a.2.1<((24:Nat):Int))/\a.2.2.length=24) (c (d.2,(wI .i64 (a.2.1+(1:Int))),(List.set a.2.2 (Int.toNat a.2.1) d.1)))))else(tK U b e (a.1,a.2.2))
def eO (e:UO->Int->Int->Option fW) (U:Nat) (a:PW) (b c:Int):Option fW:=
 ck (0<=b/\b<(a.2.2.2.length:Int)) (if((at' a.2.2.2 b).1)<=(17:Int)then(Option.bind (nE U ((((((a.1.1.1,a.1.1.2.1,a.1.1.2.2)),((a.1.2.1.1,a.1.2.1.2)),a.1.2.2.1,a.1.2.2.2)),a.2.1,a.2.2.1,a.2.2.2)) ((((at' a.2.2.2 b).1),((at' a.2.2.2 b).2))) c) λm=>(some (m,(wI .i64 (b+(1:Int))))))else(if((at' a.2.2.2 b).1)<=(19:Int)then(Option.bind (e ((((((a.1.1.1,a.1.1.2.1,a.1.1.2.2)),((a.1.2.1.1,a.1.2.1.2)),a.1.2.2.1,a.1.2.2.2)),a.2.1,a.2.2.1,a.2.2.2)) (wI .i64 (b+(1:Int))) c) λl=>(Option.bind (Db U ((at' a.2.2.2 b).1) l.1) λj=>(some (j,l.2))))else(if((at' a.2.2.2 b).1)<=(29:Int)then(ck (0<=a.2.2.1/\a.2.2.1<(a.1.2.1.2.length:Int)) (bL (lX U a b e) U ((0:Int),(0:Int),(List.replicate 24 (0:Int)))))else(if((at' a.2.2.2 b).1)<=(42:Int)then(Option.bind (e ((((((a.1.1.1,a.1.1.2.1,a.1.1.2.2)),((a.1.2.1.1,a.1.2.1.2)),a.1.2.2.1,a.1.2.2.2)),a.2.1,a.2.2.1,a.2.2.2)) (wI .i64 (b+(1:Int))) c) λf=>(Option.bind (e ((((((a.1.1.1,a.1.1.2.1,a.1.1.2.2)),((a.1.2.1.1,a.1.2.1.2)),a.1.2.2.1,a.1.2.2.2)),a.2.1,a.2.2.1,a.2.2.2)) f.2 c) λg=>(Option.bind (BV U ((at' a.2.2.2 b).1) f.1 g.1) λk=>(some (k,g.2)))))else(Option.bind (e ((((((a.1.1.1,a.1.1.2.1,a.1.1.2.2)),((a.1.2.1.1,a.1.2.1.2)),a.1.2.2.1,a.1.2.2.2)),a.2.1,a.2.2.1,a.2.2.2)) (wI .i64 (b+(1:Int))) c) λh=>(Option.bind (e ((((((a.1.1.1,a.1.1.2.1,a.1.1.2.2)),((a.1.2.1.1,a.1.2.1.2)),a.1.2.2.1,a.1.2.2.2)),a.2.1,a.2.2.1,a.2.2.2)) h.2 c) λi=>(Option.bind (e ((((((a.1.1.1,a.1.1.2.1,a.1.1.2.2)),((a.1.2.1.1,a.1.2.1.2)),a.1.2.2.1,a.1.2.2.2)),a.2.1,a.2.2.1,a.2.2.2)) i.2 c) λd=>(if h.1≠(0:Int)then(some (i.1,d.2))else(some (d.1,d.2))))))))))
def cP:Nat->UO->Int->Int->Option fW
 |0,_,_,_=>none
 |U+1,p0,p1,p2=>eO (cP U) U p0 p1 p2
theorem DW:bB Tryz.prog 209:=Tryz.call209
theorem FL (rc:UO->Int->Int->Option fW) (U:Nat) (p:∀{a:PW} {m O:Int} (b f:Nat) (q s t u:V0) (C:kX) (v:V0) (D:nG) (w:V0) (g:nG) (d:V0) (r:fF),rc a m O=some r->bE Tryz.prog 209 #[vP b,vI (m),vI (O)] [bM b [vP f,w,vI (a.2.2.1),d] 237,bM f [vS (a.1.1.1),q,s,t,u,vI (a.1.2.2.1),v] 206,Sl aE q a.1.1.2.1,Sl aD s a.1.1.2.2,Sl aM t a.1.2.1.1,S2 aY u C a.1.2.1.2,S2 aM v D a.1.2.2.2,S2 aM w g a.2.1,Sl aY d a.2.2.2] (λx:Unit=>Value.tuple #[vI (r.1),vI (r.2)]) (λx l=>l) (λ_ l=>l)) {a:PW} {m O:Int} (b f:Nat) (q s t u:V0) (C:kX) (v:V0) (D:nG) (w:V0) (g:nG) (d:V0) (r:fF) (h:eO rc U a m O=some r):
  bE Tryz.prog 209 #[vP b,vI (m),vI (O)] [bM b [vP f,w,vI (a.2.2.1),d] 237,bM f [vS (a.1.1.1),q,s,t,u,vI (a.1.2.2.1),v] 206,Sl aE q a.1.1.2.1,Sl aD s a.1.1.2.2,Sl aM t a.1.2.1.1,S2 aY u C a.1.2.1.2,S2 aM v D a.1.2.2.2,S2 aM w g a.2.1,Sl aY d a.2.2.2] (λx:Unit=>Value.tuple #[vI (r.1),vI (r.2)]) (λx l=>l) (λ_ l=>l):=by
 let P:=(List.replicate 24 (0:Int))
 let G:=vI ((at' a.2.2.2 m).1);let E:=((at' a.1.2.1.2 a.2.2.1).length:Int)
 refine bE.of Tryz.func209 Z Tryz.ntmps209 Z λc=>?_;refine aU<|aC Z<|aC Z<|aP<|aU<|aA Z<|aB (bU Z) Z<|bV Z<|aB (fU Z (b_ Z) Z Z Z) Z<|aA Z<|cQ h λj1 h=>aB (bG Z Z (QI Z) Z Z j1) Z<|aB (gS (cs:=[G,vI ((at' a.2.2.2 m).2)]) Z (QI Z) cR Z Z Z Z j1) Z<|aJ (aQ.alloc (cs:=TF) Z Z) Z λb2=>cD 0 (vs:=[vI ((at' a.2.2.2 m).1),vI ((at' a.2.2.2 m).2)]) Z Z Z Z Z Z<|aP<|aN<|aT<|aU<|bV Z<|dK 0 Z<|aB (CS Z Z) Z<|aC Z<|aP ?_;refine eG h Z (λh=>?_) λh=>?_
 ·refine aU<|aA Z<|cM 0 Z<|aA Z<|eI h λr4 w5 h=>aJ (zBb aaA (Hv U b f q s t u C v D w g d r4 w5) Z (iB [0,1,2,3,4,5,6,7,8] Z)) Z λx6=>aA Z<|cN Z<|aC Z<|aC Z<|aP<|aS<|bF<|aG ?_;cases h;exact gY () Z Z (RV.tmp Z) (RV.tmp Z) .nil aH.nil
 refine aU<|bV Z<|dK 0 Z<|aB (CS Z Z) Z<|aC Z<|aP ?_;refine eG h Z (λh=>?_) λh=>?_
 ·refine aU<|aA Z<|aA Z<|cN Z<|aA Z<|eI h λr8 w9 h=>aJ (zBb DW (p b f q s t u C v D w g d r8 w9) Z (iB [0,1,2,3,4,5,6,7,8] Z)) Z λam=>aA Z<|iN Z<|iN Z<|aC Z<|aC Z<|aP<|aU<|bV Z<|dK 0 Z<|aA Z<|eI h λS ab h=>aJ (zBb aaB (PD U S ab) Z .nil) Z λan=>aA Z<|aC Z<|aC Z<|aP<|aS<|bF<|aG ?_;cases h;exact gY () Z Z (RV.tmp Z) (RV.tmp Z) .nil aH.nil
 refine aU<|bV Z<|dK 0 Z<|aB (CS Z Z) Z<|aC Z<|aP ?_;refine eG h Z (λh=>?_) λh=>?_
 ·refine aU<|aA Z<|bV Z<|dK 0 Z<|aA Z<|Bu (A:=fF) (B:=Unit) (vs:=[vP b,vI ((at' a.2.2.2 m).1),vI (m)]) (λn=>oV n=some r) (λn I=>Value.tuple #[vI (n.1),vI (n.2)]) (λn I=>[]) (λn I=>[bM b [vP f,w,vI (a.2.2.1),d] 237,bM f [vS (a.1.1.1),q,s,t,u,vI (a.1.2.2.1),v] 206,Sl aE q a.1.1.2.1,Sl aD s a.1.1.2.2,Sl aM t a.1.2.1.1,S2 aY u C a.1.2.1.2,S2 aM v D a.1.2.2.2,S2 aM w g a.2.1,Sl aY d a.2.2.2]) (pJ.fn (show bB Tryz.prog 237 from Tryz.call237) Z) Tryz.func237 Z Tryz.ntmps237 Z Z ?_ ?_
  ·refine aU<|aC Z<|aC Z<|aP<|aU ?_;refine aJ (aQ.alloc (cs:=cellsOf fT P) Z (by kernel_rfl)) Z λo=>?_;refine aP<|aN ?_;refine rP [0,1,3,7,15,31,63,127,0,256,768,1792,4095,8191,16383,32767] 12 mixedOrders ?_;refine aV Z<|eN Z (bU Z)<|cC Z<|bA Z .nil (eV 0 Z) (fU Z (b_ Z) Z Z Z) aL.z<|eN Z (bU Z)<|cC Z<|cC Z<|bA Z .nil (eV 1 Z) (fU Z (b_ Z) Z Z Z) aL.z<|aV Z<|eN Z (bU Z)<|cC Z<|bA Z .nil (eV 0 Z) (fU Z (b_ Z) Z Z Z) aL.z<|bN 12 Z Z<|cQ h λF h=>aB (bK Z Z (zJ Z) Z Z F) Z<|aB (bS Z (zJ Z) Z Z F) Z<|aB (fH Z (zBc (zJ Z) F.1 F.2) Z) Z<|aC Z<|aP<|aN<|eB (λk=>tK U a m k=some r) (λk J=>[(0,vP b),(1,G),(2,vI (m)),(7,vI (k.1)),(8,vP o),(9,vI E)]) (λk J=>[bM o (cellsOf fT k.2) 263]) ?_ ?_
   ·refine aU<|aA Z<|aA Z<|aP<|aT<|eW (lX U a m rc) (λj L=>[(0,vP b),(1,G),(2,vI (m)),(7,vI (j.1)),(8,vP o),(9,vI E),(26,vI E),(27,vI (j.2.1))]) (λj L=>[bM o (cellsOf fT j.2.2) 263]) ((0:Int),(0:Int),P) () h SF (a_.ix [0] Z Z) ?_;intro al j L h;refine aU<|cU Z<|aP<|aN ?_;refine eG h Z (λh=>?_) λh=>?_
    ·refine cL<|aN<|aT<|aU<|aA Z<|aC Z<|aP<|aR<|aA Z<|aA Z<|aA Z<|cN Z<|aA Z<|eI h λH ae h=>aJ (zBb DW (p b f q s t u C v D w g d H ae) Z (iB [0,1,2,3,4,5,6,7,8] Z)) Z λaq=>aA Z<|iN Z<|iN Z<|cQ h λN h=>aB (pU Z Z Z Z Z N.1) Z<|Ln 0 (e:=fT) H.1 N Z Z Z Z Z Z Z<|aC Z<|eS<|lA<|aR<|cN Z<|aA Z<|aP ?_;exact xD (H.2,(wI .i64 (j.2.1+(1:Int))),(List.set j.2.2 (Int.toNat j.2.1) H.1)) () h SF Z
    refine eP ?_;exact f_ (j.1,j.2.2) () h SF Z
   intro k J h;refine aN<|eB (λy=>lW U a m k y=some r) (λy K=>[(1,G),(7,vI (y)),(8,vP o),(9,vI E)]) (λy K=>[bM o (cellsOf fT k.2) 263]) ?_ ?_
   ·refine aU<|aA Z<|cH Z<|aP ?_;refine eG h Z (λh=>?_) λh=>?_
    ·refine aR<|aA Z<|aB (bU Z) Z<|bV Z<|aB (fU Z (b_ Z) Z Z Z) Z<|aA Z<|eI h λR ad h=>aJ (zBb aaw (Tz U d R ad) Z (iB [8] Z)) Z λap=>aC Z<|aP ?_;exact f_ (R) () h SF Z
    refine cL ?_;exact f_ (k.1) () h SF Z
   intro y K h;refine aU<|aA Z<|aA Z<|cQ h λM h=>aB (Sr Z Z Z Z M) Z<|eI h λQ ac h=>aJ (zBb aaF (Rs U (Value.slice (some ⟨o,0,none⟩) (Int.toNat E) 24) Q ac) Z (aH.cons (WG (i:=0) Z iY M (by decide)) .nil)) Z λao=>?_;refine aA Z<|aC Z<|aC Z<|aP<|aS ?_;exact jX (Q,y) () h (.inl Z) (Fa.r2 Z (RV.tmp Z) (RV.tmp Z)) Z .nil (aH.refl _ _)
  intro n I h;unfold oV at h;refine iN Z<|iN Z<|aC Z<|aC Z<|aP<|aS<|bF<|aG ?_;cases h;exact gY () Z Z (RV.tmp Z) (RV.tmp Z) (a_.refl _) aH.nil
 refine aU<|bV Z<|dK 0 Z<|aB (CS Z Z) Z<|aC Z<|aP ?_;refine eG h Z (λh=>?_) λh=>?_
 ·refine aU<|aA Z<|aA Z<|cN Z<|aA Z<|eI h λT af h=>aJ (zBb DW (p b f q s t u C v D w g d T af) Z (iB [0,1,2,3,4,5,6,7,8] Z)) Z λar=>aA Z<|iN Z<|iN Z<|aC Z<|aC Z<|aP<|aU<|aA Z<|aA Z<|aA Z<|eI h λV ag h=>aJ (zBb DW (p b f q s t u C v D w g d V ag) Z (iB [0,1,2,3,4,5,6,7,8] Z)) Z λau=>aA Z<|iN Z<|iN Z<|aC Z<|aC Z<|aP<|aU<|bV Z<|dK 0 Z<|aA Z<|aA Z<|eI h λW ah h=>aJ (zBb aaC (MW U W ah) Z .nil) Z λav=>aA Z<|aC Z<|aC Z<|aP<|aS<|bF<|aG ?_;cases h;exact gY () Z Z (RV.tmp Z) (RV.tmp Z) .nil aH.nil
 refine dW<|lA<|aU<|aA Z<|aA Z<|cN Z<|aA Z<|eI h λX ai h=>aJ (zBb DW (p b f q s t u C v D w g d X ai) Z (iB [0,1,2,3,4,5,6,7,8] Z)) Z λaw=>aA Z<|iN Z<|iN Z<|aC Z<|aC Z<|aP<|aU<|aA Z<|aA Z<|aA Z<|eI h λY aj h=>aJ (zBb DW (p b f q s t u C v D w g d Y aj) Z (iB [0,1,2,3,4,5,6,7,8] Z)) Z λax=>aA Z<|iN Z<|iN Z<|aC Z<|aC Z<|aP<|aU<|aA Z<|aA Z<|aA Z<|eI h λaa ak h=>aJ (zBb DW (p b f q s t u C v D w g d aa ak) Z (iB [0,1,2,3,4,5,6,7,8] Z)) Z λay=>aA Z<|iN Z<|iN Z<|aC Z<|aC Z<|aP<|aN<|aU<|aA Z<|lB Z<|aP ?_;refine eG h Z (λh=>?_) λh=>?_
 ·refine aU<|aA Z<|aA Z<|aC Z<|aC Z<|aP<|aS<|aG ?_;cases h;exact gY () Z Z (RV.tmp Z) (RV.tmp Z) .nil aH.nil
 refine cL<|aU<|aA Z<|aA Z<|aC Z<|aC Z<|aP<|aS ?_;cases h;exact gY () Z Z (RV.tmp Z) (RV.tmp Z) .nil aH.nil
theorem GG (U:Nat):∀{a:PW} {p:Int} {q:Int} (b:Nat) (c:Nat) (f:V0) (g:V0) (i:V0) (j:V0) (n:kX) (k:V0) (o:nG) (m:V0) (e:nG) (d:V0) (r:fF),cP U a p q=some r->
  bE Tryz.prog 209 #[vP b,vI (p),vI (q)] [bM b [vP c,m,vI (a.2.2.1),d] 237,bM c [vS (a.1.1.1),f,g,i,j,vI (a.1.2.2.1),k] 206,Sl aE f a.1.1.2.1,Sl aD g a.1.1.2.2,Sl aM i a.1.2.1.1,S2 aY j n a.1.2.1.2,S2 aM k o a.1.2.2.2,S2 aM m e a.2.1,Sl aY d a.2.2.2] (λx:Unit=>Value.tuple #[vI (r.1),vI (r.2)]) (λx l=>l) (λ_ l=>l):=by
 induction U with
 |zero=>intros;rename_i h;cases h
 |succ U s=>exact λb c f g i j n k o m e d r h=>FL (cP U) U s b c f g i j n k o m e d r h
end Go.Proofs.YtflciafboapaaaaGreat