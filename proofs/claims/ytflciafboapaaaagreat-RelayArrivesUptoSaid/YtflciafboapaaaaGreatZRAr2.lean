/- Models and proofs. Conditions: none. -/
import Derived.Test.YtflciafboapaaaaGreatZRAr1
set_option linter.unusedVariables false
set_option linter.unusedSimpArgs false
set_option maxHeartbeats 4000000
set_option maxRecDepth 20000
open Go.Proofs.Tryz
variable (U:Nat)
section
set_option linter.unusedSectionVars false
namespace Go.Sx
open Go.RowKit Go.ChangeMaps
def It (b m a:Nat) (c:V6 Nat):a_ where
 p w F:=F b/\w.heap[b]?=some (.mapIter (some m) a c.toArray a)
 mono:=fun⟨e,d⟩ h=>by
  have⟨f,g⟩:=h b e (zAh.1 d).1;exact⟨f,by rw[g];exact d⟩
section
variable {κ ν:Type} [DecidableEq κ] {ek:κ->V0} {ev:ν->V0} {R:Type}
theorem Rs (ek:κ->V0) (ev:ν->V0):∀(k:Nat) (l:V6 (κ×ν)) (e:MapEntry),e∈GG ek ev k l->∃i a,l[i]?=some a/\e=⟨ek a.1,ev a.2,k+i⟩
 |_,[],e,h=>by simp[GG]at h
 | k, x :: xs, e, h =>by
  rcases zAn.1 h with rfl|h
  .exact⟨0,x,rfl,rfl⟩
  .have⟨i,a,b,c⟩:=Rs ek ev (k+1) xs e h;exact⟨i+1,a,b,by rw[c,show k+1+i=k+(i+1) by omega]⟩
theorem Rq (ek:κ->V0) (ev:ν->V0):∀(k:Nat) (l:V6 (κ×ν)) (i:Nat) (a:κ×ν),l[i]?=some a->(⟨ek a.1,ev a.2,k+i⟩:MapEntry)∈GG ek ev k l
 |_,[],i,a,h=>by simp at h
 |k,x::xs,0,a,h=>by simp at h;subst h;exact zAd
 |k,x::xs,i+1,a,h=>by
  have:=Rq ek ev (k+1) xs i a (by simpa using h);rw[show k+1+i=k+(i+1) by omega]at this;exact zAk _ this
theorem TH (ek:κ->V0) (ev:ν->V0):∀(k:Nat) (l:V6 (κ×ν)),(GG ek ev k l).map (·.born)=List.range' k l.length
 |_,[]=>rfl
 |k,x::xs=>by simp[GG,TH ek ev (k+1) xs,List.range'_succ]
def ON (a:κ×ν->V1 R->V1 R) (K:V1 R) (l:V6 (κ×ν)):V1 R:=l.foldr a K
def rem (l:V6 (κ×ν)) (a:V6 Nat):V6 (κ×ν):=((List.range l.length).filter (λi=> !a.contains i)).filterMap (λi=>l[i]?)
theorem PV:∀l:V6 (κ×ν),(List.range l.length).filterMap (λi=>l[i]?)=l
 | []=>rfl
 |x::xs=>by
  rw[zAa,List.range_succ_eq_map,List.filterMap_cons];simp only[List.getElem?_cons_zero,List.filterMap_map];congr 1;have:=PV xs;simpa [Function.comp_def]using this
theorem afH (l:V6 (κ×ν)):rem l []=l:=by
 unfold rem;rw[List.filter_eq_self.2 V8,PV]
theorem acK {l:V6 (κ×ν)} {a:V6 Nat} {i:Nat} {m:κ×ν} (k:l[i]?=some m) (t:i∉a):∃n o,rem l a=n++m::o/\rem l (a++[i])=n++o:=by
 have g:=bH k;have d:i∈(List.range l.length).filter (λi=> !a.contains i):=by simp[g,t]
 have⟨A,B,b⟩:=List.append_of_mem d;have c:((List.range l.length).filter (λi=> !a.contains i)).Nodup:=List.Pairwise.filter _ List.nodup_range;rw[b]at c;have r:i∉A:=λh=>by
  have:=(List.nodup_append.1 c).2.2 i h i zAd;exact this Z
 have s:i∉B:=λh=>by
  have:=(zBf.1 (List.nodup_append.1 c).2.1).1;exact this h
 refine⟨A.filterMap (λi=>l[i]?),B.filterMap (λi=>l[i]?),?_,?_⟩
 .unfold rem;rw[b,List.filterMap_append,List.filterMap_cons,k]
 .unfold rem;have e:(List.range l.length).filter (λj=> !(a++[i]).contains j)=((List.range l.length).filter (λj=> !a.contains j)).filter (λj=>decide (j≠i)):=by
   rw[List.filter_filter];apply List.filter_congr;intro j _;rw[Bool.eq_iff_iff];simp[and_comm]
  rw[e,b,List.filter_append,List.filter_cons];have p:A.filter (λj=>decide (j≠i))=A:=List.filter_eq_self.2 (λj f=>by simp;rintro rfl;exact r f);have q:B.filter (λj=>decide (j≠i))=B:=List.filter_eq_self.2 (λj f=>by simp;rintro rfl;exact s f);rw[p,q,List.filterMap_append.symm];simp
theorem PS {c:κ×ν->V1 R->V1 R} (f:∀a b x,c a (c b x)=c b (c a x)) (K:V1 R) (d:κ×ν) (e:V6 (κ×ν)):∀g:V6 (κ×ν),ON c K (g++d::e)=c d (ON c K (g++e))
 | []=>rfl
 |x::xs=>by
  have:=PS f K d e xs;unfold ON at this ⊢;rw[List.cons_append,List.cons_append,List.foldr_cons,List.foldr_cons,this,f]
end
section
variable {P:Program} {rd:V1 Nat} {c:xW} {n:Sz} {σ σ':Fr} {M L M' L':V6 a_} {Q:Exit->Act->V2->Prop} {ops:Array V5} {rest:V6 V5}
variable {d:V1 Tmp} {ty:V9} {pos:String} {aft:Array Edge} {g:V1 (Nat×V4)}
variable {κ ν:Type} [DecidableEq κ] {ek:κ->V0} {ev:ν->V0} {R:Type}
theorem aN.range [dL P] (j:Nat) {T f h:V9} {q r:Nat} {z:V0} {x:V3} {m:Nat} {l:V6 (κ×ν)} (p:Go.Sx.ev σ x=some (.map (some m))) (o:M[j]?=some (Mp ek ev m l)) (k:dL.tab P T=some ⟨.map f h,q,r,z⟩):
  aN P c n σ M L ⟨d,.range T x,ty,pos,aft,g⟩ (λb:Nat=>.pointer (some ⟨b,0,none⟩)) (λb=>It b m l.length []::M) (λ_=>L):=λa w s t=>by
 have⟨F,i⟩:=t.res o;have e:(execOp a.eval ⟨d,.range T x,ty,pos,aft,g⟩).run P w = .ok (.value (.pointer (some ⟨w.heap.size,0,none⟩))) (w.alloc (.mapIter (some m) l.length #[] l.length)):=by
  simp[execOp,s.eval p,run_range_map w T f h m _ _ (dL.ok k).und i.2]
 simp only[Oper.wp,e,Oper.upon];exact⟨w.heap.size,rfl,t.push _ ⟨rfl,heap_alloc_new w _⟩⟩
def JE (ek:κ->V0) (ev:ν->V0) (l:V6 (κ×ν)):V1 Nat->V0
 |none=>.tuple #[.bool false]
 |some i=>match l[i]? with
  |some a=>.tuple #[.bool true,ek a.1,ev a.2]
  |none=>undef
def aiE (b:Nat) (a:V6 Nat):V1 Nat->Prop
 |none=>∀i,i<b->i∈a
 |some i=>i<b/\i∉a
def XD (M:V6 a_) (f b m e:Nat) (a:V6 Nat):V1 Nat->V6 a_
 |none=>M
 |some i=>M.set f (It b m e (a++[i]))
theorem St.pureL {w:V2} {p:Prop} (hp:p) (t:St c M L w):St c M (agW p::L) w:=by
 have⟨ho,F,hF,hL⟩:=t;refine⟨ho,F,hF,λf hf=>?_⟩
 rcases zAn.1 hf with rfl|hf
 .exact hp
 .exact hL f hf
theorem aN.next (jm ji:Nat) {x:V3} {b m:Nat} {l:V6 (κ×ν)} {seen:V6 Nat} (hx:Go.Sx.ev σ x=some (.pointer (some ⟨b,0,none⟩))) (hf:M[jm]?=some (Mp ek ev m l)) (hi:M[ji]?=some (It b m l.length seen)):
  aN P c n σ M L ⟨d,.next x false,ty,pos,aft,g⟩ (JE ek ev l) (XD M ji b m l.length seen) (λo=>agW (aiE l.length seen o)::L):=λa w s t=>by
 have⟨F,hF⟩:=t.res hf;have⟨G,hG⟩:=t.res hi;have hold:∀e∈(GG ek ev 0 l).toArray.toList,e.born<l.length:=λe he=>by
  have⟨i,kv,h1,h2⟩:=Rs ek ev 0 l e (by simpa using he);rw[h2];have:=bH h1;simp;omega
 rcases run_next_at (P:=P) w ty b m l.length l.length seen.toArray (GG ek ev 0 l).toArray l.length hG.2 hF.2 hold (zAg _)with⟨h0,hr⟩|⟨e,he,w1,hw1,hr⟩
 .have hrun:(execOp a.eval ⟨d,.next x false,ty,pos,aft,g⟩).run P w = .ok (.value (.tuple #[.bool false])) w:=by
   simp[execOp,s.eval hx,hr]
  simp only[Oper.wp,hrun,Oper.upon];refine⟨none,rfl,t.pureL λi hi'=>?_⟩
  obtain⟨kv,hkv⟩:∃kv,l[i]?=some kv:=⟨_,zA0 hi'⟩
  have:=all_seen _ _ h0 _ (by simpa using Rq ek ev 0 l i kv hkv);simpa using this
 .have hml:=_root_.Go.mem_left he;have⟨i,kv,h1,h2⟩:=Rs ek ev 0 l e (by simpa using hml.1);subst h2;rw[Nat.zero_add]at hr hml;have hrun:(execOp a.eval ⟨d,.next x false,ty,pos,aft,g⟩).run P w = .ok (.value (.tuple #[.bool true,ek kv.1,ev kv.2])) (setBlock w1 b (.mapIter (some m) l.length (seen.toArray.push i) l.length)):=by
   simp[execOp,s.eval hx,hr]
  simp only[Oper.wp,hrun,Oper.upon];have t1:St c M L w1:=by
   rcases hw1 with rfl|rfl
   .exact t
   .exact t.ext ((Below.refl _ _).drew)
  refine⟨some i,by simp[JE,h1],St.pureL ⟨bH h1,by simpa using hml.2⟩ ?_⟩
  refine t1.upd hi Z Z Z (by simp[setBlock]) λF hF _=>⟨λk _ hk=>?_,F,⟨hF.1,?_⟩,λ_ h=>.inl h⟩
  .simp only[setBlock];rw[zB2 (λe=>hk (by subst e;exact hF.1))]
  .simp only[setBlock];rw[zBc (zAh.1 hF.2).1];simp
theorem aN.entry (A z:Nat) {x:V3} {b m i:Nat} {l:V6 (κ×ν)} {f:V6 Nat} {e:κ×ν} (j:l[i]?=some e) (y:Go.Sx.ev σ x=some (.pointer (some ⟨b,0,none⟩))) (q:M[A]?=some (Mp ek ev m l)) (r:M[z]?=some (It b m l.length (f++[i]))):
  aN P c n σ M L ⟨d,.entry x,ty,pos,aft,g⟩ (λ_:Unit=>.tuple #[ek e.1,ev e.2]) (λ_=>M) (λ_=>L):=λa w s t=>by
 have⟨F,o⟩:=t.res q;have⟨G,p⟩:=t.res r;have k:=Rq ek ev 0 l i e j;rw[Nat.zero_add]at k;have u:((GG ek ev 0 l).toArray.toList.map (·.born)).Nodup:=by
  simp only[TH];exact List.nodup_range'
 have v:=run_entry_at (P:=P) w b m l.length f.toArray (GG ek ev 0 l).toArray l.length ⟨ek e.1,ev e.2,i⟩ (by rw[p.2];simp) o.2 (by simpa using k) u;have h:(execOp a.eval ⟨d,.entry x,ty,pos,aft,g⟩).run P w = .ok (.value (.tuple #[ek e.1,ev e.2])) w:=by
  simp[execOp,s.eval y,v]
 simp only[Oper.wp,h,Oper.upon];exact⟨(),by first|rfl|trivial,t⟩
theorem adQ {G:Act->V2->Prop} (σ':Fr) (M' L':V6 a_) (f:Bg σ σ') (e:aS M M') (b:aD [] L L') (h:J c n σ' M' L' G):J c n σ M L G:=λa w s t=>h a w (s.weak f) (t.weakE e b)
theorem UV {e:V9} {d:TypeDesc} (p:P.underlying e=some d) (m:∀b k w,(Instr.checkKey b 10000 e (ek k)).run P w = .ok () w) (o:∀a b,Instr.sameNow d (ek a) (ek b)=none)
  (r:∀a b w,(Op.equal e (ek a) (ek b)).run P w = .ok (decide (a=b)) w) (f:∀k,Instr.sameBits 10000 (ek k) (ek k)=true):MW P e ek:=by
 refine⟨m,λ{ν'} ev' k l w=>?_,f⟩
 have j:∀(l:V6 (κ×ν')) (i:Nat),(Instr.findAsking e (ek k) (GG ek ev' i l) i).run P w = .ok (YV ev' k i l) w:=by
  intro l
  induction l with
  |nil=>intro i;simp[GG,YV,Instr.findAsking]
  |cons x q t=>
   intro i;simp only[GG,YV,Instr.findAsking];simp[r];by_cases h:k=x.1
   .simp[h]
   .simp[h,t]
 unfold Instr.findKey;cases l with
 |nil=>simp[GG,YV,Instr.findNow,run_underlying p w]
 |cons x q=>
  have s:Instr.findNow d (ek k) (GG ek ev' 0 (x::q)) 0=none:=by simp[GG,Instr.findNow,o]
  simp[run_underlying p w,s,j]
def aaf {R:Type} (c:xW) (n:Sz) (σ:Fr) (M L:V6 a_) (x:V1 R) (r:R) (a:Act) (w:V2):Prop:=x=some r/\HQ n σ a/\St c M L w
theorem UT {R:Type} {x:V1 R} {r:R} (h:x=some r) (e:Bg σ' σ) (b:aS M' M) (a:aD [] L' L):J c n σ' M' L' (aaf c n σ M L x r):=λ_ _ s t=>⟨h,s.weak e,t.weakE b a⟩
theorem Yu (p:κ×ν->V1 R->V1 R) {K:V1 R} {r:R} (O s:Nat) {b m:Nat} {l:V6 (κ×ν)} (hc:∀a b x,p a (p b x)=p b (p a x)) (h:ON p K l=some r)
  (hf:M[O]?=some (Mp ek ev m l)) (U:M[s]?=some (It b m l.length [])) (af:Nat.beq s O=false) {t0 S T:Tmp} (hx:lk σ t0=some (.pointer (some ⟨b,0,none⟩))) (ab:Nat.blt S n.sz=true) (E:Nat.blt T n.sz=true)
  {id ex:Nat} {y1 y2:V9} {q1 q2:String} {f1 f2:Array Edge} {y:Code}
  (C:∀(t:κ×ν) (i:Nat) (k:V6 Nat) (x:V1 R),l[i]?=some t->p t x=some r->
   J c n ((T,.bool true)::(S,.tuple #[.bool true,ek t.1,ev t.2])::σ) (M.set s (It b m l.length (k++[i]))) L (y.wpr rd P (Exit.then (aaf c n σ (M.set s (It b m l.length (k++[i]))) L x r) Q)))
  (V:∀k,K=some r->J c n ((T,.bool false)::(S,.tuple #[.bool false])::σ) (M.set s (It b m l.length k)) L (Q (.exit ex))):
  J c n σ M L ((Code.loop (Code.seq (Code.region id [⟨some S,.next (.tmp t0) false,y1,q1,f1,none⟩,⟨some T,.extract (.tmp S) 0,y2,q2,f2,none⟩].toArray false) (Code.seq (Code.cond (.tmp T) .skip (.exit ex)) y))).wpr rd P Q):=by
 have z:=bH U;have ae:O≠s:=λe=>by subst e;simp at af
 have H:M.set s (It b m l.length [])=M:=by
  apply List.ext_getElem?;intro q;by_cases eq:q=s
  .subst eq;rw[zAi z,U]
  .rw[zAp (Ne.symm eq)]
 refine Z_ (X:=V6 Nat) (λk=>k.Nodup/\(∀i∈k,i<l.length)/\ON p K (rem l k)=some r) (λ_=>σ) (λk=>M.set s (It b m l.length k)) (λ_=>L) (λk=>l.length - k.length) [] ⟨List.nodup_nil,V8,by rw[afH];exact h⟩ (Bg.refl _) (by rw[H];exact aS.refl _) (λ_ h=>h) ?_;rintro k ⟨G,F,v⟩;have ac:(M.set s (It b m l.length k))[O]?=some (Mp ek ev m l):=by rw[zAp (Ne.symm ae)];exact hf
 have ad:(M.set s (It b m l.length k))[s]?=some (It b m l.length k):=zAi z;refine aL (aP (aI (aN.next O s (x:= .tmp t0) hx ac ad) ab λo=>?_));refine agT zAd λho=>agU (M':=XD (M.set s (It b m l.length k)) s b m l.length k o) (L':=L) ?_ (Bg.refl _) (aS.refl _) (λf hf=>zAk _ hf);cases o with
 | none =>
  refine aB (wH (vs:=[.bool false]) (by simp[JE,lk,Go.Sx.ev]) Z) E (fC (Hm (aL (EQ (by simp[lk,Go.Sx.ev]) (sS (fU (fU ?_)))))));refine V k ?_;have:rem l k=[]:=by
   unfold rem;rw[List.filter_eq_nil_iff.2 (λi U=>by simpa using ho i (by simpa using U))];rfl
  rw[this]at v;exact v
 | some i =>
  have⟨W,Y⟩:=ho;obtain⟨t,A⟩:∃t,l[i]?=some t:=⟨_,zA0 W⟩
  have N:JE ek ev l (some i) = .tuple #[.bool true,ek t.1,ev t.2]:=by simp[JE,A]
  have⟨l1,l2,e1,e2⟩:=acK A Y;have B:p t (ON p K (rem l (k++[i])))=some r:=by
   rw[e2,<-PS hc K t l2 l1,<-e1];exact v
  have aa:XD (M.set s (It b m l.length k)) s b m l.length k (some i)=M.set s (It b m l.length (k++[i])):=by simp[XD]
  rw[N,aa];refine aB (wH (vs:=[.bool true,ek t.1,ev t.2]) (by simp[lk,Go.Sx.ev]) Z) E (fC (Hm (aL (QA (by simp[lk,Go.Sx.ev]) (eK (Hm ?_))))));refine aaa (C t i k _ A B) λa w hw=>Ke (λe a' w' q=>?_) hw;cases e with
  | normal =>
   have⟨ai,ag,ah⟩:=q;refine⟨k++[i],⟨?_,?_,ai⟩,?_,ag,ah⟩
   .rw[List.nodup_append];exact⟨G,V8,λa ha b D=>by simp at D;subst D;rintro rfl;exact Y ha⟩
   .intro j u;rcases zB1.1 u with u|u
    .exact F j u
    .simp at u;subst u;exact W
   .have:k.length<l.length:=by
     have I:(k++[i]).length<=(List.range l.length).length:=by
      apply List.Nodup.length_le_of_subset
      .rw[List.nodup_append];exact⟨G,V8,λa ha b D=>by simp at D;subst D;rintro rfl;exact Y ha⟩
      .intro j u;rcases zB1.1 u with u|u
       .simpa using F j u
       .simp at u;subst u;simpa using W
     simp at I;omega
    simp;omega
  |exit id=>exact q
  |goto l=>exact q
  |ret=>exact q
  |panic ch=>exact q
  |outgrown=>exact q
end
end Go.Sx
end
namespace Go.Sx
open Go.RowKit
section
variable {P:Program} {rd:V1 Nat} {c:xW} {n:Sz} {σ σ':Fr} {M L M' L':V6 a_} {Q:Exit->Act->V2->Prop} {ops:Array V5} {rest:V6 V5} {K:Act->V2->Prop} {G:Act->V2->Prop}
variable {d:V1 Tmp} {D:Nat} {ty:V9} {pos:String} {aft:Array Edge} {g:V1 (Nat×V4)}
variable {α β:Type} {e:bN α} {r:dX α}
def GC:V0->V4
 | .slice none _ _=>true
 |_=>false
theorem Pf {v:V0} {i:V6 α} (o:aH M L (Sl r v i)) (k:GC v=true->i=[]->J c n σ M L G) (l:GC v=false->J c n σ M L G):J c n σ M L G:=λa w s t=>by
 cases f:GC v with
 |false=>exact l f a w s t
 |true=>
  refine k f ?_ a w s t;have⟨S,u,j,p,_,h⟩:=o.st t;subst p;rcases h with h|⟨b,q,m,_⟩
  .exact h
  .subst m;cases f
theorem Zw {T E:V9} {f:Ty} {w:V2} {a:V1 Addr} {l k:Nat} (j:uN P T f) (o:f.desc = .slice E):(binOp .eql T (.slice a l k) (.slice none 0 0)).run P w = .ok (.bool (GC (.slice a l k))) w:=by
 have i:=j.run_und w;have b:∀m:Nat,(Op.equalIn (m+1) T (.slice a l k) (.slice none 0 0)).run P w = .ok (GC (.slice a l k)) w:=by
  intro m;unfold Op.equalIn;rw[o]at i;cases a<;>simp[i,GC]
 have h:(Op.equal T (.slice a l k) (.slice none 0 0)).run P w = .ok (GC (.slice a l k)) w:=b 9999;simp[binOp,h]
theorem Mq [dL P] {T E:V9} {A B:Nat} {z:V0} {x:V3} {v:V0} {i:V6 α} {b:V4} {C:V9} (y:ev σ x=some v) (q:aH M L (Sl r v i)) (o:GC v=b) (m:dL.tab P T=some ⟨.slice E,A,B,z⟩):
  Y P c n σ M L ⟨d,.binOp .eql T x (.const (.slice none 0 0)) C,ty,pos,aft,g⟩ (.bool b):=λa w s t=>by
 have⟨S,j,f,u,_,_⟩:=q.st t;subst u;have h:=Zw (w:=w) (a:=j) (l:=i.length) (k:=f) (dL.ok m) Z;have p:a.eval (.const (.slice none 0 0)) = .slice none 0 0:=rfl;rw[o]at h;simp[execOp,s.eval y,p,eqGuard,h]
def Ch (P:Program) (f:FuncId) (a:Array V0) (Min L:V6 a_) {A:Type} (b:A->V0) (h:A->V6 a_->V6 a_):Prop:=
 ∀c:xW,St c Min L c.w0->Calls P f a c.w0 λe i=>∃x:A,e = .returned (b x)/\St c (h x []) [] i
theorem Ch.of {A:Type} {b:A->V0} {q:A->V6 a_->V6 a_} {f:FuncId} {i:Func} {a:Code} {vs:V6 V0} {m:Nat} {Min:V6 a_}
  (u:P.funcs[f]?=some i) (s:i.body=some a) (x:i.ntmps=m) (w:Nat.ble vs.length m=true)
  (h:∀c:xW,J c ⟨m,[]⟩ (Au 0 vs) Min L (a.wpr none P (jC P i (QG c b q (λ_ l=>l))))):Ch P f vs.toArray Min L b q:=λc t=>by
 have o:vs.length<=m:=by simpa using w
 refine wK u s (h c _ _ ⟨rfl,by simp[x,o],?_⟩ t);intro t v y;have⟨_,j⟩:=GA vs 0 t v y;rw[Nat.sub_zero]at j;have p:t<vs.length:=by
  rcases zAx t vs.length with k|k
  .exact k
  .rw[zAq k]at j;cases j
 rw[zBg (by simpa using p)];simpa using j
theorem SN {w S:V2} {l H v:V6 a_} {F:Nat->Nat->Prop} {U:Nat->Prop} (y:Es c.O c.w0 w) (o:Own c w (l++H) F) (Y:∀f∈L,f.p w (Ec c F))
  (t:St ⟨w,U,λk=>∃i,i<l.length/\F i k⟩ v [] S):St c (v++H) L S:=by
 have⟨s,T,u,_⟩:=t;have C:=s.size;have x:∀k,k<w.heap.size->(∀i,i<l.length->¬F i k)->S.heap[k]?=w.heap[k]? := λk a hn=>s.block k a (fun⟨i,B,o⟩=>hn i B o);have b:∀i k,T i k->w.heap.size<=k\/∃j,j<l.length/\F j k:=λi k a=>(u.rng i k a).1;refine⟨⟨s.os.trans y.os,s.tape.trans y.tape,s.output.trans y.output,zB6 y.size C,λk a W=>?_⟩,
  λi k=>(i<v.length/\T i k)\/(v.length<=i/\F (i - v.length+l.length) k),⟨?_,?_,?_⟩,λf hf=>?_⟩
 .refine(x k (zB4 a y.size) (λi _ I=>?_)).trans (y.block k a W);rcases(o.rng i k I).1 with h|h
  .omega
  .exact W h
 .intro i m E;by_cases B:i<v.length
  .rw[zAc B]at E;exact a_.same (u.res i m E) (λk a=>.inl ⟨B,a⟩) (λ_ _ _=>rfl)
  .rw[zAb V7]at E;have R:(l++H)[i - v.length+l.length]?=some m:=by
    rw[zAb V7,Nat.add_sub_cancel];exact E
   exact a_.same (o.res _ m R) (λk a=>.inr ⟨V7,a⟩) (λk a N=>x k N (λj X J=>by have:=o.dis _ _ k J a;omega))
 .rintro i k (⟨_,a⟩|⟨_,a⟩)
  .refine⟨?_,(u.rng i k a).2⟩
   rcases b i k a with h|⟨j,_,h⟩
   .exact .inl (zB6 y.size h)
   .exact(o.rng j k h).1
  .exact⟨(o.rng _ k a).1,zB4 (o.rng _ k a).2 C⟩
 .rintro i j k (⟨B,z⟩|⟨B,z⟩) (⟨X,A⟩|⟨X,A⟩)
  .exact u.dis i j k z A
  .rcases b i k z with h|⟨q,hq,h⟩
   .have:=(o.rng _ k A).2;omega
   .have:=o.dis _ _ k h A;omega
  .rcases b j k A with h|⟨q,hq,h⟩
   .have:=(o.rng _ k z).2;omega
   .have:=o.dis _ _ k h z;omega
  .have:=o.dis _ _ k z A;omega
 .refine f.mono (Y f hf) λk a N=>⟨⟨a.1,?_⟩,x k N (λi _=>a.2 i)⟩
  rintro i (⟨_,h⟩|⟨_,h⟩)
  .rcases b i k h with V|⟨q,_,V⟩
   .omega
   .exact a.2 q V
  .exact a.2 _ h
theorem Pm {w:V2} {a u t:V6 a_} {F:Nat->Nat->Prop} (o:Own c w (a++u) F) (y:∀f∈L,f.p w (Ec c F)) (B:aD u L t):
  St ⟨w,λk=>∀i,i<a.length->¬F i k,λk=>∃i,i<a.length/\F i k⟩ a t w:=by
 refine⟨Es.refl _,λi k=>i<a.length/\F i k,⟨λi m s=>?_,λi k b=>⟨.inr ⟨i,b⟩,(o.rng i k b.2).2⟩,λi j k v x=>o.dis i j k v.2 x.2⟩,λf z=>?_⟩
 .have l:i<a.length:=by
   rcases zAx i a.length with q|q
   .exact q
   .rw[zAq q]at s;cases s
  exact a_.same (o.res i m (by rw[zAc l];exact s)) (λk b=>⟨l,b⟩) (λ_ _ _=>rfl)
 .refine B f z w (Ec c F) (λj k=>F (j+a.length) k) _ y (λj m A=>?_) (λk b=>?_) (λj k b=>?_)
  .exact o.res _ m (by rw[zAb V7,Nat.add_sub_cancel];exact A)
  .exact⟨.inl λi _=>b.2 i,λi l=>b.2 i l.2⟩
  .exact⟨.inl λi l h=>by have:=o.dis _ _ k h b;omega,λi l=>by have:=o.dis _ _ k l.2 b;omega⟩
theorem EV {A:Type} {k:A->V0} {m:A->V6 a_->V6 a_} {f:FuncId} {p:V6 V3} {vs:V6 V0} {b:Array V9} {q Min Mr:V6 a_} (z:aU P f)
  (C:Ch P f vs.toArray Min q k m) (H:p.map (ev σ)=vs.map some) (y:aS M (Min++Mr)) (v:aD Mr L q) (o:∀x l,m x l=m x []++l):
  aN P c n σ M L ⟨d,.call ⟨.value (.func f),p.toArray,b⟩,ty,pos,aft,g⟩ k (λx=>m x Mr) (λ_=>L):=λa w s t=>by
 have j:(execOp a.eval ⟨d,.call ⟨.value (.func f),p.toArray,b⟩,ty,pos,aft,g⟩).run P w = .ok (.enter f vs.toArray) w:=by
  have e:=evs s H;simp[execOp,resolve,Act.eval,Deferred.ofValue,invoke,z _ w,e]
 simp only[Oper.wp,j,Oper.upon];have⟨B,F,u,i⟩:=t.weak (L':=L) y (λ_ h=>h);refine(C _ (Pm u i v)).mono ?_;rintro e I ⟨x,rfl,E⟩;refine⟨x,rfl,?_⟩
 rw[o];exact SN B u i E
theorem Gn {A:Type} {k:A->V0} {m:A->V6 a_->V6 a_} {f:FuncId} {t:Tmp} {q:V6 V3} {vs cs:V6 V0} {b:Array V9} {u Min Mr:V6 a_} (C:aU P f)
  (p:lk σ t=some (.func (.func f) #[] cs.toArray)) (H:Ch P f (vs++cs).toArray Min u k m) (I:q.map (ev σ)=vs.map some) (B:aS M (Min++Mr)) (z:aD Mr L u) (o:∀x l,m x l=m x []++l):
  aN P c n σ M L ⟨d,.call ⟨.value (.tmp t),q.toArray,b⟩,ty,pos,aft,g⟩ k (λx=>m x Mr) (λ_=>L):=λa w s J=>by
 have j:(execOp a.eval ⟨d,.call ⟨.value (.tmp t),q.toArray,b⟩,ty,pos,aft,g⟩).run P w = .ok (.enter f (vs++cs).toArray) w:=by
  have e:=evs s I;have y:a.eval (.tmp t) = .func (.func f) #[] cs.toArray:=s.eval (x:= .tmp t) p;simp[execOp,resolve,y,Deferred.ofValue,invoke,C _ w,e]
 simp only[Oper.wp,j,Oper.upon];have⟨E,F,v,i⟩:=J.weak (L':=L) B (λ_ h=>h);refine(H _ (Pm v i z)).mono ?_;rintro e N ⟨x,rfl,p⟩;refine⟨x,rfl,?_⟩
 rw[o];exact SN E v i p
def aah {A B:Type} (c:xW) (C:A->Prop) (a:A->B->V0) (f b:A->B->V6 a_) (e:Ending) (w:V2):Prop:=∃x y,C x/\e = .returned (a x y)/\St c (f x y) (b x y) w
theorem NC {j:Func} {a:V6 V0} {m:Nat} (l:j.ntmps=m) (k:Nat.ble a.length m=true):HQ ⟨m,[]⟩ (Au 0 a) {tmps:=a.toArray++Array.replicate (j.ntmps - a.toArray.size) undef,defers:=[]}:=by
 have h:a.length<=m:=by simpa using k
 refine⟨rfl,by simp[l,h],?_⟩
 intro t v o;have⟨_,b⟩:=GA a 0 t v o;rw[Nat.sub_zero]at b;have i:t<a.length:=by
  rcases zAx t a.length with f|f
  .exact f
  .rw[zAq f]at b;cases b
 rw[zBg (by simpa using i)];simpa using b
structure pT (P:Program) (c:xW) (n:Sz) (σ:Fr) (M L:List a_) (o:Oper) (f:FuncId) (vs:List V0):Prop where
 run:∀a w,HQ n σ a->St c M L w->(execOp a.eval o).run P w = .ok (.enter f vs.toArray) w
theorem pT.fn {f:FuncId} {xs:V6 V3} {vs:V6 V0} {b:Array V9} (h:aU P f) (i:xs.map (ev σ)=vs.map some):pT P c n σ M L ⟨d,.call ⟨.value (.func f),xs.toArray,b⟩,ty,pos,aft,g⟩ f vs:=⟨λa w s _=>by
 have e:=evs s i;simp[execOp,resolve,Act.eval,Deferred.ofValue,invoke,h _ w,e]⟩
theorem Yt {f:FuncId} {t:Tmp} {h:V6 V3} {us cs vs:V6 V0} {b:Array V9} (j:aU P f) (k:lk σ t=some (.func (.func f) #[] cs.toArray)) (m:h.map (ev σ)=us.map some) (l:us++cs=vs):pT P c n σ M L ⟨d,.call ⟨.value (.tmp t),h.toArray,b⟩,ty,pos,aft,g⟩ f vs:=⟨λa w s _=>by
 have e:=evs s m;have i:a.eval (.tmp t) = .func (.func f) #[] cs.toArray:=s.eval (x:= .tmp t) k;subst l;simp[execOp,resolve,i,Deferred.ofValue,invoke,j _ w,e]⟩
def DG (P:Program) (c:xW) (n:Sz) (σ:Fr) (M L:V6 a_) (b:Func) (v:V0):Prop:=∀a w,HQ n σ a->St c M L w->(results b a.tmps).run P w = .ok v w
variable {fn:Func}
theorem DG.r0 (b:fn.results = #[]):DG P c n σ M L fn (.tuple #[]):=λa w _ _=>by simp[results,b]
theorem DG.r1 {f:ResultVar} {h:V0} (b:fn.results = #[f]) (i:RV P c n σ M L f h):DG P c n σ M L fn h:=λa w s t=>by
 have:=i a w s t;simp only[BD,b];simp[this]
theorem DG.r2 {i j:ResultVar} {k l:V0} (b:fn.results = #[i,j]) (f:RV P c n σ M L i k) (h:RV P c n σ M L j l):DG P c n σ M L fn (.tuple #[k,l]):=λa w s t=>by
 have f:=f a w s t;have h:=h a w s t;simp only[BD,b];simp[f,h]
theorem iX {A B:Type} {m:Sz} {v:V0} {f:Exit} {C:A->Prop} {b:A->B->V0} {k j:A->B->V6 a_} (x:A) (y:B) (l:C x) (i:f = .ret\/f = .normal) (q:DG P c m σ' M L fn v) (u:v=b x y) (p:aS M (k x y)) (o:aD [] L (j x y)) (h:m.ds=[]:=by rfl):
  J c m σ' M L (jC P fn (aah c C b k j) f):=λa w s t=>by
 exact body_end i (s.defers.trans h) (q a w s t) ⟨x,y,l,by rw[u],t.weakE p o⟩
end
section
variable {P:Program} {rd:V1 Nat} {c:xW} {n:Sz} {σ σ':Fr} {M L M' L':V6 a_} {Q:Exit->Act->V2->Prop} {ops:Array V5} {rest:V6 V5} {K:Act->V2->Prop} {G:Act->V2->Prop}
variable {d:V1 Tmp} {D:Nat} {ty:V9} {pos:String} {aft:Array Edge} {g:V1 (Nat×V4)}
variable {α β:Type} {e:bN α} {r:dX α}
def Jo (v:V0) (m:Nat):Prop:=match v with
 | .slice _ _ cap=>m<=cap
 |_=>False
theorem Know.cap (q:Nat) {v:V0} {xs:V6 α} (f:M[q]?=some (Ar e v xs)):∀c w,St c M L w->Jo v xs.length:=λc w t=>by
 have⟨F,_,_,h⟩:=t.res f;rcases h with⟨rfl,rfl⟩|⟨b,i,cap,T,a,rfl,_,_,h,_⟩
 .exact zAg _
 .exact h
theorem Jo.slq {v:V0} {m k q:Nat} (h:Jo v m):Jo (slq v 0 k q) m:=by
 cases v<;>simp_all [Jo,Go.Sx.slq]
theorem Oh {b f a l k q:Nat}:slq (.slice (some ⟨b,f,none⟩) l a) 0 k q = .slice (some ⟨b,f,none⟩) k a:=by
 simp[slq,eZ]
theorem aao [dL P] {T E:V9} {R U u V:Nat} {z W:V0} {A:TypeDesc} {x p o q:V3} {v:V0} {i k m:Int} {y:V6 α} (O:ev σ x=some v) (j:ev σ p=some (.int .i64 i)) (f:ev σ o=some (.int .i64 k)) (l:ev σ q=some (.int .i64 m)) (J:aH M L (Sl r v y))
  (I:dL.tab P T=some ⟨.slice E,R,U,z⟩) (H:dL.tab P E=some ⟨A,u,V,W⟩) (h:0<=i/\i<=k/\k<=m/\m<=y.length):Y P c n σ M L ⟨d,.slice T x (some p) (some o) (some q),ty,pos,aft,g⟩
   (match v with|.slice a _ _=>.slice (if m.toNat=i.toNat then a else a.map (·.add (i.toNat*u))) (k.toNat - i.toNat) (m.toNat - i.toNat)|v=>v):=λa w s t=>by
 have⟨S,X,b,N,hb,_⟩:=J.st t;subst N;have B:0<=m/\m<=(b:Int):=V7
 have C:0<=k/\k<=((m.toNat:Nat):Int):=V7
 have F:0<=i/\i<=((k.toNat:Nat):Int):=V7
 simp[execOp,s.eval O,s.eval j,s.eval f,s.eval l,Instr.sliceAt,Instr.slice,(dL.ok I).run_und w,Instr.sliceBounds,Instr.sliceBound,asIntOf,(dL.ok H).run_size w,B,C,F];rw[Q3,Q3]
theorem SV [dL P] (q:Nat) {T E:V9} {V W A X:Nat} {z z':V0} {C:TypeDesc} {x y u:V3} {v:V0} {i k:Int} {xs:V6 α} (S:ev σ x=some v) (o:ev σ y=some (.int .i64 i)) (m:ev σ u=some (.int .i64 k)) (O:M[q]?=some (Ar e v xs))
  (N:dL.tab P T=some ⟨.slice E,V,W,z⟩) (J:dL.tab P E=some ⟨C,A,X,z'⟩) (j:Jo v k.toNat) (h:0<=i/\i<=k):Y P c n σ M L ⟨d,.slice T x (some y) (some u) none,ty,pos,aft,g⟩ (slq v i.toNat k.toNat A):=λa w s t=>by
 have⟨F,_,_,R⟩:=t.res O;obtain⟨p,l,f,rfl⟩:∃p l f,v = .slice p l f:=by
  rcases R with⟨rfl,_⟩|⟨b,U,f,T',B,rfl,_⟩
  .exact⟨_,_,_,rfl⟩
  .exact⟨_,_,_,rfl⟩
 have hc:k.toNat<=f:=j;have H:0<=k/\k<=(f:Int):=V7
 have I:0<=i/\i<=((k.toNat:Nat):Int):=V7
 simp[execOp,s.eval S,s.eval o,s.eval m,Instr.sliceAt,Instr.slice,(dL.ok N).run_und w,Instr.sliceBounds,Instr.sliceBound,asIntOf,(dL.ok J).run_size w,slq,H,I];omega
theorem O_ {a:Array V0} {k:Nat} {u:V0} (f:0<a.size) (h:u∈(Builtin.zeroCells a k).toList):u∈a.toList:=by
 unfold Builtin.zeroCells at h;simp only[Array.toList_map,zAr]at h;obtain⟨i,_,rfl⟩:=h;have b:i%a.size<a.size:=Nat.mod_lt _ f;rw[getElem!_pos a (i%a.size) b];simp
theorem ZA (a:V6 V0) (b k o:Nat) (f:V6 V0) (i:b+k<=o) (h:o+f.length<=a.length):
  ((a.take o++f++a.drop (o+f.length)).drop b).take k=(a.drop b).take k:=by
 rw[zBb,List.drop_append_of_le_length Q1,List.drop_take,List.take_append_of_le_length Q1,List.take_take,Nat.min_eq_left V7]
theorem Sq [dL P] (q:Nat) {x:V3} {v:V0} {f:V6 α} {k m:Nat} {T E:V9} {s1 s2 S s4:Nat} {z p:V0} {dE:TypeDesc} (hx:ev σ x=some (slq v k m S)) (R:M[q]?=some (Ar e v f)) (F:k=f.length) (y:Jo v m) (af:k<=m)
  (hT:dL.tab P T=some ⟨.slice E,s1,s2,z⟩) (hE:dL.tab P E=some ⟨dE,S,s4,p⟩) (h3:e.sz=S) (hz:p.cells.size=S) (ad:p.cells.toList.all one=true) (h:J c n σ M L (wpList P ops Q rest)):
  J c n σ M L (wpList P ops Q (⟨none,.call ⟨.builtin .clear,#[x],#[T]⟩,ty,pos,aft,none⟩::rest)):=λa w s t=>by
 subst h3 F;refine mY Z ?_;have t0:=t;have⟨ho,FF,hO,V⟩:=t0;have hA:=hO.res q _ R;have⟨h0,H,hh⟩:=hA;have O:=(dL.ok hT).run_und w;rcases hh with⟨rfl,rfl⟩|⟨b,i,j,U,o,rfl,B,C,F,hc,ht⟩
 .have hm:m=0:=by have:m<=0:=y;omega
  subst hm;have l:(execOp a.eval ⟨none,.call ⟨.builtin .clear,#[x],#[T]⟩,ty,pos,aft,none⟩).run P w = .ok (.value (.tuple #[])) w:=by
   simp[execOp,resolve,invoke,s.eval hx,builtin,Builtin.clear_,O,slq]
  simp only[Oper.wp,l,Oper.upon];exact h _ w s t
 .have X:m<=j:=y;by_cases he:m=f.length
  .have l:(execOp a.eval ⟨none,.call ⟨.builtin .clear,#[x],#[T]⟩,ty,pos,aft,none⟩).run P w = .ok (.value (.tuple #[])) w:=by
    subst he;by_cases W:j=f.length<;>simp[execOp,resolve,invoke,s.eval hx,builtin,Builtin.clear_,O,slq,W]
   simp only[Oper.wp,l,Oper.upon];exact h _ w s t
  .have ag:f.length<m:=V7
   have ab:j≠f.length:=V7
   obtain⟨k,aa⟩:∃k,m - f.length=k+1:=⟨m - f.length - 1,V7⟩
   have hv:slq (.slice (some ⟨b,i,none⟩) f.length j) f.length m e.sz = .slice (some ⟨b,i+f.length*e.sz,none⟩) (k+1) (j - f.length):=by
    simp[slq,ab,eZ,aa]
   have ah:(Builtin.zeroCells p.cells (k+1)).toList.length=(k+1)*e.sz:=by
    have:=size_zeroCells p.cells (k+1);rw[hz]at this;simpa using this
   have A:i+f.length*e.sz+0+(Builtin.zeroCells p.cells (k+1)).toList.length<=o.size:=by
    have h1:(f.length+(k+1))*e.sz<=j*e.sz:=zAv _ V7;have h2:(f.length+(k+1))*e.sz=f.length*e.sz+(k+1)*e.sz:=zB3 _ _ _;omega
   have ac:∀u∈(Builtin.zeroCells p.cells (k+1)).toList,u.oneCell'=true:=λu O=>by
    refine qP (zA7.1 ad u ?_);exact O_ (by rw[hz];exact e.pos) O
   have N:=run_storeCells_at P b (i+f.length*e.sz) U _ 0 o w C A ac;simp only[Nat.add_zero]at N;have ae:=(dL.ok hE).run_zero w;have l:(execOp a.eval ⟨none,.call ⟨.builtin .clear,#[x],#[T]⟩,ty,pos,aft,none⟩).run P w = .ok (.value (.tuple #[])) (w.setRow b (o.toList.take (i+f.length*e.sz)++(Builtin.zeroCells p.cells (k+1)).toList++o.toList.drop (i+f.length*e.sz+(Builtin.zeroCells p.cells (k+1)).toList.length)).toArray):=by
    simp[execOp,resolve,invoke,s.eval hx,hv,builtin,Builtin.clear_,O,ae,N]
   simp only[Oper.wp,l,Oper.upon];refine h _ _ s ?_;have I:M.set q (Ar e (.slice (some ⟨b,i,none⟩) f.length j) f)=M:=by
    have hq:q<M.length:=(List.getElem?_eq_some_iff.1 R).1;have:=(List.getElem?_eq_some_iff.1 R).2
    conv=>rhs;rw[<-List.set_getElem_self hq]
    rw[this]
   rw[<-I];refine Ho ho hO V R Z Z Z V8 (λk _ Y=>setRow_other w b k _ (λe=>Y (by subst e;exact B))) (F':=FF q) ?_ (λk F=>.inl F);refine⟨h0,H,.inr ⟨b,i,j,U,_,rfl,B,setRow_heap w b _ _ U _ C,F,?_,?_⟩⟩
   .simp only[List.size_toArray,zA4,List.length_take,List.length_drop];have:o.size=o.toList.length:=V8
    omega
   .have:=ZA o.toList i (f.length*e.sz) (i+f.length*e.sz) (Builtin.zeroCells p.cells (k+1)).toList (zAg _) (by simpa using A);rw[<-ht];exact this
theorem Gt (i:Nat) {k:Int} {vs:V6 V0} {xss:V6 (V6 α)} (C:M[i]?=some (hJ e vs xss)) (h:0<=k/\k<xss.length):
  fM M L (Ar e (at' vs k) (at' xss k)::M.set i (hJ e (vs.set k.toNat (.slice none 0 0)) (xss.set k.toNat []))) L:=λc w t=>by
 have⟨W,F,p,V⟩:=t;have⟨z,G,T,s,N⟩:=p.res i _ C;have O:k.toNat<vs.length:=V7
 have R:i<M.length:=(List.getElem?_eq_some_iff.1 C).1;have A:=T k.toNat _ _ (cK h.1 V7) (cK h.1 h.2);refine⟨W,λj q=>match j with|0=>G k.toNat q|j+1=>(j=i/\∃j',j'≠k.toNat/\G j' q)\/(j≠i/\F j q),⟨?_,?_,?_⟩,λf C=>?_⟩
 .intro j m x;cases j with
  |zero=>simp at x;subst x;exact A
  | succ j =>
   rw[List.getElem?_cons_succ]at x;by_cases J:j=i
   .subst J;rw[zAi R]at x;cases x;refine⟨by simp[z],λj' q=>j'≠k.toNat/\G j' q,λj' v U E H=>?_,λj' q a=>.inl ⟨rfl,j',a⟩,λS B q b l=>N _ _ q b.2 l.2⟩
    by_cases u:j'=k.toNat
    .subst u;rw[zAi O]at E;rw[zAi V7]at H;cases E;cases H;exact⟨V8,rfl,.inl ⟨rfl,rfl⟩⟩
    .rw[zAp (Ne.symm u)]at E H;exact a_.same (f:=Ar e v U) (T j' v U E H) (λq a=>⟨u,a⟩) (λ_ _ _=>rfl)
   .rw[zAp (Ne.symm J)]at x;exact a_.same (p.res j m x) (λq a=>.inr ⟨J,a⟩) (λ_ _ _=>rfl)
 .intro j q a;cases j with
  |zero=>exact p.rng i q (s _ q a)
  |succ j=>
   rcases a with⟨_,j',_,a⟩|⟨_,a⟩
   .exact p.rng i q (s _ q a)
   .exact p.rng j q a
 .intro S B q b l;cases S with
  | zero =>
   cases B with
   |zero=>rfl
   |succ B=>
    rcases l with⟨_,j',o,l⟩|⟨o,l⟩
    .exact absurd (N _ _ q l b) o
    .exact absurd (p.dis _ _ q l (s _ q b)) o
  | succ S =>
   cases B with
   |zero=>
    rcases b with⟨_,j',o,b⟩|⟨o,b⟩
    .exact absurd (N _ _ q b l) o
    .exact absurd (p.dis _ _ q b (s _ q l)) o
   |succ B=>
    congr 1;rcases b with⟨I,j',_,b⟩|⟨I,b⟩<;>rcases l with⟨u,X,_,l⟩|⟨u,l⟩
    .rw[I,u]
    .exact absurd (p.dis _ _ q l (s _ q b)) u
    .exact absurd (p.dis _ _ q b (s _ q l)) I
    .exact p.dis _ _ q b l
 .refine a_.same (V f C) (λq a=>⟨a.1,λj y=>?_⟩) (λ_ _ _=>rfl);cases j with
  |zero=>exact a.2 i (s _ q y)
  |succ j=>
   rcases y with⟨_,j',_,y⟩|⟨_,y⟩
   .exact a.2 i (s _ q y)
   .exact a.2 j y
theorem Gs (i j:Nat) {u:V0} {k:Int} {vs:V6 V0} {xss:V6 (V6 α)} {ys:V6 α} (a:Nat.beq i j=false) (b:M[i]?=some (hJ e (vs.set k.toNat (.slice none 0 0)) (xss.set k.toNat []))) (f:M[j]?=some (Ar e u ys)) (h:0<=k/\k<(xss.set k.toNat []).length):
  fM M L ((M.set i (hJ e (vs.set k.toNat u) (xss.set k.toNat ys))).eraseIdx j) L:=by
 have:=Dc (L:=L) i j a b f h;rwa[List.set_set,List.set_set]at this
theorem Pr {α:Type} [Inhabited α] (l:V6 α) {j k:Int} (y:α) (h:j.toNat≠k.toNat):at' (l.set j.toNat y) k=at' l k:=by
 rw[at',at',zA9,zA9,zAp h]
theorem LZ [dL P] (i:Nat) {r:dX α} (f:e.Fits r) {x y:V3} {u o:V0} {k j:Int} {vs:V6 V0} {a:V6 (V6 α)} {l b:V6 α} {T E:V9} {S U m s:Nat} {z t:V0} {v:TypeDesc} (N:ev σ x=some (at' vs k)) (O:ev σ y=some u) (H:M[i]?=some (hJ e (vs.set j.toNat o) (a.set j.toNat b))) (I:aH M L (Sl r u l))
  (F:dL.tab P T=some ⟨.slice E,S,U,z⟩) (C:dL.tab P E=some ⟨v,m,s,t⟩) (A:e.sz=m) (B:Nat.ble s 1024=true) (w:0<=k/\k<a.length) (J:((at' a k).length:Int)+l.length<=1099511627) (R:t.cells.size=m) (h:j.toNat≠k.toNat):
  aN P c n σ M L ⟨d,.call ⟨.builtin .append,#[x,y],#[T,T]⟩,ty,pos,aft,g⟩ (λp:V0=>p) (λp=>M.set i (hJ e ((vs.set j.toNat o).set k.toNat p) ((a.set j.toNat b).set k.toNat (at' a k++l)))) (λ_=>L):=by
 have q:at' (a.set j.toNat b) k=at' a k:=Pr _ _ h;have:=tH (P:=P) (c:=c) (n:=n) (σ:=σ) (M:=M) (L:=L) (d:=d) (ty:=ty) (pos:=pos) (aft:=aft) (g:=g) (x:=x) (y:=y) (u:=u) (k:=k) (vs:=vs.set j.toNat o) (xss:=a.set j.toNat b) (ys:=l) i f (by rw[Pr _ _ h];exact N) O H I F C A B (by simpa using w) (by rw[q];exact J) R;rwa[q]at this
theorem QC (q:Nat) {vs:V6 V0} {a:V6 (V6 α)} {k j:Int} {u z:V0} (x:M[q]?=some (hJ e ((vs.set k.toNat u).set j.toNat z) a)) (i:k.toNat≠j.toNat) (h:0<=k/\k<a.length):∀c w,St c M L w->Go.Sx.one u=true:=λc w t=>by
 have⟨S,v,A,p,_⟩:=t.res x;have f:k.toNat<vs.length:=by simp at v;omega
 have⟨_,_,s⟩:=p k.toNat u _ (by rw[zAp (Ne.symm i),zAi f]) (zA0 V7);rcases s with⟨l,_⟩|⟨b,y,m,T,o,l,_⟩<;>(rw[l];rfl)
theorem ER {A:Type} {b:A->V0} {M' L':A->V6 a_} {f:Op} (j:aN P c n σ M L ⟨none,f,ty,pos,aft,none⟩ b M' L') (h:∀x,J c n σ (M' x) (L' x) (wpList P ops Q rest)):
  J c n σ M L (wpList P ops Q (⟨none,f,ty,pos,aft,none⟩::rest)):=λa w s t=>
 mY Z (NX (o_ (λm l ⟨x,i,k⟩=>by subst i;exact h x _ l s k) (j a w s t)))
end
section
variable {P:Program} {rd:V1 Nat} {c:xW} {n:Sz} {σ σ':Fr} {M L M' L':V6 a_} {Q:Exit->Act->V2->Prop} {ops:Array V5} {rest:V6 V5} {K:Act->V2->Prop} {G:Act->V2->Prop}
variable {d:V1 Tmp} {D:Nat} {ty:V9} {pos:String} {aft:Array Edge} {g:V1 (Nat×V4)}
variable {α β:Type} {e:bN α} {r:dX α}
theorem SC [dL P] (j:Nat) {T:V9} {s2:Nat} {z:V0} {dT:TypeDesc} {x y:V3} {v u:V0} {i:Int} {m:V6 α} (yv:α) (hx:ev σ x=some (Fc v (i.toNat*1))) (hy:ev σ y=some u) (hu:e.enc yv=[u]) (B:one u=true)
  (X:M[j]?=some (Ar e v m)) (hT:dL.tab P T=some ⟨dT,1,s2,z⟩) (N:e.sz=1) (h0:0<=i) (W:i<m.length):
  aN P c n σ M L ⟨none,.store T x y,ty,pos,aft,none⟩ (λ_:Unit=>undef) (λ_=>M.set j (Ar e v (m.set i.toNat yv))) (λ_=>L):=λa w s t=>by
 have⟨F,J⟩:=t.res X;have Y:i.toNat<m.length:=V7
 have E:m[i.toNat]?=some m[i.toNat]:=zA0 Y;have H:m≠[]:=by intro e;subst e;simp at Y
 obtain⟨p,hp⟩:∃p,e.enc m[i.toNat]=[p]:=List.length_eq_one_iff.1 ((e.len _).trans N);have f:=Cg.cell J E (j:=0) (u:=p) (by rw[hp];rfl);rw[N,Nat.add_zero,Nat.mul_one]at f;rw[Nat.mul_one]at hx;have o:=Sk J H i.toNat;have I:(execOp a.eval ⟨none,.store T x y,ty,pos,aft,none⟩).run P w = .ok .skip (w.setCell (L_ v i.toNat) u):=by
  simp only[execOp,s.eval hx,s.eval hy,Fc];simp[IR (dL.ok hT) Z B f o]
 simp only[Oper.wp,I,Oper.upon];refine⟨(),trivial,t.upd X Z Z Z (by simp[World.setCell]) λF J _=>?_⟩
 have⟨hl,W,S⟩:=J;rcases S with⟨_,S⟩|⟨b,l,A,T',O,hv,C,hb,hk,hc,ht⟩
 .exact absurd S H
 .subst hv;have ha:L_ (.slice (some ⟨b,l,none⟩) m.length A) i.toNat=⟨b,l+i.toNat,none⟩:=by simp[L_,eZ]
  rw[ha];refine⟨λk _ U=>Below.heap_setCell _ _ _ _ (λe=>U (by simp only at e;subst e;exact C)),F,⟨by simpa using hl,?_,.inr ⟨b,l,A,T',O.setIfInBounds (l+i.toNat) u,V8,C,?_,by simpa using hk,by simpa using hc,?_⟩⟩,λ_ h=>.inl h⟩
  .rw[Ao N hu,zA7];intro q V;rcases List.mem_or_eq_of_mem_set V with R|R
   .exact zA7.1 W q R
   .rw[R];exact B
  .simp[World.setCell,Array.getElem?_modify,hb]
  .rw[Ao N hu,<-ht,Array.toList_setIfInBounds,zA3,<-take_set];congr 1;rw[List.drop_set,Q0,Nat.add_sub_cancel_left]
theorem Ed [dL P] (i:Nat) {T k:V9} {J:Nat} {z:V0} {u:TypeDesc} {x y:V3} {b:Nat} {cs vs:V6 V0} (H:ev σ x=some (.pointer (some ⟨b,0,none⟩)))
  (I:ev σ y=some (.agg vs.toArray)) (E:vs.all one=true) (q:M[i]?=some (bG b cs k)) (B:dL.tab P T=some ⟨u,vs.length,J,z⟩) (C:Nat.beq vs.length cs.length=true):
  aN P c n σ M L ⟨none,.store T x y,ty,pos,aft,none⟩ (λ_:Unit=>undef) (λ_=>M.set i (bG b vs k)) (λ_=>L):=λa w s t=>by
 have⟨F,A⟩:=t.res q;have f:vs.length=cs.length:=zA5 C;have h:∀v∈vs,v.oneCell'=true:=λv p=>qP (by simpa using zA7.1 E v p);have⟨N,l,o,_,_⟩:=(dL.ok B).info;have m:=run_storeVar_row (P:=P) w b k T cs.toArray vs.toArray A.2 (by simp[l,o]) (by simp[f]) (by simpa using h);have j:(execOp a.eval ⟨none,.store T x y,ty,pos,aft,none⟩).run P w = .ok .skip (w.setRow b vs.toArray):=by
  simp[execOp,s.eval H,s.eval I,Instr.storeAt,Instr.sureAddr,m]
 simp only[Oper.wp,j,Oper.upon];exact⟨(),trivial,t.fill q⟩
theorem OH [dL P] (j q:Nat) {T:V9} {E:Nat} {z:V0} {m:TypeDesc} {x y:V3} {v u:V0} {i:Int} {vs b:V6 V0} {f:V6 (V6 α)} (h:0<=i/\i<f.length) (B:ev σ x=some (Fc v (i.toNat*1))) (C:ev σ y=some u)
  (p:M[j]?=some (Ar bN.raw v vs)) (A:M[q]?=some (hJ e b f)) (F:b.length=vs.length) (k:one u=true) (o:dL.tab P T=some ⟨m,1,E,z⟩):
  aN P c n σ M L ⟨none,.store T x y,ty,pos,aft,none⟩ (λ_:Unit=>undef) (λ_=>M.set j (Ar bN.raw v (vs.set i.toNat u))) (λ_=>L):=λa w s t=>by
 have l:b.length=f.length:=by have⟨_,h⟩:=t.res A;exact h.1
 exact SC j u B C Z k p o Z h.1 V7 a w s t
section
variable {l:V6 V5} {m:V6 Nat} {k0:Nat} {H Bs:V6 (Nat×V6 a_×V6 a_)} {rs:V6 Nat}
theorem Gl {A:Type} {j:A->V0} {M' L':A->V6 a_} {i:Nat} {b:Op}
  (o:l[i]?=some ⟨none,b,ty,pos,aft,none⟩) (v:Nat.blt i k0=true) (y:fS b=true) (z:aN P c n σ M L ⟨none,b,ty,pos,aft,none⟩ j M' L')
  (q:∀x,oC (before m i) (M' x) (L' x) Bs) (h:∀x,JR c n σ (M' x) (L' x) ((i,M,L)::H) Bs (RW P l.toArray Q (before m) (dZ l) k0 rs)):
  JR c n σ M L H Bs (RW P l.toArray Q (before m) (dZ l) k0 (i::rs)):=λa w X Y s t u k=>by
 have f:l.toArray[i]?=some ⟨none,b,ty,pos,aft,none⟩:=by simpa using o
 simp only[RW,f];rw[if_pos (by simp[Region.wanted])];refine .inr (.inr ⟨by simpa [zAy]using v,by simp[dZ,o,y],o_ ?_ (z a w s t)⟩);rintro C B ⟨x,rfl,p⟩;exact⟨(q x).use p k,h x _ B _ Y s p ⟨rfl,t,u⟩ k⟩
end
theorem Ko {A B:Type} {f:FuncId} {j:Func} {b:Code} {k:V6 V0} {m:Nat} {q:Op} (C:A->Prop) (i:A->B->V0) (o l:A->B->V6 a_) (E:pT P c n σ M L ⟨d,q,ty,pos,aft,g⟩ f k) (F:P.funcs[f]?=some j) (z:j.body=some b) (I:j.ntmps=m) (H:Nat.ble k.length m=true)
  (u:J c ⟨m,[]⟩ (Au 0 k) M L (b.wpr none P (jC P j (aah c C i o l)))):
  aN P c n σ M L ⟨d,q,ty,pos,aft,g⟩ (λx:{p:A×B // C p.1}=>i x.1.1 x.1.2) (λx=>o x.1.1 x.1.2) (λx=>l x.1.1 x.1.2):=λa w s t=>by
 have h:=E.run a w s t;simp only[Oper.wp,h,Oper.upon];refine(wK F z (u _ w (NC I H) t)).mono ?_;rintro e O ⟨x,y,v,rfl,N⟩;exact⟨⟨(x,y),v⟩,rfl,N⟩
theorem uS {A B:Type} {f:FuncId} {j:Func} {h:Code} {vs:V6 V0} {m:Nat} {o:Op} (C:A->Prop) (i:A->B->V0) (l k:A->B->V6 a_) (v:pT P c n σ M L ⟨some D,o,ty,pos,aft,none⟩ f vs) (w:P.funcs[f]?=some j) (u:j.body=some h) (y:j.ntmps=m) (x:Nat.ble vs.length m=true) (t:Nat.blt D n.sz=true)
  (p:J c ⟨m,[]⟩ (Au 0 vs) M L (h.wpr none P (jC P j (aah c C i l k)))) (q:∀a b,C a->J c n ((D,i a b)::σ) (l a b) (k a b) (wpList P ops Q rest)):J c n σ M L (wpList P ops Q (⟨some D,o,ty,pos,aft,none⟩::rest)):=
 aI (Ko C i l k v w u y x p) t fun⟨⟨a,b⟩,s⟩=>q a b s
theorem adP {A B:Type} {f:FuncId} {k:Func} {h:Code} {vs:V6 V0} {m:Nat} {q:Op} {j:Nat} {p:V4} (C:A->Prop) (i:A->B->V0) (o l:A->B->V6 a_) (z:gv ops σ j=some p) (x:pT P c n σ M L ⟨some D,q,ty,pos,aft,some (j,p)⟩ f vs) (y:P.funcs[f]?=some k) (w:k.body=some h) (F:k.ntmps=m) (E:Nat.ble vs.length m=true) (v:Nat.blt D n.sz=true)
  (s:J c ⟨m,[]⟩ (Au 0 vs) M L (h.wpr none P (jC P k (aah c C i o l)))) (t:∀a b,C a->J c n ((D,i a b)::σ) (o a b) (l a b) (wpList P ops Q rest)):J c n σ M L (wpList P ops Q (⟨some D,q,ty,pos,aft,some (j,p)⟩::rest)):=
 yM z (Ko C i o l x y w F E s) v fun⟨⟨a,b⟩,u⟩=>t a b u
section
variable {l:V6 V5} {mm:V6 Nat} {k0:Nat} {H Bs:V6 (Nat×V6 a_×V6 a_)} {rs:V6 Nat}
theorem Mn {A B:Type} {i:Nat} {f:FuncId} {p:Func} {h:Code} {vs:V6 V0} {m:Nat} {q:Op} (C:A->Prop) (j:A->B->V0) (o k:A->B->V6 a_) (E:l[i]?=some ⟨some D,q,ty,pos,aft,none⟩) (F:Nat.blt i k0=true) (I:fS q=true) (y:pT P c n σ M L ⟨some D,q,ty,pos,aft,none⟩ f vs) (z:P.funcs[f]?=some p) (x:p.body=some h) (O:p.ntmps=m) (N:Nat.ble vs.length m=true) (w:Nat.blt D n.sz=true)
  (u:∀a b,oC (before mm i) (o a b) (k a b) Bs) (s:J c ⟨m,[]⟩ (Au 0 vs) M L (h.wpr none P (jC P p (aah c C j o k)))) (t:∀a b,C a->JR c n ((D,j a b)::σ) (o a b) (k a b) ((i,M,L)::H) Bs (RW P l.toArray Q (before mm) (dZ l) k0 rs)):
  JR c n σ M L H Bs (RW P l.toArray Q (before mm) (dZ l) k0 (i::rs)):=
 zBl E F I (Ko C j o k y z x O N s) w (λ_=>u _ _) fun⟨⟨a,b⟩,v⟩=>t a b v
end
theorem Hp [dL P] {T E:V9} {k q u b A:Nat} {z B:V0} {f:TypeDesc} {x y:V3} {v:V0} {o:Nat} {i:Int} (m:ev σ x=some (Fc v o)) (p:ev σ y=some (.int .i64 i))
  (l:dL.tab P T=some ⟨.array k E,q,u,z⟩) (j:dL.tab P E=some ⟨f,b,A,B⟩) (_h3:(b==0)=false) (h:0<=i/\i<(k:Int)):
  Y P c n σ M L ⟨d,.indexAddr T x y,ty,pos,aft,g⟩ (Fc v (o+i.toNat*b)):=λa w s t=>by
 simp[execOp,s.eval m,s.eval p,Instr.indexAt,asIntOf,(dL.ok l).run_und w,h,Instr.sureAddr,Fc,(dL.ok j).run_size w,Mw]
theorem bR {x:V3} {b o:Nat} (f:ev σ x=some (.pointer (some ⟨b,o,none⟩))):Y P c n σ M L ⟨d,.nilCheck x,ty,pos,aft,g⟩ (.pointer (some ⟨b,o,none⟩)):=λa w s t=>by
 simp[execOp,s.eval f]
theorem zU [dL P] [Inhabited α] (j:Nat) {T:V9} {s2 k o q:Nat} {z:V0} {dT:TypeDesc} {x y:V3} {v u:V0} {us:V6 V0} {i:Int} {p:V6 α} (J:α) (h:0<=i/\i<p.length) (hx:ev σ x=some (Fc v (i.toNat*q+o))) (hy:ev σ y=some u)
  (hf:M[j]?=some (Ar e v p)) (hq:e.sz=q) (U:u.cells=us.toArray) (hk:us.length=k) (ho:Nat.ble (o+k) q=true) (I:e.enc J=(e.enc (at' p i)).take o++us++(e.enc (at' p i)).drop (o+k)) (W:us.all one=true) (hT:dL.tab P T=some ⟨dT,k,s2,z⟩):
  aN P c n σ M L ⟨none,.store T x y,ty,pos,aft,none⟩ (λ_:Unit=>undef) (λ_=>M.set j (Ar e v (p.set i.toNat J))) (λ_=>L):=λa w s t=>by
 subst hq hk;have aq:o+us.length<=e.sz:=by simpa using ho
 have hi:i.toNat<p.length:=V7
 have t0:=t;have⟨aj,FF,hO,af⟩:=t0;have⟨h0,A,hh⟩:=hO.res j _ hf;rcases hh with⟨_,rfl⟩|⟨b,m,V,T',f,rfl,X,Y,aa,hc,ht⟩
 .simp at hi
 -- the parts of the row
 obtain⟨l,B,C,H,hl⟩:∃l B C,p=l++B::C/\l.length=i.toNat:=⟨p.take i.toNat,p[i.toNat],p.drop (i.toNat+1),by rw[List.getElem_cons_drop,zBe],Q1⟩
 have ah:at' p i=B:=by
  rw[at',zA9,<-hl,H,zAb (zAg _)];simp
 rw[ah]at I;have eE:=e.len B;have eA:(cellsOf e l).length=i.toNat*e.sz:=by rw[fK,hl]
 have E:cellsOf e p=cellsOf e l++(e.enc B++cellsOf e C):=by rw[H];simp[cellsOf]
 have S:cellsOf e (p.set i.toNat J)=cellsOf e l++(e.enc J++cellsOf e C):=by
  have:p.set i.toNat J=l++J::C:=by rw[H,<-hl,List.set_append_right _ _ (zAg _)];simp
  rw[this];simp[cellsOf]
 have ao:p.length*e.sz<=V*e.sz:=zAv _ aa;obtain⟨N,R,O,hH⟩:∃N R,f.toList=N++(cellsOf e l++(e.enc B++(cellsOf e C++R)))/\N.length=m:=by
  refine⟨f.toList.take m,(f.toList.drop m).drop (p.length*e.sz),?_,Q1⟩
  have e1:cellsOf e l++(e.enc B++(cellsOf e C++(f.toList.drop m).drop (p.length*e.sz)))=f.toList.drop m:=by
   have:cellsOf e l++(e.enc B++(cellsOf e C++(f.toList.drop m).drop (p.length*e.sz)))=cellsOf e p++(f.toList.drop m).drop (p.length*e.sz):=by rw[E];simp
   rw[this,<-ht,zBe]
  rw[e1,zBe]
 have am:f.size=f.toList.length:=V8
 have ak:f.toList.take (m+(i.toNat*e.sz+o))=N++(cellsOf e l++(e.enc B).take o):=by
  have:f.toList=(N++(cellsOf e l++(e.enc B).take o))++((e.enc B).drop o++(cellsOf e C++R)):=by
   rw[O,zBb,zBb,<-zBb ((e.enc B).take o),zBe]
  rw[this];exact List.take_left' (by simp[hH,eA,eE];omega)
 have al:f.toList.drop (m+(i.toNat*e.sz+o)+us.length)=(e.enc B).drop (o+us.length)++(cellsOf e C++R):=by
  have:f.toList=(N++(cellsOf e l++(e.enc B).take (o+us.length)))++((e.enc B).drop (o+us.length)++(cellsOf e C++R)):=by
   rw[O,zBb,zBb,<-zBb ((e.enc B).take (o+us.length)),zBe]
  rw[this];exact List.drop_left' (by simp[hH,eA,eE];omega)
 have ae:(i.toNat+1)*e.sz<=p.length*e.sz:=zAv _ V7;have ap:(i.toNat+1)*e.sz=i.toNat*e.sz+e.sz:=by rw[zB3,Nat.one_mul]
 have ab:m+(i.toNat*e.sz+o)+0+us.length<=f.size:=V7
 have ad:=run_storeCells_at P b (m+(i.toNat*e.sz+o)) T' us 0 f w Y ab (λu U=>qP (zA7.1 W u U));simp only[Nat.add_zero]at ad;have ar:(dL.ok hT).run_size w=(dL.ok hT).run_size w:=rfl;have ac:(execOp a.eval ⟨none,.store T x y,ty,pos,aft,none⟩).run P w = .ok .skip (w.setRow b (f.toList.take (m+(i.toNat*e.sz+o))++us++f.toList.drop (m+(i.toNat*e.sz+o)+us.length)).toArray):=by
  simp[execOp,s.eval hx,s.eval hy,Fc,L_,Instr.storeAt,Instr.sureAddr,storeVar,U,(dL.ok hT).run_size w,eZ,ad]
 simp only[Oper.wp,ac,Oper.upon];refine⟨(),trivial,?_⟩
 refine Ho aj hO af hf Z Z Z V8 (λk _ ai=>setRow_other w b k _ (λe=>ai (by subst e;exact X))) (F':=FF j) ?_ (λk hk=>.inl hk);have F:(e.enc J).length=e.sz:=e.len J;refine⟨by simpa using h0,?_,.inr ⟨b,m,V,T',_,V8,X,setRow_heap w b _ _ T' _ Y,by simpa using aa,?_,?_⟩⟩
 .rw[S];rw[E]at A;simp only[List.all_append,zA8]at A ⊢;refine⟨A.1,?_,A.2.2⟩
  rw[I];simp only[List.all_append,zA8];refine⟨⟨zA7.2 λu U=>zA7.1 A.2.1 u (List.mem_of_mem_take U),W⟩,zA7.2 λu U=>zA7.1 A.2.1 u (List.mem_of_mem_drop U)⟩
 .simp only[List.size_toArray,zA4,List.length_take,List.length_drop];omega
 .show((f.toList.take _++us++f.toList.drop _).drop m).take ((p.set i.toNat J).length*e.sz)=_;rw[ak,al,S,I,zA3];have e3:(N++(cellsOf e l++(e.enc B).take o)++us++((e.enc B).drop (o+us.length)++(cellsOf e C++R)))=N++((cellsOf e l++(((e.enc B).take o++us++(e.enc B).drop (o+us.length))++cellsOf e C))++R):=V8
  rw[e3,<-hH,List.drop_left];refine List.take_left' ?_;have ag:(cellsOf e C).length=C.length*e.sz:=fK e C;have an:p.length=i.toNat+1+C.length:=by rw[H,<-hl];simp;omega
  rw[I]at F;rw[zA4,zA4,F,eA,ag,an,zB3,zB3,Nat.one_mul];omega
end
def Dfr (D:Nat):a_ where
 p w F:=F D/\w.heap[D]?=some (.deferred (some []))
 mono:=fun⟨b,a⟩ h=>by
  have⟨c,d⟩:=h D b (zAh.1 a).1;exact⟨c,by rw[d];exact a⟩
structure Rec where
 n:Nat
 σ:Fr
 ps:Array Tmp
 assign:Code
 body:Code
 D:Nat
def Lp (l:Nat) (R:Rec) (i:LoopState) (a:V1 Code):a_ where
 p w F:=F l/\∃(fn:FuncId) (tmps:Array V0),tmps.size=R.n/\(∀t v,lk R.σ t=some v->tmps[t]?=some v)/\
  w.heap[l]?=some (.loop {state:=i,pending:=a,fn:=fn,tmps:=tmps,params:=R.ps,assign:=R.assign,body:=R.body,defers:=R.D})
 mono:=fun⟨c,fn,tmps,d,e,b⟩ h=>by
  have⟨f,g⟩:=h l c (zAh.1 b).1;exact⟨f,fn,tmps,d,e,by rw[g];exact b⟩
def afu (D:Nat):Deferred:={target:= .collected D,args:= #[]}
def rA (l:Nat):V0:= .func (.yield l) #[] #[]
section
variable {P:Program} {rd:V1 Nat} {c:xW} {n m:Sz} {σ σ':Fr} {M L:V6 a_} {Q:Exit->Act->V2->Prop} {K G:Act->V2->Prop}
theorem St.putLp {w:V2} {l i:Nat} {R:Rec} {y d:LoopState} {b a:V1 Code} (t:St c M L w) (v:M[i]?=some (Lp l R y b)) {r:Loop} (o:w.heap[l]?=some (.loop r)):
  St c (M.set i (Lp l R d a)) L (w.putObj l (.loop {r with state:=d,pending:=a})):=by
 refine t.upd v Z Z Z V8 λF j _=>⟨λk _ x=>?_,F,?_,λ_ h=>.inl h⟩
 .exact World.putObj_heap_other (λe=>x (by subst e;exact j.1))
 .have⟨q,p,f,s,u,g⟩:=j;rw[g]at o;cases o;exact⟨q,p,f,s,u,World.putObj_heap_same (zAh.1 g).1⟩
def adV (P:Program) (n:Sz) (σ:Fr) (l D:Nat) (Q:Exit->Act->V2->Prop) (e:Ending) (w:V2):Prop:=
 ∀a,HQ ⟨n.sz,afu D::n.ds⟩ σ a->rangePost (FR none) 0 P l Q a e w
theorem Ss {g:V3} {ps:Array Tmp} {assign body:Code} {f:FuncId} {fn:Func} {code:Code} {cs:V6 V0} {k:Nat} (hb:aU P f) (hx:ev σ g=some (.func (.func f) #[] cs.toArray)) (hf:P.funcs[f]?=some fn) (hbd:fn.body=some code) (hn:fn.ntmps=k) (hm:Nat.ble (cs.length+1) k=true)
  (h:∀l D,J c ⟨k,[]⟩ (Au 0 (rA l::cs)) (Lp l ⟨n.sz,σ,ps,assign,body,D⟩ .ready none::Dfr D::M) L (code.wpr none P (jC P fn (adV P n σ l D Q)))):
  J c n σ M L ((Code.rangeFunc g ps assign body).wpr none P Q):=λa w s t=>by
 refine wpIn_rangeFunc λfn' _=>?_;have hev:a.eval g = .func (.func f) #[] cs.toArray:=s.eval hx;let W:V2:=(w.alloc (.deferred (some []))).alloc (.loop {state:= .ready,pending:=none,fn:=fn',tmps:=a.tmps,params:=ps,assign:=assign,body:=body,defers:=w.heap.size});refine⟨_,_,_,{target:= .fn (.func f) cs.toArray,args:= #[rA (w.heap.size+1)]},W,f,(rA (w.heap.size+1)::cs).toArray,W,run_enterLoop_outer fn' a.tmps ps assign body,?_,λ_ _=>trivial,?_,(λhc=>by cases hc),?_⟩
 .have hc:∀v,a.eval (.const v)=v:=λ_=>rfl;simp[resolve,hev,hc,Deferred.ofValue,rA,W]
 .simp[invoke,hb _ _,rA]
 .have t1:St c (Dfr w.heap.size::M) L (w.alloc (.deferred (some []))):=t.push _ ⟨rfl,heap_alloc_new w _⟩;have t2:St c (Lp (w.heap.size+1) ⟨n.sz,σ,ps,assign,body,w.heap.size⟩ .ready none::Dfr w.heap.size::M) L ((w.alloc (.deferred (some []))).alloc (.loop {state:= .ready,pending:=none,fn:=fn',tmps:=a.tmps,params:=ps,assign:=assign,body:=body,defers:=w.heap.size})):=by
   have:=t1.push (.loop {state:= .ready,pending:=none,fn:=fn',tmps:=a.tmps,params:=ps,assign:=assign,body:=body,defers:=w.heap.size}) (m:=Lp (w.heap.size+1) ⟨n.sz,σ,ps,assign,body,w.heap.size⟩ .ready none)
    ⟨V8,fn',a.tmps,s.size,s.slot,by rw[<-World.size_alloc w (.deferred (some []))];exact heap_alloc_new _ _⟩
   exact this
  refine Xh ((wK hf hbd (h (w.heap.size+1) w.heap.size _ _ (NC hn (by simpa using hm)) t2)).mono ?_);intro e w' he;exact he _ ⟨by simp[afu,s.defers],s.size,s.slot⟩
theorem UU {f:Func} {b:Exit} {v:V0} {l D i:Nat} {R:Rec} (e:b = .ret\/b = .normal) (j:M[i]?=some (Lp l R .ready none)) (q:DG P c m σ' M L f v) (h:J c ⟨n.sz,afu D::n.ds⟩ σ (M.set i (Lp l R .exhausted none)) L (Q .normal)) (d:m.ds=[]:=by rfl):
  J c m σ' M L (jC P f (adV P n σ l D Q) b):=λa w s t=>by
 refine body_end e (s.defers.trans d) (q a w s t) λo r=>?_;have⟨F,u,p,k,x,y,g⟩:=t.res j;exact⟨none,_,run_endLoop g V8,h o _ r (t.putLp j g)⟩
def ZP (P:Program) (l:Nat) (G:Act->V2->Prop) (a:Act) (w:V2):Prop:=∃b,(Instr.beginRound l).run P w = .ok () b/\G a b
theorem Qy {l i:Nat} {R:Rec} {b:V1 Code} (e:M[i]?=some (Lp l R .ready b)) (h:J c n σ (M.set i (Lp l R .busy b)) L G):J c n σ M L (ZP P l G):=λa w s t=>by
 have⟨F,j,g,f,k,o,d⟩:=t.res e;exact⟨_,run_beginRound d Z,h a _ s (t.putLp e d)⟩
def adW (n:Sz) (σ:Fr) (d:Nat) (K:Act->V2->Prop) (e:Ending) (w:V2):Prop:=∃v,e = .returned v/\∀a,HQ n ((d,v)::σ) a->K a w
theorem Ja {l i d:Nat} {R:Rec} {b:V1 Code} (f:M[i]?=some (Lp l R .busy b)) (h:J c m ((d,.bool true)::σ') (M.set i (Lp l R .ready none)) L K):J c n σ M L (roundPost P l (adW m σ' d K) .normal):=λa w s t=>by
 have⟨F,p,k,g,q,r,e⟩:=t.res f;exact⟨_,_,run_endRound none e,_,rfl,λj o=>h j _ o (t.putLp f e)⟩
def IQ:V6 Tmp->V6 V0->Fr->Fr
 |t::ts,v::vs,σ=>IQ ts vs ((t,v)::σ)
 |_,_,σ=>σ
theorem NB:∀(d:V6 Tmp) (f:V6 V0) (a:Array V0) (σ:Fr) (k:Nat),a.size=k->d.all (λt=>Nat.blt t k)=true->(∀t v,lk σ t=some v->a[t]?=some v)->
  ((d.zip f).foldl (λa (x:Tmp×V0)=>a.setIfInBounds x.1 x.2) a).size=k/\∀t v,lk (IQ d f σ) t=some v->((d.zip f).foldl (λa (x:Tmp×V0)=>a.setIfInBounds x.1 x.2) a)[t]?=some v
 | [],_,a,σ,k,h1,_,h3=>by simpa [IQ]using ⟨h1,h3⟩
 |_::_,[],a,σ,k,h1,_,h3=>by simpa [IQ]using ⟨h1,h3⟩
 | p :: d, x :: f, a, σ, k, h1, h2, h3 =>by
  simp only[List.all_cons,zA8]at h2;have g:p<k:=by simpa [zAy]using h2.1
  simp only[List.zip_cons_cons,List.foldl_cons,IQ];refine NB d f _ _ k (by simp[h1]) h2.2 λt v b=>?_;simp only[lk]at b;by_cases e:t=p
  .subst e;simp at b;subst b;simp[h1,g]
  .rw[oO e]at b;simp only[cond_false]at b;rw[zB2 (Ne.symm e)];exact h3 t v b
theorem adR {f:Array V5} {b:V6 V5} {t:Tmp} {z:V6 V3} {g:V6 V0} {o:Array V9} {d:Nat} {B:V9} {y:String} {k:Array Edge} {l i:Nat} {R:Rec} {j:V6 Tmp} (U:lk σ t=some (rA l)) (W:z.map (ev σ)=g.map some) (T:M[i]?=some (Lp l R .ready none)) (r:R.ps=j.toArray) (q:g.length=j.length) (p:j.all (λt=>Nat.blt t R.n)=true) (S:Nat.blt d n.sz=true)
  (h:J c ⟨R.n,[]⟩ (IQ j g R.σ) M L (R.assign.wpr (some l) P (Exit.then (ZP P l (R.body.wpr (some l) P (roundPost P l (adW n σ d (wpList P f Q b))))) (λ_ _ _=>False)))):
  J c n σ M L (wpList P f Q (⟨some d,.call ⟨.value (.tmp t),z.toArray,o⟩,B,y,k,none⟩::b)):=λa w s A=>by
 have⟨F,h1,H,tmps,I,N,O⟩:=A.res T;have e:=evs s W;have C:a.eval (.tmp t)=rA l:=s.eval (x:= .tmp t) U;have X:=run_yield (P:=P) (args:=g.toArray) O (by simp[r,q]);have u:(execOp a.eval ⟨some d,.call ⟨.value (.tmp t),z.toArray,o⟩,B,y,k,none⟩).run P w=(Instr.yield l g.toArray).run P w:=by
  simp[execOp,resolve,C,rA,Deferred.ofValue,invoke,e]
 unfold wpList;rw[if_pos (show Region.wanted _ _=true from rfl)];refine .inr ⟨_,_,_,_,_,_,u.trans X,?_⟩;refine RoundIn.mono (R:=adW n σ d (wpList P f Q b)) (roundIn_of_wpIn (F:=FR none) trivial ?_) ?_
 .have⟨D,E⟩:=NB j g tmps R.σ R.n I p N;have:=h {tmps:=(j.zip g).foldl (λtmps (x:Tmp×V0)=>tmps.setIfInBounds x.1 x.2) tmps,defers:=[]} w ⟨rfl,D,E⟩ A;simp only[r,List.zip_toArray,List.foldl_toArray];exact this
 .rintro e Y ⟨v,rfl,V⟩;exact⟨v,rfl,V _ (s.put d v S)⟩
theorem QB {g:V3} {ps:Array Tmp} {assign body:Code} {f:FuncId} {fn:Func} {code:Code} {cs:V6 V0} {k:Nat} (hb:aU P f) (hx:ev σ g=some (.func (.func f) #[] cs.toArray)) (hf:P.funcs[f]?=some fn) (hbd:fn.body=some code) (hn:fn.ntmps=k) (hm:Nat.ble (cs.length+1) k=true)
  (h:∀(l D:Nat) (R:Rec),R.n=n.sz/\R.σ=σ/\R.ps=ps/\R.assign=assign/\R.body=body->J c ⟨k,[]⟩ (Au 0 (rA l::cs)) (Lp l R .ready none::Dfr D::M) L (code.wpr none P (jC P fn (adV P n σ l D Q)))):
  J c n σ M L ((Code.rangeFunc g ps assign body).wpr none P Q):=Ss hb hx hf hbd hn hm λl D=>h l D _ ⟨rfl,rfl,rfl,rfl,rfl⟩
theorem MV {j:Array V5} {e:V6 V5} {t:Tmp} {u:V6 V3} {us:V6 V0} {r:Array V9} {d:Nat} {B:V9} {s:String} {q:Array Edge} {l i k:Nat} {R:Rec} {p:V6 Tmp} {o:Fr} {a b:Code} (w:R.n=k/\R.σ=o/\R.ps=p.toArray/\R.assign=a/\R.body=b) (z:lk σ t=some (rA l)) (A:u.map (ev σ)=us.map some) (y:M[i]?=some (Lp l R .ready none)) (g:us.length=p.length) (f:p.all (λt=>Nat.blt t k)=true) (x:Nat.blt d n.sz=true)
  (h:J c ⟨k,[]⟩ (IQ p us o) M L (a.wpr (some l) P (Exit.then (ZP P l (b.wpr (some l) P (roundPost P l (adW n σ d (wpList P j Q e))))) (λ_ _ _=>False)))):
  J c n σ M L (wpList P j Q (⟨some d,.call ⟨.value (.tmp t),u.toArray,r⟩,B,s,q,none⟩::e)):=by
 obtain⟨rfl,rfl,v,rfl,rfl⟩:=w;exact adR z A y v g f x h
end
def Dn (Ds:V6 Nat):V6 Deferred:=Ds.map afu
def Gi (Ds:V6 Nat):a_ where
 p w F:=Ds.Nodup/\∀D∈Ds,F D/\w.heap[D]?=some (.deferred (some []))
 mono:=fun⟨c,a⟩ h=>⟨c,λD b=>by
  have⟨d,e⟩:=h D (a D b).1 (zAh.1 (a D b).2).1;exact⟨d,by rw[e];exact(a D b).2⟩⟩
section
variable {P:Program} {rd:V1 Nat} {c:xW} {n m:Sz} {σ σ':Fr} {M L:V6 a_} {Q:Exit->Act->V2->Prop} {K G:Act->V2->Prop}
theorem Na:fM M L (Gi []::M) L:=fM.add λ_=>⟨List.nodup_nil,V8⟩
theorem SO (i j:Nat) {D:Nat} {e:V6 Nat} (d:i≠j) (l:M[i]?=some (Gi e)) (o:M[j]?=some (Dfr D)):fM M L ((M.set i (Gi (D::e))).eraseIdx j) L:=λc w t=>
 t.merge i j d l o (by
  rintro w q r ⟨g,b⟩ ⟨f,h⟩ k;refine⟨zBf.2 ⟨λp=>k D (b D p).1 f,g⟩,λE a=>?_⟩
  rcases zAn.1 a with rfl|a
  .exact⟨.inr f,h⟩
  .exact⟨.inl (b E a).1,(b E a).2⟩)
theorem EU {g:V3} {ps:Array Tmp} {assign body:Code} {f:FuncId} {fn:Func} {code:Code} {cs:V6 V0} {k i s:Nat} (Ds:V6 Nat) (hi:M[i]?=some (Gi Ds)) (hb:aU P f) (hx:ev σ g=some (.func (.func f) #[] cs.toArray)) (hf:P.funcs[f]?=some fn) (hbd:fn.body=some code) (hn:fn.ntmps=k) (hm:Nat.ble (cs.length+1) k=true)
  (h:∀(l D:Nat) (R:Rec),R.n=s/\R.σ=σ/\R.ps=ps/\R.assign=assign/\R.body=body->J c ⟨k,[]⟩ (Au 0 (rA l::cs)) (Lp l R .ready none::M.set i (Gi (D::Ds))) L (code.wpr none P (jC P fn (adV P ⟨s,Dn Ds⟩ σ l D Q)))):
  J c ⟨s,Dn Ds⟩ σ M L ((Code.rangeFunc g ps assign body).wpr none P Q):=QB hb hx hf hbd hn hm λl D R hR=>
 cQ (SO (i+2) 1 V7 hi Z) (h l D R hR)
theorem BR {o:Func} {R:Ending->V2->Prop} {f:Exit} {i k:Nat} (b:f = .ret\/f = .normal):∀{Ds:V6 Nat} {M:V6 a_},M[i]?=some (Gi Ds)->J c ⟨k,[]⟩ σ (M.set i (Gi [])) L (jC P o R f)->J c ⟨k,Dn Ds⟩ σ M L (jC P o R f)
 | [], M, hi, h =>by
  have:M.set i (Gi [])=M:=by
   apply List.ext_getElem?;intro j;by_cases e:i=j
   .subst e;rw[hi];simp[(List.getElem?_eq_some_iff.1 hi).1]
   .simp[zAp e]
  rw[this]at h;exact h
 | D :: Ds, M, hi, h =>λa w s t =>by
  have⟨F,v,q⟩:=t.res hi;have u:St c (M.set i (Gi Ds)) L (w.putObj D (.deferred none)):=by
   refine t.upd hi Z Z Z V8 λF d _=>⟨λk _ r=>?_,F,?_,λ_ h=>.inl h⟩
   .exact World.putObj_heap_other (λe=>r (e▸(d.2 D V8).1))
   .have⟨p,d⟩:=d;refine⟨(zBf.1 p).2,λE g=>⟨(d E (by simp[g])).1,?_⟩⟩
    rw[World.putObj_heap_other (λe=>(zBf.1 p).1 (by subst e;exact g))];exact(d E (by simp[g])).2
  refine YG b s.defers (q D V8).2 ?_;have l:(M.set i (Gi Ds))[i]?=some (Gi Ds):=by simp[(List.getElem?_eq_some_iff.1 hi).1]
  have:=BR b l (by rw[List.set_set];exact h) {tmps:=a.tmps,defers:=Dn Ds} _ ⟨rfl,s.size,s.slot⟩ u;rcases b with rfl|rfl<;>exact this
def ajm {A B:Type} (c:xW) (f:A->B->Sz) (C:A->Prop) (b:A->B->Fr) (e d:A->B->V6 a_) (a:Act) (w:V2):Prop:=∃x y,C x/\HQ (f x y) (b x y) a/\St c (e x y) (d x y) w
theorem IC {A B:Type} {x:Code} (h:A->B->Sz) (C:A->Prop) (d:A->B->Fr) (g f:A->B->V6 a_) (j:J c n σ M L (x.wpr rd P (Exit.then (ajm c h C d g f) Q))) (k:∀a b,C a->J c (h a b) (d a b) (g a b) (f a b) K):
  J c n σ M L (x.wpr rd P (Exit.then K Q)):=λa w s t=>Ke (λe i u q=>by
 cases e with
 |normal=>have⟨z,y,o,p,r⟩:=q;exact k z y o i u p r
 |exit id=>exact q
 |goto l=>exact q
 |ret=>exact q
 |panic v=>exact q
 |outgrown=>exact q) (j a w s t)
theorem ES {A B:Type} {e:A->B->Sz} {C:A->Prop} {a:A->B->Fr} {d b:A->B->V6 a_} (x:A) (y:B) (i:n=e x y) (f:C x) (j:Bg σ (a x y)) (h:aS M (d x y)) (g:aD [] L (b x y)):J c n σ M L (ajm c e C a d b):=
 λ_ _ s t=>⟨x,y,f,i▸s.weak j,t.weakE h g⟩
def ajl {A B R:Type} (c:xW) (g:A->B->Sz) (b:A->(A->V1 R)->V1 R) (r:R) (d:A->B->Fr) (f e:A->B->V6 a_) (k:Nat) (a:Act) (w:V2):Prop:=
 ∃x y,bE b k x=some r/\HQ (g x y) (d x y) a/\St c (f x y) (e x y) w
theorem Mk {A B R:Type} {d:Code} (S:A->B->Sz) (j:A->(A->V1 R)->V1 R) {r:R} {q:Nat} (p:A->B->Fr) (N I:A->B->V6 a_) (C:A) (E:B) (X:n=S C E) (h:bE j q C=some r)
  (hs:Bg σ (p C E)) (hM:aS M (N C E)) (hL:aD [] L (I C E))
  (z:∀k a b,j a (bE j k)=some r->J c (S a b) (p a b) (N a b) (I a b) (d.wpr rd P (Exit.then (ajl c S j r p N I k) Q))):J c n σ M L ((Code.loop d).wpr rd P Q):=by
 subst X;intro a w s t b k cs aa W Y;have ad:∀m x y a w,bE j m x=some r->HQ (S x y) (p x y) a->St c (N x y) (I x y) w->
   ∃e O T,Q e O T/\ArrivesIn (Machine.fenced P (FR rd)) P (lone (b.atR a (.code d :: .inLoop d::k)) cs w) b k cs e O T:=by
  intro m
  induction m with
  |zero=>intro x y a w U;cases U
  | succ m ih =>
   intro x y a w U hs ht;have⟨e,g,i,u,f⟩:=z m x y U a w hs ht b (.inLoop d::k) cs aa W Y;cases e with
   |normal=>
    have⟨x',y',V,ab,ac⟩:=u;have⟨F,D,H,v,o⟩:=ih x' y' g i V ab ac;exact⟨F,D,H,v,.of_steps (StepsIn.trans f (.one (fenced_calm W Y Z) stepR_inLoop)) o⟩
   |exit id=>exact⟨_,g,i,u,.pass (x:= .inLoop d) Z (λ_ _=>.inl V8) f⟩
   |goto l=>exact⟨_,g,i,u,.pass (x:= .inLoop d) Z (λ_ _=>.inl V8) f⟩
   |ret=>exact⟨_,g,i,u,.pass (x:= .inLoop d) Z (λ_ _=>.inl V8) f⟩
   |panic ch=>exact⟨_,g,i,u,.pass (x:= .inLoop d) Z (λ_ _=>.inl V8) f⟩
   |outgrown=>exact⟨_,g,i,u,.pass (x:= .inLoop d) Z (λ_ _=>.inl V8) f⟩
 have⟨e,O,T,u,f⟩:=ad q C E a w h (s.weak hs) (t.weakE hM hL);exact⟨e,O,T,u,.of_steps (.one (fenced_calm W Y Z) stepR_loop) f⟩
theorem I_ {A B R:Type} {f:A->B->Sz} {a:A->(A->V1 R)->V1 R} {r:R} {k:Nat} {b:A->B->Fr} {e d:A->B->V6 a_} (x:A) (y:B) (j:n=f x y) (h:bE a k x=some r) (l:Bg σ (b x y)) (i:aS M (e x y)) (g:aD [] L (d x y)):
  J c n σ M L (ajl c f a r b e d k):=λ_ _ s t=>⟨x,y,h,j▸s.weak l,t.weakE i g⟩
end
end Go.Sx
namespace Go.Sx
section
variable {P:Program} {M L:V6 a_} {α β γ:Type} {r:dX α} {s:dX γ} {q:dX β}
def dX.Deep (r:dX α) (q:dX β) (f:α->V0×V6 β):Prop:=∀{w S es x},r.R w S es x->Gd q w S (f x).1 (f x).2
theorem Gr (q:dX β):(dX.sl q).Deep q (λx=>x):=λh=>h.2
theorem Yw {f:α->V0×V6 β} (h:r.Deep q f):(r.pair s).Deep q (λx=>f x.1):=by
 rintro w S d x ⟨b,c,rfl,a,_⟩;exact h a
theorem Hn {f:α->V0×V6 β} (h:r.Deep q f):(s.pair r).Deep q (λx=>f x.2):=by
 rintro w S d x ⟨b,c,rfl,_,a⟩;exact h a
theorem zT [Inhabited α] {v:V0} {a:V6 α} {i:Int} {f:α->V0×V6 β} (h:aH M L (Sl r v a)) (d:r.Deep q f) (b:0<=i) (c:i<a.length):aH M L (Sl q (f (at' a i)).1 (f (at' a i)).2):=h.mono λ{w U} hs=>by
 have⟨g,e,_⟩:=sl_cell hs (cK b c);exact d e
theorem Vg [dL P] {c:xW} {n:Sz} {j:Fr} {d:V1 Tmp} {F:V9} {i:String} {e:Array Edge} {g:V1 (Nat×V4)} {T E:V9} {A B C D m b:Nat} {z G:V0} {o:TypeDesc} {x l:V3} {k:Int} (y:ev j x=some (.pointer (some ⟨b,0,none⟩))) (f:ev j l=some (.int .i64 k))
  (v:dL.tab P T=some ⟨.array m E,A,B,z⟩) (u:dL.tab P E=some ⟨o,C,D,G⟩) {q:Int} (h:0<=k/\k<=((m:Nat):Int)/\k<=q):Y P c n j M L ⟨d,.slice T x none (some l) none,F,i,e,g⟩ (.slice (some ⟨b,0,none⟩) k.toNat m):=λa w s t=>by
 have p:0<=k/\k<=(m:Int):=⟨h.1,h.2.1⟩
 simp[execOp,s.eval y,s.eval f,Instr.sliceAt,Instr.slice,(dL.ok v).run_und w,Instr.sliceBounds,Instr.sliceBound,asIntOf,(dL.ok u).run_size w,p,asAddr,Addr.add,Instr.sureAddr]
theorem aad {e:bN α} {i b T m:Nat} {k:Int} {a:List α} (t:M[i]?=some (bG b (cellsOf e a) T)) (c:e.Fits r) (h:0<=k/\k<=((m:Nat):Int)/\k<=(a.length:Int)) (p:m<=9223372036854775807):aH M L (Sl r (.slice (some ⟨b,0,none⟩) k.toNat m) (a.take k.toNat)):=λw S T U B f C v=>by
 have n:=f i _ t;have o:(a.take k.toNat).length=k.toNat:=by simp;omega
 refine⟨some ⟨b,0,none⟩,m,by rw[o],by rw[o];omega,.inr ⟨b,0,rfl,v _ _ n.1,λj x d=>?_⟩⟩
 have l:a[j]?=some x:=by
  rw[zAt]at d;split at d
  .exact d
  .cases d
 obtain⟨g,D,z,_⟩:=c;refine⟨e.enc x,λq u A=>?_,z⟩
 have y:=DO e a _ _ l _ _ A;rw[g,Nat.zero_add];exact bG.cell n y
def dX.All (r:dX α) (n:Nat) (g:α->V6 V0):Prop:=r.sz=n/\∀{w S es x},r.R w S es x->es=g x
theorem Va {e:bN α} (h:e.Fits r):r.All e.sz e.enc:=⟨h.1,h.2.1⟩
theorem Vb (q:dX β):(dX.sl q).All 1 (λx=>[x.1]):=⟨rfl,λh=>h.1⟩
theorem QI {n m:Nat} {f:α->V6 V0} {g:γ->V6 V0} (h:r.All n f) (k:s.All m g):(r.pair s).All (n+m) (λx=>f x.1++g x.2):=⟨by show r.sz+s.sz=_;rw[h.1,k.1],by
 rintro w S e x ⟨c,d,rfl,a,b⟩;rw[h.2 a,k.2 b]⟩
theorem Vf [dL P] [Inhabited α] {c:xW} {n:Sz} {B:Fr} {d:V1 Tmp} {O:V9} {o:String} {k:Array Edge} {g:V1 (Nat×V4)} {T:V9} {N q m:Nat} {z:V0} {p:TypeDesc} {x:V3} {v:V0} {i:Int} {e:V6 α} {cs:V6 V0} {f:α->V6 V0} (K:ev B x=some (Fc v (i.toNat*q))) (G:aH M L (Sl r v e)) (y:r.All m f) (l:f (at' e i)=cs)
  (E:dL.tab P T=some ⟨p,cs.length,N,z⟩) (F:Al p=true) (H:m=q) (h:0<=i/\i<e.length):Y P c n B M L ⟨d,.load T x,O,o,k,g⟩ (.agg cs.toArray):=λa w s t=>by
 have⟨C,D⟩:=h;have⟨S,h⟩:=G.st t;have⟨Q,I,b⟩:=sl_cell h (cK C D);have:=y.2 I;subst this l;rw[y.1,H]at b;have:=Ca (w:=w) (A:=L_ v (i.toNat*q)) (cs:=f (at' e i)) (dL.ok E) F Z (λj u J=>by rw[Mw];exact b j u J);simp[execOp,s.eval K,Fc,this]
end
end Go.Sx
namespace Go.Sx
open Go.RowKit
section
variable {P:Program} {c:xW} {n:Sz} {σ:Fr} {M L:V6 a_} {d:V1 Tmp} {ty:V9} {pos:String} {aft:Array Edge} {g:V1 (Nat×V4)}
def agZ (v:V0) (m:Nat):Prop:=∃a e,v = .slice a m e/\(m=0\/∃b f,a=some ⟨b,f,none⟩)
theorem Know.len {f:Type} {r:dX f} {v:V0} {xs:V6 f} (j:aH M L (Sl r v xs)):∀c w,St c M L w->agZ v xs.length:=λc w t=>by
 have⟨S,i,cap,k,_,h⟩:=j.st t;exact⟨i,cap,k,h.imp (λh=>by simp[h]) fun⟨b,a,e,_⟩=>⟨b,a,e⟩⟩
theorem mO [dL P] {T E:V9} {B C k D m:Nat} {z F:V0} {o:TypeDesc} {x y:V3} {v:V0} {i:Int} (u:ev σ x=some v) (A:ev σ y=some (.int .i64 i)) (f:agZ v m)
  (s:dL.tab P T=some ⟨.slice E,B,C,z⟩) (r:dL.tab P E=some ⟨o,k,D,F⟩) (h:0<=i/\i<(m:Int)):Y P c n σ M L ⟨d,.indexAddr T x y,ty,pos,aft,g⟩ (Fc v (i.toNat*k)):=λa w l t=>by
 obtain⟨G,e,rfl,f⟩:=f;have⟨p,q⟩:=h;rcases f with rfl|⟨b,j,rfl⟩
 .omega
 .simp[execOp,l.eval u,l.eval A,KY w (dL.ok s) Z (dL.ok r) b j _ e i p q]
theorem Nc [dL P] (i:Nat) {T k:V9} {B m o b:Nat} {z:V0} {h:TypeDesc} {x:V3} {cs us:V6 V0} (y:ev σ x=some (.pointer (some ⟨b,o,none⟩))) (p:M[i]?=some (bG b cs k)) (q:dL.tab P T=some ⟨h,m,B,z⟩) (r:Al h=true)
  (f:(cs.drop o).take m=us) (v:us.length=m):Y P c n σ M L ⟨d,.load T x,ty,pos,aft,g⟩ (.agg us.toArray):=λa w s t=>by
 subst v;have⟨F,l⟩:=t.res p;have:=Ca (w:=w) (A:=⟨b,o,none⟩) (cs:=us) (dL.ok q) r Z (λj u e=>by
  have:cs[o+j]?=some u:=by
   rw[<-f,zAt]at e;split at e
   .rwa[zAu]at e
   .cases e
  rw[eZ];exact bG.cell l this)
 simp[execOp,s.eval y,this]
theorem FD {a:Type} [Inhabited a] (l:V6 a) (k:Int) (h:k.toNat<l.length) (b:0<=k):l.set k.toNat (at' l k)=l:=by
 have:=cK (xs:=l) b V7;refine List.ext_getElem? λi=>?_;by_cases e:k.toNat=i
 .subst e;rw[zAi h,this]
 .rw[zAp e]
theorem Db [dL P] {l:Type} [Inhabited l] {e:bN l} (j:Nat) {T:V9} {Q m o q:Nat} {z:V0} {C:TypeDesc} {x y:V3} {u:V0} {us:V6 V0} {i k:Int} {vs:V6 V0} {b:V6 (V6 l)} (f:l) (A:0<=k/\k<b.length) (h:0<=i/\i<(at' b k).length) (N:ev σ x=some (Fc (at' vs k) (i.toNat*q+o))) (O:ev σ y=some u)
  (v:M[j]?=some (hJ e vs b)) (I:e.sz=q) (K:u.cells=us.toArray) (G:us.length=m) (H:Nat.ble (o+m) q=true) (B:e.enc f=(e.enc (at' (at' b k) i)).take o++us++(e.enc (at' (at' b k) i)).drop (o+m)) (p:us.all one=true) (D:dL.tab P T=some ⟨C,m,Q,z⟩):
  aN P c n σ M L ⟨none,.store T x y,ty,pos,aft,none⟩ (λ_:Unit=>undef) (λ_=>M.set j (hJ e vs (b.set k.toNat ((at' b k).set i.toNat f)))) (λ_=>L):=λa w s t=>by
 have U:=eQ j v c w t;have F:j<M.length:=(List.getElem?_eq_some_iff.1 v).1;refine o_ (λS R ⟨x,E,J⟩=>⟨x,E,?_⟩) (zU 0 f h N O Z I K G H B p D a w s (Gt j v A c w t));have r:=Gs (j+1) 0 (u:=at' vs k) (k:=k) (vs:=vs) (xss:=b) (ys:=(at' b k).set i.toNat f) (e:=e) Z (by simp[F]) Z (by simpa using A) c R J;simp only[List.set_cons_zero,List.set_cons_succ,List.eraseIdx_cons_zero,List.set_set]at r;rw[FD vs k V7 A.1]at r;exact r
end
theorem aS.ix {M a:V6 a_} (l:V6 Nat) (c:decide l.Nodup=true) (h:l.map (λi=>M[i]?)=a.map some):aS M a:=by
 have c:l.Nodup:=zB7 c;have k:l.length=a.length:=by simpa using congrArg List.length h
 refine⟨λi=>l.getD i 0,λi j b n e=>?_,λi m d=>?_⟩
 .have f:i<l.length:=V7
  have g:j<l.length:=V7
  simp only[zA9,zA0 f,zA0 g,Option.getD_some]at e;exact(List.getElem_inj c).1 e
 .have b:i<l.length:=by rw[k];exact(List.getElem?_eq_some_iff.1 d).1
  have:=congrArg (λq=>q[i]?) h;simp only[List.getElem?_map,zA0 b,d,Option.map_some,Option.some.injEq]at this;simpa [zA9,zA0 b]using this
def bN.fn:bN Nat:=⟨1,Nat.one_pos,λf=>[.func (.func f) #[] #[]],λ_=>rfl⟩
def dX.fn:dX Nat:=⟨1,Nat.one_pos,λ_ _ cs x=>cs=[.func (.func x) #[] #[]],λh=>by simp[h],λh _=>h⟩
theorem So:bN.fn.Fits dX.fn:=⟨rfl,λh=>h,rfl,λ_=>rfl⟩
section
variable {P:Program} {rd:V1 Nat} {c:xW} {n:Sz} {σ:Fr} {M L:V6 a_} {Q:Exit->Act->V2->Prop} {ops:Array V5} {rest:V6 V5} {d:Nat} {ty:V9} {pos:String} {aft:Array Edge} {x y:V3} {v:V0} {K:Act->V2->Prop}
abbrev vS (x:ByteArray):V0:= .string x
abbrev vB (x:V4):V0:= .bool x
theorem dQ {a:Type} {p G:Prop} {_:Decidable p} {u:V1 a} {r:a} (h:ck p u=some r) (k:p->u=some r->G):G:=k (QS h).1 (QS h).2
theorem fF {a b:Type} {G:Prop} {u:V1 a} {f:a->V1 b} {r:b} (h:u.bind f=some r) (k:∀y,u=some y->f y=some r->G):G:=by
  have⟨y,e,g⟩:=bnd h;exact k y e g
theorem jJ (l:V6 Nat) {a:V6 a_} (h:l.map (L[·]?)=a.map some):aD M L a:=λf b=>by
  have g:some f∈l.map (L[·]?):=h▸List.mem_map_of_mem b;have⟨j,_,e⟩:=zAr.1 g;exact aH.fact j e
theorem jW.ix (l:V6 Nat) {a:V6 a_} (h:l.map (L[·]?)=a.map some):jW L a:=λf b=>by
  have g:some f∈l.map (L[·]?):=h▸List.mem_map_of_mem b;have⟨j,_,e⟩:=zAr.1 g;exact zA1 e
theorem iH {f:a_} (i:Nat) (h:L[i]?=some f):jW L [f]:=jW.cons (zA1 h) jW.nil
/-- which of the early loads must still hold,with the numbers of what they have read -/
def bsW (A:Nat->V4):V6 (V6 Nat×V6 Nat)->V6 (Nat×V6 a_×V6 a_)->V6 (V6 Nat×V6 Nat×V6 a_×V6 a_)
  |_,[]=>[]
  |q,(j,Mx,Lx)::B=>bif A j||(Mx.isEmpty&&Lx.isEmpty)then bsW A q B else((q.headD ([],[])).1,(q.headD ([],[])).2,Mx,Lx)::bsW A q.tail B
theorem oP {A:Nat->V4} (q:V6 (V6 Nat×V6 Nat)) {B:V6 (Nat×V6 a_×V6 a_)} (h:(bsW A q B).map (λz=>(decide z.1.Nodup,z.1.map (M[·]?),z.2.1.map (L[·]?)))=(bsW A q B).map (λz=>(true,z.2.2.1.map some,z.2.2.2.map some))):oC A M L B:=by
  induction B generalizing q with
  |nil=>exact oC.z
  | cons b B ih =>
    have⟨j,k,i⟩:=b;cases a:A j with
    |true=>exact oC.b a (ih q (by simpa [bsW,a]using h))
    | false =>
      cases g:(k.isEmpty&&i.isEmpty)with
      | true =>
        have⟨e,f⟩:=Bool.and_eq_true_iff.1 g;rw[List.isEmpty_iff]at e f;subst e;subst f;exact oC.h aS.nil jW.nil (ih q (by simpa [bsW,a]using h))
      | false =>
        simp only[bsW,a,g,Bool.or_self,cond_false,zBd,List.cons.injEq,Prod.mk.injEq]at h;exact oC.h (aS.ix _ h.1.1 h.1.2.1) (jW.ix _ h.1.2.2) (ih q.tail h.2)
def hkB (A:Nat->V4):V6 (Nat×V6 a_×V6 a_)->V4
  | []=>true
  |(j,_,_)::H=>bif A j then hkB A H else false
theorem KH {A:Nat->V4} {f e:V6 a_} {H:V6 (Nat×V6 a_×V6 a_)} (h:hkB A H=true):aJ A f e H:=by
  induction H with
  |nil=>exact aJ.z
  | cons b B ih =>
    have⟨j,_,_⟩:=b;cases a:A j with
    |false=>simp[hkB,a]at h
    |true=>exact aJ.b a (ih (by simpa [hkB,a]using h))
theorem NK {A:Nat->V4} {H:V6 (Nat×V6 a_×V6 a_)}:aJ A [] [] H:=by
  induction H with
  |nil=>exact aJ.z
  |cons b B a=>exact aJ.h aS.nil jW.nil a
theorem gT {T:V3} (h:(ev σ T,ev σ x,Nat.blt d n.sz)=(some (.bool true),some v,true)) (k:J c n ((d,v)::σ) M L (wpList P ops Q rest)):J c n σ M L (wpList P ops Q (⟨some d,.pick T x y,ty,pos,aft,none⟩::rest)):=by
  simp only[Prod.mk.injEq]at h;exact aB (Ms h.1 h.2.1) h.2.2 k
theorem iV {T:V3} (h:(ev σ T,ev σ y,Nat.blt d n.sz)=(some (.bool false),some v,true)) (k:J c n ((d,v)::σ) M L (wpList P ops Q rest)):J c n σ M L (wpList P ops Q (⟨some d,.pick T x y,ty,pos,aft,none⟩::rest)):=by
  simp only[Prod.mk.injEq]at h;exact aB (QL h.1 h.2.1) h.2.2 k
theorem lV {vs:V6 V0} {i:Nat} (h:(ev σ x,vs[i]?,Nat.blt d n.sz)=(some (.tuple vs.toArray),some v,true)) (k:J c n ((d,v)::σ) M L (wpList P ops Q rest)):J c n σ M L (wpList P ops Q (⟨some d,.extract x i,ty,pos,aft,none⟩::rest)):=by
  simp only[Prod.mk.injEq]at h;exact aB (wH h.1 h.2.1) h.2.2 k
theorem tT {t a:V9} {i:IntKind} {p q:Int} (h:(ev σ x,ev σ y,Nat.blt d n.sz)=(some (.int i p),some (.int i q),true)) (k:J c n ((d,.bool (decide (p≠q)))::σ) M L (wpList P ops Q rest)):J c n σ M L (wpList P ops Q (⟨some d,.binOp .neq t x y a,ty,pos,aft,none⟩::rest)):=by
  simp only[Prod.mk.injEq]at h;exact aB (Ij h.1 h.2.1) h.2.2 k
theorem jH [dL P] {b:Type} {r:dX b} {T E:V9} {f g:Nat} {z:V0} {a:V6 b} (e:aH M L (Sl r v a)) (h:(ev σ x,dL.tab P T,Nat.blt d n.sz)=(some v,some ⟨.slice E,f,g,z⟩,true)) (k:J c n ((d,.int .i64 a.length)::σ) M L (wpList P ops Q rest)):J c n σ M L (wpList P ops Q (⟨some d,.call ⟨.builtin .len,#[x],#[T]⟩,ty,pos,aft,none⟩::rest)):=by
  simp only[Prod.mk.injEq]at h;exact aB (eW h.1 e h.2.1) h.2.2 k
theorem BH {a b:Type} {r:dX a} {e:a->b} {v:V0} {g:V6 a} {f:V6 b} (h:aH M L (Sn r e v g f)):∀c w,St c M L w->one v=true:=Know.one (aH.sl h)
variable {l:V6 V5} {m:V6 Nat} {k0:Nat} {H Bs:V6 (Nat×V6 a_×V6 a_)} {rs:V6 Nat}
theorem Bf {id:Nat} {r:V6 Nat} (m:V6 Nat) (k0:Nat) (f:P.follows .mixedOrders=true) (h:JR c n σ M L [] [] (RW P l.toArray Q (before m) (dZ l) k0 r)) (a:chk l m k0=true:=by decide +kernel) (e:List.range l.length=r:=by exact rfl) (b:l.all kC=true:=by rfl):J c n σ M L ((Code.region id l.toArray true).wpr rd P Q):=JR.start m k0 f a (JR.open e h) b
theorem jS {i a:Nat} {b:Op} (f:l[i]?=some ⟨some a,b,ty,pos,aft,none⟩) (k:Y P c n σ [] [] ⟨some a,b,ty,pos,aft,none⟩ v)
    (h:JR c n ((a,v)::σ) M L H ((i,[],[])::Bs) (RW P l.toArray Q (before m) (dZ l) k0 rs))
    (g:Nat.blt i k0=true:=by exact rfl) (j:fS b=false:=by exact rfl) (e:Nat.blt a n.sz=true:=by exact rfl):JR c n σ M L H Bs (RW P l.toArray Q (before m) (dZ l) k0 (i::rs)):=aY f aS.nil jW.nil k NK h g j e
theorem cP {f:a_} (h:L[0]? =some f):aH M L f:=aH.fact 0 h
theorem n_ {f:a_} (h:L[1]? =some f):aH M L f:=aH.fact 1 h
theorem uI {f:a_} (h:L[2]? =some f):aH M L f:=aH.fact 2 h
theorem DJ {f:a_} (h:L[3]? =some f):aH M L f:=aH.fact 3 h
theorem HA {f:a_} (h:L[4]? =some f):aH M L f:=aH.fact 4 h
theorem Ma {f:a_} (h:L[5]? =some f):aH M L f:=aH.fact 5 h
theorem Mb {f:a_} (h:L[6]? =some f):aH M L f:=aH.fact 6 h
theorem IP {f:a_} (h:L[7]? =some f):aH M L f:=aH.fact 7 h
theorem VK {f:a_} (h:L[9]? =some f):aH M L f:=aH.fact 9 h
theorem Fj {f:a_} (h:L[12]? =some f):aH M L f:=aH.fact 12 h
end
end Go.Sx
namespace Go.Sx
abbrev aX:=V6 Int
abbrev iF:=V6 (Int×Int)
abbrev bJ:=V6 aX
abbrev gY:=V6 iF
abbrev tU:=ByteArray×(V6 (ByteArray×Int×Int×Int×Int×Int))×(V6 (ByteArray×(V0×iF)×(V0×V6 (Int×(V0×iF)))))
abbrev ZB:=(ByteArray×(V6 (ByteArray×Int×Int×Int×Int×Int))×(V6 (ByteArray×(V0×iF)×(V0×V6 (Int×(V0×iF))))))×((ByteArray×(V6 (ByteArray×Int×Int×Int×Int×Int))×(V6 (ByteArray×(V0×iF)×(V0×V6 (Int×(V0×iF))))))×(aX×gY)×Int×bJ)×gY
abbrev Sd:=((ByteArray×(V6 (ByteArray×Int×Int×Int×Int×Int))×(V6 (ByteArray×(V0×iF)×(V0×V6 (Int×(V0×iF))))))×(aX×gY)×Int×bJ)×bJ×Int×iF
abbrev b_:=aX×gY
abbrev uO:=bJ×V6 bJ×V6 (V6 bJ)
abbrev EN:=(gY×Int×bJ×bJ×V6 bJ×V6 (V6 bJ))
abbrev kI:=V6 (V0×iF)
abbrev DC:=((bJ×V6 bJ×V6 (V6 bJ))×Int)
abbrev nX:=V6 (Int×Int×Int)
abbrev DK:=V6 (ByteArray×Int×Int×Int×Int×Int)
abbrev Qc:=(ByteArray×(V6 (ByteArray×Int×Int×Int×Int×Int))×(V6 (ByteArray×(V0×iF)×(V0×V6 (Int×(V0×iF))))))×(aX×gY)×Int×bJ
abbrev pU:=((V6 (Int×Int×Int)))
abbrev Bo:=((bJ×V6 bJ×V6 (V6 bJ)))
abbrev Ae:=Int×aX×aX×aX×V4×V4
abbrev mC:=V6 (V0×aX)
abbrev Cz:=Int×bJ×V6 bJ×V6 (V6 bJ)
abbrev XZ:=(((ByteArray×(V6 (ByteArray×Int×Int×Int×Int×Int))×(V6 (ByteArray×(V0×iF)×(V0×V6 (Int×(V0×iF))))))×(aX×gY)×Int×bJ)×bJ×Int×iF)
abbrev Eb:=(Int×bJ×V6 bJ×V6 (V6 bJ))
abbrev Hf:=gY×Int×bJ×bJ×V6 bJ×V6 (V6 bJ)
abbrev Cd:=((Int×V4×V4×Int×Int))
abbrev gE:=V6 V0
abbrev Qd:=(ByteArray×V6 (ByteArray×Int×Int×Int×Int×Int)×V6 (iF×V6 (Int×iF)))
abbrev X_:=V0×(V6 (V0×aX))×V0×(V6 (V0×V6 (V0×aX)))×V0×(V6 (V0×V6 (V0×V6 (V0×aX))))
abbrev e_:=Int×Int
abbrev iU:=(Int×Int)
abbrev Ut:=ByteArray×V6 (ByteArray×Int×Int×Int×Int×Int)×V6 (iF×V6 (Int×iF))
abbrev Hg:=ByteArray×Int×Int×Int×Int×Int
abbrev Ya:=V0×V6 V0×V6 (V6 V0)×V0×V6 V0×V6 (V6 V0)×V6 (V6 (V6 V0))
abbrev xM:=((aX×gY))
abbrev Qe:=V6 (V0×V6 (V0×V6 (V0×aX)))
abbrev Ka:=V6 (iF×V6 (Int×iF))
abbrev nD:=Int×aX
abbrev tV:=(Int×aX)
abbrev Kb:=Int×(V6 (Int×Int×Int))
abbrev Hh:=(V6 (Int×Int×Int))
abbrev LV:=Int×(V6 ((Int×Int)×Int))
abbrev LW:=(Int×(V6 (Int×Int×Int)))
abbrev Iz:=aX×aX×aX×aX
abbrev mX:=V6 Nat
abbrev Qf:=Int×Int×V6 bJ×V6 (V6 bJ)
abbrev FX:=V6 (V6 V0)
abbrev Qg:=V6 (V0×V6 (V0×aX))
abbrev Qh:=(Int×(V6 ((Int×Int)×Int)))
abbrev Hi:=V6 (V6 bJ)
abbrev Qi:=((V6 (Int×Int×Int))×Int)
abbrev agF:=Nat×V0×(V6 (V0×aX))×V0×(V6 (V0×V6 (V0×aX)))×V0×(V6 (V0×V6 (V0×V6 (V0×aX))))
abbrev Yb:=((V6 (ByteArray×Int×Int×Int×Int×Int)))
abbrev Yc:=(V6 (ByteArray×Int×Int×Int×Int×Int))
abbrev Qj:=(V6 (Int×Int×Int))×Int
abbrev Yd:=V6 ((Nat×Nat)×iF×V6 (Int×iF))
abbrev Kc:=V0×V6 V0
abbrev adj:=ByteArray×(V6 (ByteArray×Int×Int×Int×Int×Int))×Int
abbrev Ye:=(Int×Int×V6 bJ×V6 (V6 bJ))
abbrev Yf:=(ByteArray×Int×Int×Int×Int×Int)
abbrev FY:=(aX×gY)
abbrev Ce:=V6 bJ
abbrev Uu:=V6 (V6 (V6 V0))
abbrev LX:=V6 (Nat×Nat)
abbrev Oy:=(Int×Int×bJ)
abbrev eB:V0:=Value.slice none 0 0
abbrev Wr:V6 V0:=[vI (0:Int),vB (false),vB (false),vI (0:Int),vI (0:Int)]
abbrev MN:V6 V0:=[vI (0:Int),vI (0:Int)]
abbrev vD2:V6 V0:=[vS (ByteArray.mk #[]),vI (0:Int),vI (0:Int),vI (0:Int),vI (0:Int),vI (0:Int)]
end Go.Sx
namespace Go.Sx
open Go.RowKit
section
variable {P:Program} {c:xW} {n:Sz} {σ:Fr} {M L:V6 a_} {d:V1 Tmp} {ty:V9} {pos:String} {aft:Array Edge} {g:V1 (Nat×V4)} {α:Type} {e:bN α} {r:dX α}
def ZH {α:Type} (e:bN α) (v:V0) (l:V6 V0) (i:V6 (V6 α)):a_ where
 p w F:=∃A B:Nat->Prop,Cg bN.raw w A v l/\(hJ e l i).p w B/\(∀k,A k->F k)/\(∀k,B k->F k)/\∀k,A k->¬B k
 mono:=by
  rintro w x S u ⟨A,B,s,t,m,o,q⟩ j;exact⟨λk=>A k/\k<w.heap.size,λk=>B k/\k<w.heap.size,(Ar bN.raw v l).mono s λk f h=>⟨⟨f,h⟩,(j k (m k f) h).2⟩,(hJ e l i).mono t λk f h=>⟨⟨f,h⟩,(j k (o k f) h).2⟩,λk f=>(j k (m k f.1) f.2).1,λk f=>(j k (o k f.1) f.2).1,λk a b=>q k a.1 b.1⟩
def Bu {α:Type} (e:bN α) (vs:V6 V0) (wss:V6 (V6 V0)) (xsss:V6 (V6 (V6 α))):a_ where
 p w F:=(vs.length=xsss.length/\wss.length=xsss.length)/\∃G:Nat->Nat->Prop,(∀i v h a,vs[i]?=some v->wss[i]?=some h->xsss[i]?=some a->(ZH e v h a).p w (G i))/\(∀i k,G i k->F k)/\∀i j k,G i k->G j k->i=j
 mono:=by
  rintro w B S A ⟨u,G,o,l,q⟩ m;exact⟨u,λi k=>G i k/\k<w.heap.size,λi v h a x y z=>(ZH e v h a).mono (o i v h a x y z) λk b f=>⟨⟨b,f⟩,(m k (l i k b) f).2⟩,λi k b=>(m k (l i k b.1) b.2).1,λi j k s t=>q i j k s.1 t.1⟩
theorem Bw (e:bN α):fM M L (Bu e [] [] []::M) L:=fM.add λw=>⟨⟨rfl,rfl⟩,λ_ _=>False,λi v f b a=>by simp at a,λ_ _ h=>h,λ_ _ _ h=>h.elim⟩
theorem Jd (i j:Nat) {v:V0} {f:V6 V0} {a:V6 (V6 α)} (b:Nat.beq i j=false) (m:M[i]?=some (Ar bN.raw v f)) (o:M[j]?=some (hJ e f a)):fM M L ((M.set i (ZH e v f a)).eraseIdx j) L:=λc w t=>
 t.merge i j (λe=>by subst e;simp at b) m o λh k l=>⟨_,_,h,k,λ_=>.inl,λ_=>.inr,l⟩
theorem EW (i j:Nat) {u:V0} {F:V6 V0} {p:V6 (V6 α)} {vs:V6 V0} {l:V6 (V6 V0)} {b:V6 (V6 (V6 α))} (x:Nat.beq i j=false) (Q:M[i]?=some (Bu e vs l b)) (R:M[j]?=some (ZH e u F p)):fM M L ((M.set i (Bu e (vs++[u]) (l++[F]) (b++[p]))).eraseIdx j) L:=λc w t=>
 t.merge i j (λe=>by subst e;simp at x) Q R (by
  rintro w T H ⟨⟨y,z⟩,G,I,s,J⟩ O C;refine⟨⟨by simp[y],by simp[z]⟩,λq k=>(q<vs.length/\G q k)\/(q=vs.length/\H k),?_,?_,?_⟩
  .intro q v S B h m o;by_cases D:q<vs.length
   .rw[zAc D]at h;rw[zAc V7]at m o;exact a_.same (I q v S B h m o) (λk a=>.inl ⟨D,a⟩) (λ_ _ _=>rfl)
   .rw[zAb V7]at h m o;have A:q - vs.length=0:=by have:=bH h;simp at this;omega
    rw[A]at h;rw[show q - l.length=0 by omega]at m;rw[show q - b.length=0 by omega]at o;simp at h m o;subst h;subst m;subst o;exact a_.same O (λk a=>.inr ⟨V7,a⟩) (λ_ _ _=>rfl)
  .rintro q k (⟨_,a⟩|⟨_,a⟩)
   .exact .inl (s q k a)
   .exact .inr a
  .rintro q E k (⟨K,a⟩|⟨K,a⟩) (⟨N,f⟩|⟨N,f⟩)
   .exact J q E k a f
   .exact absurd f (C k (s q k a))
   .exact absurd a (C k (s E k f))
   .omega)
theorem ID (i j:Nat) {K vs:V6 V0} {s m:V6 (V6 V0)} {h f:V6 (V6 (V6 α))} (B:Nat.beq i j=false) (U:M[i]?=some (Bu e vs m f)) (V:M[j]?=some (Bu e K s h)):fM M L ((M.set i (Bu e (vs++K) (m++s) (f++h))).eraseIdx j) L:=λc w t=>
 t.merge i j (λe=>by subst e;simp at B) U V (by
  rintro w W X ⟨⟨C,D⟩,G,Q,z,R⟩ ⟨⟨E,F⟩,O,y,l,A⟩ H;refine⟨⟨by simp[C,E],by simp[D,F]⟩,λq k=>(q<vs.length/\G q k)\/(vs.length<=q/\O (q - vs.length) k),?_,?_,?_⟩
  .intro q v N u x o p;by_cases I:q<vs.length
   .rw[zAc I]at x;rw[zAc V7]at o p;exact a_.same (Q q v N u x o p) (λk a=>.inl ⟨I,a⟩) (λ_ _ _=>rfl)
   .rw[zAb V7]at x o p;rw[show q - m.length=q - vs.length by omega]at o;rw[show q - f.length=q - vs.length by omega]at p;exact a_.same (y _ v N u x o p) (λk a=>.inr ⟨V7,a⟩) (λ_ _ _=>rfl)
  .rintro q k (⟨_,a⟩|⟨_,a⟩)
   .exact .inl (z q k a)
   .exact .inr (l _ k a)
  .rintro q J k (⟨S,a⟩|⟨S,a⟩) (⟨T,b⟩|⟨T,b⟩)
   .exact R q J k a b
   .exact absurd (l _ k b) (H k (z q k a))
   .exact absurd (l _ k a) (H k (z J k b))
   .have:=A _ _ k a b;omega)
theorem xY (q:Nat) {vs:V6 V0} {wss:V6 (V6 V0)} {xsss:V6 (V6 (V6 α))} (a:M[q]?=some (Bu e vs wss xsss)):∀c w,St c M L w->vs.length=xsss.length:=λc w t=>by
 have⟨_,h⟩:=t.res a;exact h.1.1
end
section
variable {P:Program} {c:xW} {n:Sz} {σ:Fr} {M L:V6 a_} {d:V1 Tmp} {ty:V9} {pos:String} {aft:Array Edge} {g:V1 (Nat×V4)} {α:Type} {e:bN α}
theorem Ji [dL P] {T:V9} {H I l m:Nat} {z p:V0} {j:Array Field} {F J G:String} {u:V4} {k b q:Nat} {h:TypeDesc} {x:V3} {o:V6 V0} {v:V0} {f:Nat} (E:ev σ x=some (.agg o.toArray))
  (A:dL.tab P T=some ⟨.struct j,H,I,z⟩) (C:j[f]?=some ⟨F,k,b,u,J,G,q⟩) (y:dL.tab P k=some ⟨h,l,m,p⟩) (B:Al h=false) (D:o[b]?=some v):
  Y P c n σ M L ⟨d,.field T x f,ty,pos,aft,g⟩ v:=λa w s t=>by
 have i:=(dL.ok y).run_agg w;have r:Al (Ty.mk h l m p).desc=false:=B;rw[r]at i;simp[execOp,s.eval E,Instr.field,(dL.ok A).run_und w,C,asAgg,part,i,D]
end
def Pw {e g:Type} (f:e->g->a_) (c:V6 e) (d:V6 g):a_ where
 p w S:=c.length=d.length/\∀(i:Nat) a b,c[i]?=some a->d[i]?=some b->(f a b).p w S
 mono:=fun⟨j,k⟩ h=>⟨j,λi a b l m=>(f a b).mono (k i a b l m) h⟩
abbrev uU {a:Type} (r:dX a):gE->V6 (V6 a)->a_:=Pw (Sl r)
abbrev DI {a:Type} (r:dX a):FX->V6 (V6 (V6 a))->a_:=Pw (uU r)
abbrev Gp {a:Type} (r:dX a):Uu->V6 (V6 (V6 (V6 a)))->a_:=Pw (DI r)
def dX.raw:dX V0:=⟨1,Nat.one_pos,λ_ _ cs x=>cs=[x],λh=>by simp[h],λh _=>h⟩
theorem Kj {w:V2} {F:Nat->Prop} {v:V0} {d:gE} (h:Cg bN.raw w F v d):Gd dX.raw w F v d:=by
 have f:=h;have⟨q,_,k⟩:=h;rcases k with⟨rfl,rfl⟩|⟨b,c,a,T,e,rfl,g,n,p,o,r⟩
 .exact⟨none,0,rfl,V8,.inl Z⟩
 .refine⟨_,a,rfl,V7,.inr ⟨b,c,rfl,g,λi x m=>⟨[x],λj u l=>?_,rfl⟩⟩⟩
  have:=Cg.cell f m (j:=j) (u:=u) l;simp only[L_,eZ]at this;exact this
theorem qH:dX.raw.Cell 0 (λx=>x):=λh=>by simp[show _=[_]from h]
section
variable {M L:V6 a_} {α β:Type} {f:α->β->a_} {la cs:V6 α} {lb ds:V6 β} {a:α} {b:β}
theorem fX:aH M L (Pw f [] []):=λ_ _ _ _ _ _ _ _=>⟨rfl,λi a b c=>by simp at c⟩
theorem SA (n:Nat) (h:aH M L (f a b)):aH M L (Pw f (List.replicate n a) (List.replicate n b)):=λw S T U c d e g=>⟨V8,λi x y j k=>by
 obtain⟨_,rfl⟩:=List.mem_replicate.1 (zA1 j);obtain⟨_,rfl⟩:=List.mem_replicate.1 (zA1 k);exact h w S T U c d e g⟩
theorem iY (h:aH M L (Pw f la lb)) (k:aH M L (Pw f cs ds)):aH M L (Pw f (la++cs) (lb++ds)):=λw S T U j l m n=>by
 have⟨g,o⟩:=h w S T U j l m n;have⟨p,q⟩:=k w S T U j l m n;refine⟨by simp[g,p],λi x y c d=>?_⟩
 by_cases e:i<la.length
 .rw[zAc e]at c;rw[zAc V7]at d;exact o i x y c d
 .rw[zAb V7]at c;rw[zAb V7,<-g]at d;exact q _ x y c d
theorem Sy (h:aH M L (f a b)):aH M L (Pw f [a] [b]):=SA 1 h
theorem j_ (h:aH M L (f a b)) (k:aH M L (Pw f la lb)):aH M L (Pw f (a::la) (b::lb)):=iY (Sy h) k
theorem qG (k:Nat) (h:aH M L (Pw f la lb)) (g:aH M L (f a b)):aH M L (Pw f (la.set k a) (lb.set k b)):=λw S T U j l m n=>by
 have⟨o,p⟩:=h w S T U j l m n;refine⟨by simp[o],λi x y c d=>?_⟩
 by_cases e:k=i
 .subst e;have q:=bH c;have r:=bH d;rw[zAi (by simpa using q)]at c;rw[zAi (by simpa using r)]at d;cases c;cases d;exact g w S T U j l m n
 .rw[zAp e]at c d;exact p i x y c d
theorem cM [Inhabited α] [Inhabited β] {k:Int} (h:aH M L (Pw f la lb)) (c:0<=k) (e:k<lb.length):aH M L (f (at' la k) (at' lb k)):=h.mono λ{w U} hp=>by
 have⟨g,d⟩:=hp;exact d k.toNat _ _ (cK c V7) (cK c e)
theorem QF (m:Nat) (h:aH M L (Pw f la lb)):aH M L (Pw f (la.take m) (lb.take m)):=h.mono λ{w U} hp=>by
 have⟨e,g⟩:=hp;refine⟨by simp[e],λi x y c d=>?_⟩
 rw[zAt]at c d;split at c
 .rename_i h;rw[if_pos h]at d;exact g i x y c d
 .cases c
theorem QE (m:Nat) (h:aH M L (Pw f la lb)):aH M L (Pw f (la.drop m) (lb.drop m)):=h.mono λ{w U} hp=>by
 have⟨e,g⟩:=hp;refine⟨by simp[e],λi x y c d=>?_⟩
 rw[zAu]at c d;exact g _ x y c d
theorem bL (h:aH M L (Pw f la lb)):∀c w,St c M L w->la.length=lb.length:=λc w t=>by
 have⟨S,d⟩:=h.st t;exact d.1
theorem wG {r:dX α} {e:bN α} {j:Nat} {vs:V6 V0} {d:V6 (V6 α)} (m:M[j]?=some (hJ e vs d)) (c:e.Fits r):aH M L (uU r vs d):=λw S T U u k x l=>by
 have⟨n,G,g,h,_⟩:=k j _ m;exact⟨n,λi v t p s=>(Cg.sl c (g i v t p s)).mono λq o _=>⟨l j q (h _ q o),rfl⟩⟩
theorem dM {g:a_} (h:aH [] L g):fM M L M (g::L):=λc w ⟨k,F,e,d⟩=>⟨k,F,e,λx hx=>by
 rcases zAn.1 hx with rfl|hx
 .exact h w (Ec c F) (λ_ _=>False) (Ec c F) d (λi m j=>by simp at j) (λ_ h=>h) (λ_ _ h=>h.elim)
 .exact d x hx⟩
theorem CV (n q:V6 a_) {g:a_} (u:aS M (n++q)) (h:aH n L g):fM M L q (g::L):=λc w t=>by
 have⟨v,F,o,s⟩:=t.weak u (λ_ h=>h);refine⟨v,λi k=>i<q.length/\F (i+n.length) k,⟨λi m p=>?_,λi k d=>o.rng _ k d.2,λi j k e r=>by have:=o.dis _ _ k e.2 r.2;omega⟩,λx hx=>?_⟩
 .have e:=bH p;exact a_.same (o.res (i+n.length) m (by rw[zAb V7,Nat.add_sub_cancel];exact p)) (λk d=>⟨e,d⟩) (λ_ _ _=>rfl)
 .have l:∀k,Ec c F k->Ec c (λi k=>i<q.length/\F (i+n.length) k) k:=λk d=>⟨d.1,λi e=>d.2 _ e.2⟩
  rcases zAn.1 hx with rfl|hx
  .refine h w (Ec c F) (λi k=>i<n.length/\F i k) _ s (λi m p=>?_) l (λi k d=>?_)
   .have e:=bH p;exact a_.same (o.res i m (by rw[zAc e];exact p)) (λk d=>⟨e,d⟩) (λ_ _ _=>rfl)
   .refine⟨.inr (o.rng i k d.2).1,λj r=>?_⟩
    have:=o.dis _ _ k d.2 r.2;omega
  .exact a_.same (s x hx) l (λ_ _ _=>rfl)
end
section
variable {M L:V6 a_} {α β γ:Type} {e:bN α} {r:dX α}
abbrev S3 (r:dX α) (v:V0) (a:V6 (V0×V6 (V0×V6 α))) (x:V6 (V6 (V6 α))):a_:=Sn (dX.sl (dX.sl r)) (λz=>z.2.map λy=>y.2) v a x
abbrev S4 (r:dX α) (v:V0) (a:V6 (V0×V6 (V0×V6 (V0×V6 α)))) (x:V6 (V6 (V6 (V6 α)))):a_:=Sn (dX.sl (dX.sl (dX.sl r))) (λz=>z.2.map λy=>y.2.map λq=>q.2) v a x
theorem eR {q:dX γ} {c:γ->β} {v:V0} {b:V6 (V0×V6 γ)} {a:V6 (V6 β)} {i:Int} (h:aH M L (Sn (dX.sl q) (λz=>z.2.map c) v b a)) (d:0<=i) (f:i<a.length):aH M L (Sn q c (at' b i).1 (at' b i).2 (at' a i)):=h.mono λ{w U} h=>by
 have⟨h,g⟩:=h;have j:i<b.length:=by rw[<-g]at f;simpa using f
 have⟨l,k,_⟩:=sl_cell h (cK d j);exact⟨k.2,by rw[<-g,WL _ d j]⟩
theorem oL {P:Program} [dL P] {c:xW} {n:Sz} {p:Fr} {d:V1 Tmp} {F:V9} {k:String} {j:Array Edge} {g:V1 (Nat×V4)} {T:V9} {D E:Nat} {z:V0} {l:TypeDesc} {x:V3} {q:dX γ} {u:V0×V6 γ->β} {v:V0} {i:Int} {o:V6 (V0×V6 γ)} {b:V6 β} (C:ev p x=some (Fc v (i.toNat*1))) (m:aH M L (Sn (dX.sl q) u v o b))
  (A:dL.tab P T=some ⟨l,D,E,z⟩) (B:Al l=false) (h:0<=i/\i<b.length):Y P c n p M L ⟨d,.load T x,F,k,j,g⟩ (at' o i).1:=λa w s t=>by
 have⟨_,y⟩:=m.st t;exact bY (r:=dX.sl q) (f:=λz=>z.1) C m.sl A B Z (dX.sl_cell q) (by rw[Sn.len y];exact h) a w s t
theorem Lb {q:dX γ} {w:V2} {S F:Nat->Prop} {v:V0} {c:V6 V0} {d:V6 (V0×V6 γ)} (m:Cg bN.raw w F v c) (n:c.length=d.length) (C:∀(i:Nat) u z,c[i]?=some u->d[i]?=some z->z.1=u/\Gd q w S z.1 z.2) (A:∀k,F k->S k):Gd (dX.sl q) w S v d:=by
 have g:=m;have⟨K,_,B⟩:=m;rcases B with⟨rfl,rfl⟩|⟨b,l,f,E,s,rfl,h,G,J,H,N⟩
 .have:d=[]:=zAo (by simpa using n.symm);subst this;exact⟨none,0,rfl,V8,.inl Z⟩
 .refine⟨_,f,by rw[n],V7,.inr ⟨b,l,rfl,A _ h,λi x p=>?_⟩⟩
  have I:=bH p;have o:c[i]?=some (c[i]'V7):=zA0 _;have⟨t,y⟩:=C i _ x o p;refine⟨[x.1],λD u a=>?_,rfl,y⟩
  rw[t]at a;have:=Cg.cell g o (j:=D) (u:=u) a;simp only[L_,eZ]at this;exact this
def Z3 (vs:V6 V0) (wss:V6 (V6 V0)) (xsss:V6 (V6 (V6 α))):V6 (V0×V6 (V0×V6 α)):=vs.zip (List.zipWith List.zip wss xsss)
def Z4 (us:V6 V0) (wss:V6 (V6 V0)) (a:V6 (V6 (V6 V0))) (y:V6 (V6 (V6 (V6 α)))):V6 (V0×V6 (V0×V6 (V0×V6 α))):=us.zip (List.zipWith (λb p=>Z3 b p.1 p.2) wss (a.zip y))
theorem Ry {w:V2} {S F:Nat->Prop} {v:V0} {d:V6 V0} {a:V6 (V6 α)} (j:Cg bN.raw w F v d) (b:(uU r d a).p w S) (l:∀k,F k->S k):Gd (dX.sl r) w S v (d.zip a):=by
 have⟨m,b⟩:=b;refine Lb j (by simp[m]) (λi u z g c=>?_) l;rw[List.getElem?_zip_eq_some]at c;rw[g]at c;have⟨f,h⟩:=c;refine⟨(Option.some.inj f).symm,b i _ _ ?_ h⟩
 rw[g];exact f
theorem VW {w:V2} {S F:Nat->Prop} {v:V0} {vs:V6 V0} {wss:V6 (V6 V0)} {xsss:V6 (V6 (V6 α))} (hA:Cg bN.raw w F v vs) (hR:(hJ bN.raw vs wss).p w F) (hP:(DI r wss xsss).p w S) (hF:∀k,F k->S k):Gd (dX.sl (dX.sl r)) w S v (Z3 vs wss xsss)/\(Z3 vs wss xsss).map (λz=>z.2.map λy=>y.2)=xsss:=by
 have⟨hl,hP⟩:=hP;have⟨hl2,G,g1,g2,_⟩:=hR;unfold Z3;refine⟨Lb hA (by simp[hl2,hl]) (λi u z hu hz=>?_) hF,?_⟩
 .rw[List.getElem?_zip_eq_some]at hz;have⟨h1,h2⟩:=hz;rw[hu]at h1;have h1:=Option.some.inj h1;rw[List.getElem?_zipWith]at h2;split at h2
  .rename_i ws xss hws hxs;have h2:=Option.some.inj h2;have:=Ry (g1 i u ws hu hws) (hP i ws xss hws hxs) (λk hk=>hF k (g2 i k hk));refine⟨h1.symm,?_⟩
   rw[<-h1,<-h2];exact this
  .cases h2
 .refine List.ext_getElem? λi=>?_;rw[List.getElem?_map];by_cases hi:i<xsss.length
  .have e1:vs[i]?=some (vs[i]'V7):=zA0 _;have e2:wss[i]?=some (wss[i]'V7):=zA0 _;have e3:xsss[i]?=some (xsss[i]'hi):=zA0 _;have e4:(vs.zip (List.zipWith List.zip wss xsss))[i]?=some (vs[i]'V7,(wss[i]'V7).zip (xsss[i]'hi)):=by
    rw[List.getElem?_zip_eq_some];exact⟨e1,by rw[List.getElem?_zipWith,e2,e3]⟩
   rw[e4,e3];simp only[Option.map_some,Option.some.injEq];rw[List.map_snd_zip];have:=(hP i _ _ e2 e3).1;omega
  .rw[zAq Q1,zAq V7];rfl
theorem eM {i j:Nat} {v:V0} {vs:V6 V0} {a:V6 (V6 α)} (h:M[i]?=some (Ar bN.raw v vs)) (k:L[j]?=some (uU r vs a)):aH M L (S2 r v (vs.zip a) a):=λw S T U c d f g=>by
 have b:=a_.wide (c _ (zA1 k)) f;refine⟨Ry (d i _ h) b (g i),?_⟩
 rw[List.map_snd_zip];have:=b.1;omega
theorem kE {i q j:Nat} {v:V0} {vs:V6 V0} {wss:V6 (V6 V0)} {xsss:V6 (V6 (V6 α))} (f:M[i]?=some (Ar bN.raw v vs)) (k:M[q]?=some (hJ bN.raw vs wss)) (g:L[j]?=some (DI r wss xsss)):aH M L (S3 r v (Z3 vs wss xsss) xsss):=λw S T U c a d b=>
 VW (F:=U) (a_.wide (a i _ f) (b i)) (a_.wide (a q _ k) (b q)) (a_.wide (c _ (zA1 g)) d) (λ_ h=>h)
theorem sU {i q j:Nat} {v:V0} {us:V6 V0} {wss:V6 (V6 V0)} {a:V6 (V6 (V6 V0))} {y:V6 (V6 (V6 (V6 α)))} (hi:M[i]?=some (Ar bN.raw v us)) (hq:M[q]?=some (Bu bN.raw us wss a)) (hj:L[j]?=some (Gp r a y)):aH M L (S4 r v (Z4 us wss a y) y):=λw S T U V I X J=>by
 have⟨hl,W⟩:=a_.wide (V _ (zA1 hj)) X;have⟨⟨l1,l2⟩,G,Q,H,_⟩:=a_.wide (I q _ hq) (J q);have R:=a_.wide (I i _ hi) (J i);have c:∀(m:Nat) u z,us[m]?=some u->(Z4 us wss a y)[m]?=some z->z.1=u/\Gd (dX.sl (dX.sl r)) w U z.1 z.2/\∃x,y[m]?=some x/\z.2.map (λy=>y.2.map λq=>q.2)=x:=by
  intro m u z o d;unfold Z4 at d;rw[List.getElem?_zip_eq_some]at d;have⟨g,b⟩:=d;rw[o]at g;have g:=Option.some.inj g;rw[List.getElem?_zipWith]at b;split at b
  .rename_i K p D n;rw[List.getElem?_zip_eq_some]at n;have b:=Option.some.inj b;have⟨A,B,s,t,N,O,_⟩:=Q m u K p.1 o D n.1;have:=VW (r:=r) (F:=U) (a_.wide (f:=Ar bN.raw u K) s (λk C=>H m k (N k C))) (a_.wide t (λk C=>H m k (O k C))) (W m p.1 p.2 n.1 n.2) (λ_ h=>h);refine⟨g.symm,?_,p.2,n.2,?_⟩
   .rw[<-g,<-b];exact this.1
   .rw[<-b];exact this.2
  .cases b
 have l:us.length=(Z4 us wss a y).length:=by unfold Z4;simp;omega
 refine⟨Lb (F:=U) R l (λm u z o d=>⟨(c m u z o d).1,(c m u z o d).2.1⟩) (λ_ h=>h),?_⟩
 refine List.ext_getElem? λm=>?_;rw[List.getElem?_map];by_cases hm:m<us.length
 .have P:us[m]?=some (us[m]'hm):=zA0 _;have E:(Z4 us wss a y)[m]?=some ((Z4 us wss a y)[m]'V7):=zA0 _;have⟨_,_,x,hx,Y⟩:=c m _ _ P E;rw[E,hx,Option.map_some];exact congrArg some Y
 .rw[zAq V7,zAq V7];rfl
theorem Km {q j:Nat} {vs:V6 V0} {wss:V6 (V6 V0)} {xsss:V6 (V6 (V6 α))} {k:Int} (p:M[q]?=some (hJ bN.raw vs wss)) (n:L[j]?=some (DI r wss xsss)) (a:0<=k) (f:k<xsss.length):aH M L (S2 r (at' vs k) ((at' wss k).zip (at' xsss k)) (at' xsss k)):=λw S T U g h l m=>by
 have⟨s,i⟩:=a_.wide (g _ (zA1 n)) l;have⟨o,G,c,d,_⟩:=a_.wide (h q _ p) (m q);have b:=i k.toNat _ _ (cK a V7) (cK a f);refine⟨Ry (c k.toNat _ _ (cK a V7) (cK a V7)) b (d _),?_⟩
 rw[List.map_snd_zip];have:=b.1;omega
theorem Pg {q j:Nat} {us:V6 V0} {wss:V6 (V6 V0)} {a:V6 (V6 (V6 V0))} {y:V6 (V6 (V6 (V6 α)))} {k:Int} (D:M[q]?=some (Bu bN.raw us wss a)) (x:L[j]?=some (Gp r a y)) (b:0<=k) (o:k<y.length):aH M L (S3 r (at' us k) (Z3 (at' wss k) (at' a k) (at' y k)) (at' y k)):=λw S T U p s u v=>by
 have⟨E,t⟩:=a_.wide (p _ (zA1 x)) u;have⟨⟨H,I⟩,G,n,i,_⟩:=a_.wide (s q _ D) (v q);have C:=t k.toNat _ _ (cK b V7) (cK b o);have⟨A,B,c,d,l,m,_⟩:=n k.toNat _ _ _ (cK b V7) (cK b V7) (cK b V7);exact VW (r:=r) (F:=U) (a_.wide (f:=Ar bN.raw _ _) c (λz g=>i _ z (l z g))) (a_.wide d (λz g=>i _ z (m z g))) C (λ_ h=>h)
theorem Kl {q j:Nat} {us:V6 V0} {wss:V6 (V6 V0)} {a:V6 (V6 (V6 V0))} {y:V6 (V6 (V6 (V6 α)))} {k b:Int} (H:M[q]?=some (Bu bN.raw us wss a)) (C:L[j]?=some (Gp r a y)) (h:0<=k/\k<y.length) (c:0<=b/\b<(at' y k).length):aH M L (S2 r (at' (at' wss k) b) ((at' (at' a k) b).zip (at' (at' y k) b)) (at' (at' y k) b)):=λw S T U s t v x=>by
 have⟨N,u⟩:=a_.wide (s _ (zA1 C)) v;have⟨⟨O,P⟩,G,n,o,_⟩:=a_.wide (t q _ H) (x q);have E:=u k.toNat _ _ (cK h.1 V7) (cK h.1 h.2);have⟨A,B,p,f,K,i,_⟩:=n k.toNat _ _ _ (cK h.1 V7) (cK h.1 V7) (cK h.1 V7);have⟨D,J,l,m,_⟩:=f;have⟨F,g⟩:=E;have d:=g b.toNat _ _ (cK c.1 V7) (cK c.1 c.2);refine⟨Ry (l b.toNat _ _ (cK c.1 V7) (cK c.1 V7)) d (λz I=>o _ z (i z (m _ z I))),?_⟩
 rw[List.map_snd_zip];have:=d.1;omega
theorem Lt {q:Nat} {vs:V6 V0} {wss:V6 (V6 V0)} {k:Int} (i:M[q]?=some (hJ bN.raw vs wss)) (a:0<=k) (d:k<wss.length):aH M L (Sl dX.raw (at' vs k) (at' wss k)):=λw S T U l f m g=>by
 have⟨h,G,b,c,_⟩:=a_.wide (f q _ i) (g q);exact(Kj (b k.toNat _ _ (cK a V7) (cK a d))).mono λz j _=>⟨c _ z j,rfl⟩
theorem BS {q:Nat} {us:V6 V0} {wss:V6 (V6 V0)} {a:V6 (V6 (V6 V0))} {k:Int} (m:M[q]?=some (Bu bN.raw us wss a)) (b:0<=k) (h:k<a.length):aH M L (Sl dX.raw (at' us k) (at' wss k)):=λw S T U p j s l=>by
 have⟨⟨t,u⟩,G,f,g,_⟩:=a_.wide (j q _ m) (l q);have⟨A,B,c,i,d,o,_⟩:=f k.toNat _ _ _ (cK b V7) (cK b V7) (cK b h);exact(Kj c).mono λz n _=>⟨g _ z (d z n),rfl⟩
theorem Sw {q:Nat} {us:V6 V0} {wss:V6 (V6 V0)} {a:V6 (V6 (V6 V0))} {k b:Int} (s:M[q]?=some (Bu bN.raw us wss a)) (h:0<=k/\k<a.length) (c:0<=b/\b<(at' a k).length):aH M L (Sl dX.raw (at' (at' wss k) b) (at' (at' a k) b)):=λw S T U x n y o=>by
 have⟨⟨C,D⟩,G,j,l,_⟩:=a_.wide (n q _ s) (o q);have⟨A,B,m,d,v,f,_⟩:=j k.toNat _ _ _ (cK h.1 V7) (cK h.1 V7) (cK h.1 h.2);have⟨p,u,g,i,_⟩:=d;exact(Kj (g b.toNat _ _ (cK c.1 V7) (cK c.1 c.2))).mono λz t _=>⟨l _ z (f z (i _ z t)),rfl⟩
theorem Je (j:Nat) {vs:V6 V0} {wss:V6 (V6 V0)} {xsss:V6 (V6 (V6 α))} {k:Int} (Y:M[j]?=some (Bu e vs wss xsss)) (x:0<=k/\k<xsss.length):fM M L (Ar bN.raw (at' vs k) (at' wss k)::hJ e (at' wss k) (at' xsss k)::M.set j (Bu e (vs.set k.toNat (.slice none 0 0)) (wss.set k.toNat []) (xsss.set k.toNat []))) L:=by
 rintro c w ⟨ho,F,l,hL⟩;have⟨⟨I,J⟩,G,X,p,D⟩:=l.res j _ Y;have K:=bH Y;have⟨A,B,hA,hB,P,Q,R⟩:=X k.toNat _ _ _ (cK x.1 V7) (cK x.1 V7) (cK x.1 x.2);have t:∀b,A b->F j b:=λb h=>p _ b (P b h);have u:∀b,B b->F j b:=λb h=>p _ b (Q b h);refine⟨ho,λq b=>(q=0/\A b)\/(q=1/\B b)\/∃r,q=r+2/\((r=j/\∃j',j'≠k.toNat/\G j' b)\/(r≠j/\F r b)),⟨?_,?_,?_⟩,λf H=>?_⟩
 .intro q m n
  match q,n with
  |0,n=>
   obtain rfl:=Option.some.inj n;exact a_.same hA (λb d=>.inl ⟨rfl,d⟩) (λ_ _ _=>rfl)
  |1,n=>
   obtain rfl:=Option.some.inj n;exact a_.same hB (λb d=>.inr (.inl ⟨rfl,d⟩)) (λ_ _ _=>rfl)
  | r + 2, n =>
   have n:(M.set j _)[r]?=some m:=n;by_cases C:r=j
   .subst C;rw[zAi K]at n;cases n;refine⟨by simp[I,J],λj' q=>j'≠k.toNat/\G j' q,λj' v ws O s y z=>?_,λj' q N=>.inr (.inr ⟨r,rfl,.inl ⟨rfl,j',N⟩⟩),λj1 j2 q h1 h2=>D _ _ q h1.2 h2.2⟩
    by_cases o:j'=k.toNat
    .subst o;rw[zAi V7]at s;rw[zAi V7]at y;rw[zAi V7]at z;cases s;cases y;cases z;exact⟨λ_=>False,λ_=>False,⟨V8,rfl,.inl ⟨rfl,rfl⟩⟩,⟨rfl,λ_ _=>False,λi v xs s=>by simp at s,λ_ _ h=>h,λ_ _ _ h=>h.elim⟩,λ_ h=>h.elim,λ_ h=>h.elim,λ_ h=>h.elim⟩
    .rw[zAp (Ne.symm o)]at s y z;exact a_.same (X j' v ws O s y z) (λq N=>⟨o,N⟩) (λ_ _ _=>rfl)
   .rw[zAp (Ne.symm C)]at n;exact a_.same (l.res r m n) (λb d=>.inr (.inr ⟨r,rfl,.inr ⟨C,d⟩⟩)) (λ_ _ _=>rfl)
 .rintro q b (⟨_,d⟩|⟨_,d⟩|⟨r,_,⟨_,j',_,d⟩|⟨_,d⟩⟩)
  .exact l.rng _ b (t b d)
  .exact l.rng _ b (u b d)
  .exact l.rng _ b (p _ b d)
  .exact l.rng _ b d
 .have S:∀b j',A b->j'≠k.toNat->¬G j' b:=λb j' h g E=>g (D _ _ b E (P b h));have T:∀b j',B b->j'≠k.toNat->¬G j' b:=λb j' h g E=>g (D _ _ b E (Q b h));rintro q q' b (⟨U,d⟩|⟨U,d⟩|⟨r,U,d⟩) (⟨o,a⟩|⟨o,a⟩|⟨r',o,a⟩)
  .omega
  .exact absurd a (R b d)
  .rcases a with⟨_,j',g,a⟩|⟨g,a⟩
   .exact absurd a (S b j' d g)
   .exact absurd (l.dis _ _ b a (t b d)) g
  .exact absurd d (R b a)
  .omega
  .rcases a with⟨_,j',g,a⟩|⟨g,a⟩
   .exact absurd a (T b j' d g)
   .exact absurd (l.dis _ _ b a (u b d)) g
  .rcases d with⟨_,j',g,d⟩|⟨g,d⟩
   .exact absurd d (S b j' a g)
   .exact absurd (l.dis _ _ b d (t b a)) g
  .rcases d with⟨_,j',g,d⟩|⟨g,d⟩
   .exact absurd d (T b j' a g)
   .exact absurd (l.dis _ _ b d (u b a)) g
  .rcases d with⟨V,j',_,d⟩|⟨V,d⟩<;>rcases a with⟨W,aa,_,a⟩|⟨W,a⟩
   .omega
   .exact absurd (l.dis _ _ b a (p _ b d)) W
   .exact absurd (l.dis _ _ b d (p _ b a)) V
   .have:=l.dis _ _ b d a;omega
 .refine a_.same (hL f H) (λb d=>⟨d.1,?_⟩) (λ_ _ _=>rfl);rintro q (⟨_,h⟩|⟨_,h⟩|⟨r,_,⟨_,j',_,h⟩|⟨_,h⟩⟩)
  .exact d.2 _ (t b h)
  .exact d.2 _ (u b h)
  .exact d.2 _ (p _ b h)
  .exact d.2 _ h
theorem Vd (i j:Nat) {u:V0} {C:V6 V0} {h:V6 (V6 α)} {k:Int} {D:V6 V0} {g:V6 (V6 V0)} {d:V6 (V6 (V6 α))} (p:Nat.beq i j=false) (N:M[i]?=some (Bu e D g d)) (O:M[j]?=some (ZH e u C h)) (R:0<=k/\k<d.length):
  fM M L ((M.set i (Bu e (D.set k.toNat u) (g.set k.toNat C) (d.set k.toNat h))).eraseIdx j) L:=λc w t=>
 t.merge i j (λe=>by subst e;simp at p) N O (by
  rintro w Q E ⟨⟨s,x⟩,G,F,o,H⟩ K A;refine⟨⟨by simp[s],by simp[x]⟩,λq b=>(q=k.toNat/\E b)\/(q≠k.toNat/\G q b),?_,?_,?_⟩
  .intro q v P z l m n;by_cases y:q=k.toNat
   .subst y;rw[zAi V7]at l;rw[zAi V7]at m;rw[zAi V7]at n;cases l;cases m;cases n;exact a_.same K (λb a=>.inl ⟨rfl,a⟩) (λ_ _ _=>rfl)
   .rw[zAp (Ne.symm y)]at l m n;exact a_.same (F q v P z l m n) (λb a=>.inr ⟨y,a⟩) (λ_ _ _=>rfl)
  .rintro q b (⟨_,a⟩|⟨_,a⟩)
   .exact .inr a
   .exact .inl (o q b a)
  .rintro q B b (⟨I,a⟩|⟨I,a⟩) (⟨J,f⟩|⟨J,f⟩)
   .omega
   .exact absurd a (A b (o B b f))
   .exact absurd f (A b (o q b a))
   .exact H q B b a f)
theorem Lv (i j q:Nat) {us:V6 V0} {a:V6 (V6 α)} {k:Int} {vs:V6 V0} {wss:V6 (V6 V0)} {xsss:V6 (V6 (V6 α))} {i' j':Nat} (g:Nat.beq j q=false) (f:Nat.beq i' j'=false) (p:M[i]?=some (Bu e (vs.set k.toNat (.slice none 0 0)) (wss.set k.toNat []) (xsss.set k.toNat []))) (n:M[j]?=some (Ar bN.raw (at' vs k) us)) (o:M[q]?=some (hJ e us a))
  (d:((M.set j (ZH e (at' vs k) us a)).eraseIdx q)[i']?=some (Bu e (vs.set k.toNat (.slice none 0 0)) (wss.set k.toNat []) (xsss.set k.toNat []))) (b:((M.set j (ZH e (at' vs k) us a)).eraseIdx q)[j']?=some (ZH e (at' vs k) us a)) (m:0<=k/\k<xsss.length):
  fM M L ((((M.set j (ZH e (at' vs k) us a)).eraseIdx q).set i' (Bu e vs (wss.set k.toNat us) (xsss.set k.toNat a))).eraseIdx j') L:=by
 rintro c w t;have s:vs.length=xsss.length:=by have⟨_,h⟩:=t.res p;simpa using h.1.1
 have u:=Jd (L:=L) j q g n o c w t;have l:=Vd (L:=L) (k:=k) _ _ f d b (by simpa using m) c w u;simp only[List.set_set]at l;rw[FD vs k V7 m.1]at l;exact l
end
section
variable {P:Program} {rd:V1 Nat} {c:xW} {n:Sz} {σ:Fr} {M L:V6 a_} {Q:Exit->Act->V2->Prop} {ops:Array V5} {rest:V6 V5} {d:V1 Tmp} {ty:V9} {pos:String} {aft:Array Edge} {g:V1 (Nat×V4)} {α:Type} {e:bN α} {r:dX α}
@[reducible] def tg {a:Type} (_:Nat) (x:a):a:=x
def Gq:dX V0:=⟨1,Nat.one_pos,λ_ _ a x=>a=[x]/\one x=true,λh=>by simp[h.1],λh _=>h⟩
def agO {α:Type} (e:bN α) (r:dX α):Prop:=r.sz=e.sz/\∀{w S es x},r.R w S es x->es=e.enc x/\(e.enc x).all one=true
theorem Ii:agO bN.raw Gq:=⟨rfl,λh=>⟨h.1,by show[_].all one=true;simp[h.2]⟩⟩
theorem MR {w:V2} {F:Nat->Prop} {v:V0} {l:V6 V0} (h:Cg bN.raw w F v l):Gd Gq w F v l:=by
 have o:=h;have⟨B,p,s⟩:=h;rcases s with⟨rfl,rfl⟩|⟨b,f,a,T,m,rfl,q,y,A,z,C⟩
 .exact⟨none,0,rfl,V8,.inl Z⟩
 .refine⟨_,a,rfl,V7,.inr ⟨b,f,rfl,q,λi x k=>⟨[x],λj u t=>?_,rfl,?_⟩⟩⟩
  .have:=Cg.cell o k (j:=j) (u:=u) t;simp only[L_,eZ]at this;exact this
  .exact zA7.1 p x (by simp only[cellsOf,List.mem_flatMap];exact⟨x,zA1 k,by simp[bN.raw]⟩)
theorem SK [dL P] (b:agO e r) {w:V2} {S:Nat->Prop} {v:V0} {f:V6 α} {T E:V9} {D F:Nat} {z:V0} (h:Gd r w S v f) (p:dL.tab P T=some ⟨.slice E,D,F,z⟩):
  Src P e.sz T v f.length (cellsOf e f) w/\(cellsOf e f).all one=true:=by
 have⟨a,k⟩:=b;have⟨m,A,y,t,q⟩:=Gd.src h p (λ{w S o x} hr=>by rw[(k hr).1];exact(k hr).2);have:m=cellsOf e f:=Ly (by rw[t,a]) (λi x C j u B=>by
  have⟨o,l,s⟩:=q i x C;rw[<-a];exact s j u (by rw[(k l).1];exact B))
 subst this;rw[<-a];exact⟨A,y⟩
theorem sO {i:Nat} {v:V0} {vs:V6 V0} (a:M[i]?=some (Ar bN.raw v vs)):aH M L (Sl Gq v vs):=(aH.res i a).mono λh=>MR h
theorem uT (q:Nat) {vs:V6 V0} {wss:V6 (V6 V0)} {xsss:V6 (V6 (V6 α))} (j:M[q]?=some (Bu e vs wss xsss)) {k:Int} (h:0<=k/\k<xsss.length):∀c w,St c M L w->(at' wss k).length=(at' xsss k).length:=λc w t=>by
 have⟨_,⟨f,i⟩,G,a,l,_⟩:=t.res j;have⟨A,B,m,b,_⟩:=a k.toNat _ _ _ (cK h.1 V7) (cK h.1 V7) (cK h.1 h.2);exact b.1
theorem sT {a f:Type} {q:dX a} {b:a->f}:aH M L (Sn q b (.slice none 0 0) [] []):=λ_ _ _ _ _ _ _ _=>⟨⟨none,0,rfl,V8,.inl Z⟩,rfl⟩
theorem MY [dL P] (q:Nat) {x y:V3} {v:V0} {f:V6 V0} {i j:Int} {T E:V9} {s1 s2 D s4:Nat} {z z':V0} {dE:TypeDesc} (hx:ev σ x=some (slq v (0:Int).toNat i.toNat D)) (hy:ev σ y=some (slq v j.toNat (f.length:Int).toNat D)) (hf:M[q]?=some (Ar bN.raw v f))
  (hT:dL.tab P T=some ⟨.slice E,s1,s2,z⟩) (hE:dL.tab P E=some ⟨dE,D,s4,z'⟩) (h3:bN.raw.sz=D) (h:0<=i/\i<j/\j<=f.length):
  aN P c n σ M L ⟨d,.call ⟨.builtin .append,#[x,y],#[T,T]⟩,ty,pos,aft,g⟩ (λ_:Unit=>slq v 0 (i+((f.length:Int) - j)).toNat D) (λ_=>M.set q (Ar bN.raw (slq v 0 (i+((f.length:Int) - j)).toNat D) (f.take i.toNat++f.drop j.toNat))) (λ_=>L):=λa w s t=>by
 subst h3;have t0:=t;have⟨ho,W,hO,N⟩:=t0;have Y:=hO.res q _ hf;have V:=MR Y;have U:=Gd.part V (l:=j.toNat) (h:=f.length) V7 (zAg _);have U:Gd Gq w (W q) (slq v j.toNat f.length bN.raw.sz) ((f.take f.length).drop j.toNat):=U;have⟨hs,F⟩:=SK Ii U hT;have⟨h0,K,hh⟩:=Y;rcases hh with⟨_,rfl⟩|⟨b,o,p,X,m,rfl,G,H,hk,hc,ht⟩
 .simp at h;omega
 have J:((f.take f.length).drop j.toNat)=f.drop j.toNat:=by rw[List.take_length]
 rw[J]at hs F;have A:(f.drop j.toNat).length=f.length - j.toNat:=V8
 have hn:(i+((f.length:Int) - j)).toNat=i.toNat+(f.length - j.toNat):=V7
 rw[show(0:Int).toNat=0 from rfl,Oh]at hx;rw[show(f.length:Int).toNat=f.length by omega]at hy;have C:i.toNat+(f.drop j.toNat).length<=p:=V7
 have hr:=Of (P:=P) (ty:=ty) (dL.ok hT) Z (dL.ok hE) H hs C hc;simp only[Oper.wp,Bb s hx hy w,hr,Result.andThen_ok,Oper.upon];have aa:(i.toNat+(f.length - j.toNat))*bN.raw.sz<=p*bN.raw.sz:=zAv _ V7;have I:(cellsOf bN.raw (f.drop j.toNat)).length=(f.length - j.toNat)*bN.raw.sz:=by rw[fK,A]
 have B:(i.toNat+(f.length - j.toNat))*bN.raw.sz=i.toNat*bN.raw.sz+(f.length - j.toNat)*bN.raw.sz:=zB3 _ _ _;have S:o+i.toNat*bN.raw.sz+(cellsOf bN.raw (f.drop j.toNat)).length<=m.toList.length:=by
  rw[I];simp;omega
 refine⟨(),?_,?_⟩
 .rw[Oh,hn,A]
 .rw[Oh,hn];refine Ho ho hO N hf Z Z Z V8 (λk _ O=>setRow_other w b k _ (λe=>O (by subst e;exact G))) (F':=W q) ?_ (λk hk=>.inl hk);refine⟨Q1,?_,.inr ⟨b,o,p,X,_,Q1,G,setRow_heap w b _ _ X _ H,Q1,?_,?_⟩⟩
  .rw[mS,List.all_append,F,Bool.and_true];refine zA7.2 λu hu=>zA7.1 K u ?_;rw[<-zBe i.toNat f,mS];exact List.mem_append_left _ hu
  .simp only[List.size_toArray,zA4,List.length_take,List.length_drop];have:m.size=m.toList.length:=V8
   omega
  .have hd:=Px m.toList o (i.toNat*bN.raw.sz) (cellsOf bN.raw (f.drop j.toNat)) S;have e1:(f.take i.toNat++f.drop j.toNat).length*bN.raw.sz=i.toNat*bN.raw.sz+(cellsOf bN.raw (f.drop j.toNat)).length:=by
    rw[I,zA4,List.length_take,A,Nat.min_eq_left V7];exact B
   have e2:(m.toList.drop o).take (i.toNat*bN.raw.sz)=cellsOf bN.raw (f.take i.toNat):=by
    have:(m.toList.drop o).take (i.toNat*bN.raw.sz)=((m.toList.drop o).take (f.length*bN.raw.sz)).take (i.toNat*bN.raw.sz):=by
     rw[List.take_take,Nat.min_eq_left (zAv _ V7)]
    rw[this,ht]
    conv=>lhs;rw[<-zBe i.toNat f,mS]
    have R:(cellsOf bN.raw (f.take i.toNat)).length=i.toNat*bN.raw.sz:=by rw[fK,List.length_take,Nat.min_eq_left V7]
    rw[<-R,List.take_left]
   rw[e1,mS,<-e2];exact hd
theorem OG [dL P] (i:Nat) (b:agO e r) {x y:V3} {v u:V0} {h j:V6 α} {T E:V9} {V W m k:Nat} {z p:V0} {q:TypeDesc} (R:ev σ x=some v) (S:ev σ y=some u) (I:M[i]?=some (Ar e v h)) (J:aH M L (Sl r u j))
  (o:dL.tab P T=some ⟨.slice E,V,W,z⟩) (D:dL.tab P E=some ⟨q,m,k,p⟩) (B:e.sz=m) (C:Nat.ble k 1024=true) (X:(h.length:Int)+j.length<=1099511627) (U:p.cells.size=m):
  aN P c n σ M L ⟨d,.call ⟨.builtin .append,#[x,y],#[T,T]⟩,ty,pos,aft,g⟩ (λf:V0=>f) (λf=>M.set i (Ar e f (h++j))) (λ_=>L):=λa w s t=>by
 subst B;have⟨F,G⟩:=J.st t;have⟨N,A⟩:=SK b G o;have l:k<=1024:=by simpa using C
 have H:(h.length+j.length)*k<=140737488355328:=zB6 (Nat.mul_le_mul (show h.length+j.length<=1099511627 by omega) l) Q2;have⟨f,Y,K,O⟩:=t.append (ty:=ty) I N A o D H V7 U;simp only[Oper.wp,Bb s R S w,K,Result.andThen_ok,Oper.upon];exact⟨f,rfl,O⟩
theorem lW {a h:Type} {q:dX a} {i:a->h} {v:V0} {k:V6 a} {f:V6 h} (b:aH M L (Sn q i v k f)):∀c w,St c M L w->agZ v f.length:=λc w t=>by
 have⟨_,j⟩:=b.st t;rw[<-Sn.len j];exact Know.len b.sl c w t
theorem lE (i:Nat) {a g:a_} (b:M[i]?=some a) (h:aH [a] L g):fM M L (M.eraseIdx i) (g::L):=CV [a] _ (aS.cons i b (aS.refl _)) h
theorem uY {x:V3} {v:V0} {o:Nat} (b:ev σ x=some (Fc v o)):Y P c n σ M L ⟨d,.nilCheck x,ty,pos,aft,g⟩ (Fc v o):=λa w s _=>by
 simp[execOp,s.eval b,Fc]
end
end Go.Sx
namespace Go.Proofs.YtflciafboapaaaaGreat
open Go.Sx
theorem _root_.Go.Sx.Y.bld5 {P:Program} {c:xW} {n:Sz} {a:Fr} {M L:V6 a_} {d:V1 Tmp} {E:V9} {k:String} {j:Array Edge} {g:V1 (Nat×V4)} {T:V9} {b e f h i:Nat} {s t u v x:V3} {l m o p q r:V0} (y:ev a s=some l) (z:ev a t=some m) (A:ev a u=some o) (B:ev a v=some p) (C:ev a x=some q) (D:∀w,(Instr.build T ([(b,l),(e,m),(f,o),(h,p),(i,q)]:V6 (Nat×V0)).toArray).run P w = .ok r w):Y P c n a M L ⟨d,.build T #[(b,s),(e,t),(f,u),(h,v),(i,x)],E,k,j,g⟩ r:=
 CW (ps:=[(b,s),(e,t),(f,u),(h,v),(i,x)]) (vs:=[(b,l),(e,m),(f,o),(h,p),(i,q)]) (by simp[y,z,A,B,C]) D
abbrev ESt:bN ByteArray:=⟨1,Nat.one_pos,λx=>[.string x],λ_=>rfl⟩
abbrev RSt:dX ByteArray:=⟨1,Nat.one_pos,λ_ _ a x=>a=[.string x],λh=>by simp[h],λh _=>h⟩
theorem FSt:ESt.Fits RSt:=⟨rfl,λh=>h,rfl,λ_=>rfl⟩
abbrev cY:bN Int:=bN.int .i64
abbrev aK:dX Int:=dX.int .i64
theorem eP:cY.Fits aK:=Qw .i64
theorem dJ:aK.Cell 0 (λx=>.int .i64 x):=QJ .i64
abbrev fJ:bN Yf:=bN.pair ESt (bN.pair cY (bN.pair cY (bN.pair cY (bN.pair cY (cY)))))
abbrev aG:dX Yf:=dX.pair RSt (dX.pair aK (dX.pair aK (dX.pair aK (dX.pair aK (aK)))))
theorem xN:fJ.Fits aG:=mD FSt (mD eP (mD eP (mD eP (mD eP (eP)))))
theorem Bm:aG.Cell 1 (λx=>.int .i64 x.2.1):=dD (mK (dJ))
theorem FZ:aG.Cell 2 (λx=>.int .i64 x.2.2.1):=dD (dD (mK (dJ)))
theorem F_:aG.Cell 3 (λx=>.int .i64 x.2.2.2.1):=dD (dD (dD (mK (dJ))))
theorem Ga:aG.Cell 4 (λx=>.int .i64 x.2.2.2.2.1):=dD (dD (dD (dD (mK (dJ)))))
theorem Gb:aG.Cell 5 (λx=>.int .i64 x.2.2.2.2.2):=dD (dD (dD (dD (dD (dJ)))))
abbrev bW:bN iU:=bN.pair cY (cY)
abbrev aR:dX iU:=dX.pair aK (aK)
theorem cA:bW.Fits aR:=mD eP (eP)
theorem Br:aR.Cell 0 (λx=>.int .i64 x.1):=mK (dJ)
theorem UZ:aR.Cell 1 (λx=>.int .i64 x.2):=dD (dJ)
abbrev t_:dX (Int×(V0×iF)):=dX.pair aK ((dX.sl aR))
theorem OF:t_.All 2 (λx=>[Value.int .i64 (x.1),x.2.1]):=(QI (Va eP) (Vb aR))
theorem FK:t_.Deep aR (λx=>x.2):=Hn (Gr aR)
abbrev aF:dX (ByteArray×(V0×iF)×(V0×V6 (Int×(V0×iF)))):=dX.pair RSt (dX.pair (dX.sl aR) ((dX.sl t_)))
theorem CB:aF.Cell 1 (λx=>x.2.1.1):=dD (mK (dX.sl_cell aR))
theorem CE:aF.Deep aR (λx=>x.2.1):=Hn (Yw (Gr aR))
theorem CC:aF.Cell 2 (λx=>x.2.2.1):=dD (dD (dX.sl_cell t_))
theorem iQ:aF.Deep t_ (λx=>x.2.2):=Hn (Hn (Gr t_))
abbrev EFn:bN Nat:=bN.fn
abbrev RFn:dX Nat:=dX.fn
theorem FFn:EFn.Fits RFn:=So
abbrev Mj:bN (Int×Nat):=bN.pair cY (EFn)
abbrev adS:dX (Int×Nat):=dX.pair aK (RFn)
theorem DL:Mj.Fits adS:=mD eP (FFn)
abbrev EBo:bN V4:=bN.bool
abbrev cI:bN (Int×Int×Int):=bN.pair cY (bN.pair cY (cY))
abbrev cJ:dX (Int×Int×Int):=dX.pair aK (dX.pair aK (aK))
theorem eC:cI.Fits cJ:=mD eP (mD eP (eP))
theorem OI:cJ.Cell 0 (λx=>.int .i64 x.1):=mK (dJ)
theorem OJ:cJ.Cell 1 (λx=>.int .i64 x.2.1):=dD (mK (dJ))
theorem OM:cJ.Cell 2 (λx=>.int .i64 x.2.2):=dD (dD (dJ))
def Uy (x:Int):V0:=Value.int .i64 (x)
def pF (x:e_):V0:=Value.agg #[Value.int .i64 (x.1),Value.int .i64 (x.2)]
theorem abJ (x y:e_) (m:Nat) (w:V2):(Op.equalIn (m+2) 138 (.agg #[.int .i64 x.1,.int .i64 x.2]) (.agg #[.int .i64 y.1,.int .i64 y.2])).run prog w = .ok (decide (x=y)) w:=by
 have c:∀a b:Int,(Op.equalIn (m+1) 3 (.int .i64 a) (.int .i64 b)).run prog w = .ok (a==b) w:=by
  intro a b;simp[Op.equalIn]
 unfold Op.equalIn;simp[show List.range' 0 2=[0,1]from rfl,part,isAgg,c];have⟨d,e⟩:=x;have⟨f,g⟩:=y;by_cases h:d=f<;>by_cases i:e=g<;>simp[h,i,c]
theorem aaR (b:V4) (k:e_) (w:V2):(Instr.checkKey b 10000 138 (pF k)).run prog w = .ok () w:=by
 have a:∀m:Nat,(Instr.checkKey b (m+2) 138 (pF k)).run prog w = .ok () w:=by
  intro m;simp[Instr.checkKey,pF,part,isAgg,show List.range' 0 2=[0,1]from rfl]
 exact a 9998
theorem Rn:MW prog 138 pF:=UV underlying138 aaR (λ_ _=>rfl) (λa b w=>abJ a b 9998 w) (λk=>by
 have c:∀m:Nat,Instr.sameBits (m+2) (pF k) (pF k)=true:=λm=>by simp[Instr.sameBits,pF]
 exact c 9998)
theorem kY (b:V0) (c:one b=true) (a:Array V0) (h:a.size=1*1):Instr.fill (λi=>some (i*1,1)) a [(0,b)]=some [b].toArray:=by
 have⟨l⟩:=a
 match l,h with
 | [z0],_=>simp[Instr.fill,iK c]
theorem Jt (b c:V0) (a:Array V0) (h:a.size=1*2):Instr.fill (λi=>some (i*2,2)) a [(0,.agg #[b,c])]=some [b,c].toArray:=by
 have⟨l⟩:=a
 match l,h with
 | [z0,z1],_=>simp[Instr.fill,Value.cells]
theorem Ju (b c d:V0) (a:Array V0) (h:a.size=1*3):Instr.fill (λi=>some (i*3,3)) a [(0,.agg #[b,c,d])]=some [b,c,d].toArray:=by
 have⟨l⟩:=a
 match l,h with
 | [z0,z1,z2],_=>simp[Instr.fill,Value.cells]
theorem Jv (b c:V0) (d:one b=true) (e:one c=true) (a:Array V0) (h:a.size=2*1):Instr.fill (λi=>some (i*1,1)) a [(0,b),(1,c)]=some [b,c].toArray:=by
 have⟨l⟩:=a
 match l,h with
 | [z0,z1],_=>simp[Instr.fill,iK d,iK e]
theorem Ny (d e f g j k m n o p b c:V0) (a:Array V0) (h:a.size=2*6):Instr.fill (λi=>some (i*6,6)) a [(0,.agg #[d,e,f,g,j,k]),(1,.agg #[m,n,o,p,b,c])]=some [d,e,f,g,j,k,m,n,o,p,b,c].toArray:=by
 have⟨l⟩:=a
 match l,h with
 | [z0,z1,z2,z3,z4,z5,z6,z7,z8,z9,z10,z11],_=>simp[Instr.fill,Value.cells]
theorem To (b c d:V0) (e:one b=true) (f:one c=true) (g:one d=true) (a:Array V0) (h:a.size=3*1):Instr.fill (λi=>some (i*1,1)) a [(0,b),(1,c),(2,d)]=some [b,c,d].toArray:=by
 have⟨l⟩:=a
 match l,h with
 | [z0,z1,z2],_=>simp[Instr.fill,iK e,iK f,iK g]
theorem abp (b c d e f g:V0) (a:Array V0) (h:a.size=3*2):Instr.fill (λi=>some (i*2,2)) a [(0,.agg #[b,c]),(1,.agg #[d,e]),(2,.agg #[f,g])]=some [b,c,d,e,f,g].toArray:=by
 have⟨l⟩:=a
 match l,h with
 | [z0,z1,z2,z3,z4,z5],_=>simp[Instr.fill,Value.cells]
theorem abq (m n o p q r s t u v b c d e f g j k:V0) (a:Array V0) (h:a.size=3*6):Instr.fill (λi=>some (i*6,6)) a [(0,.agg #[m,n,o,p,q,r]),(1,.agg #[s,t,u,v,b,c]),(2,.agg #[d,e,f,g,j,k])]=some [m,n,o,p,q,r,s,t,u,v,b,c,d,e,f,g,j,k].toArray:=by
 have⟨l⟩:=a
 match l,h with
 | [z0,z1,z2,z3,z4,z5,z6,z7,z8,z9,z10,z11,z12,z13,z14,z15,z16,z17],_=>simp[Instr.fill,Value.cells]
def BP (a:Int) (b:V4):V1 (Int):=
 if b=true then(some (-1:Int))else(if a<=(17:Int)then(some (0:Int))else(if a<=(29:Int)then(some (1:Int))else(if a<=(42:Int)then(some (2:Int))else(some (3:Int)))))
def AH (U:Nat) (a:Int):V1 (Int):=
 if a<(1:Int)then(BP a (true))else(BP a (decide ((43:Int)<a)))
theorem aeG:aU prog 246:=call246
theorem Sa {b:Int} (r:Int) (h:AH U b=some r):
  aZ prog 246 #[vI (b)] [] (λx:Unit=>vI (r)) (λx l=>l) (λ_ l=>l):=by
 refine aZ.of func246 Z ntmps246 Z λc=>Q4 Z<|aL<|aQ<|aL<|fV (λa=>BP b a=some r) (λa d=>[(0,vI (b)),(3,vB (a))]) (λa d=>[]) ?_ ?_
 .refine aP<|aA Z<|cN Z<|aA Z<|IX h Z (λ_ h=>?_) λ_ h=>?_
  .exact aW Z<|aW Z<|gT Z<|Q5 Z<|jV (true) () h SF Z
  exact gW Z<|bB Z (zW Z Z) Z<|iV Z<|Q5 Z<|jV (decide ((43:Int)<b)) () h SF Z
 intro a d h;refine Ag h Z (λ_ h=>?_) λ_ h=>?_
 .refine Q4 Z<|aV<|bU<|aM ?_;cases h;exact oA Z
 refine Q6 Z<|aB (Jj Z Z) Z<|Q5 Z<|gC h Z (λh=>?_) λh=>?_
 .refine Q4 Z<|aV<|bU<|aM ?_;cases h;exact oA Z
 refine Q6 Z<|aB (Jj Z Z) Z<|Q5 Z<|gC h Z (λh=>?_) λh=>?_
 .refine Q4 Z<|aV<|bU<|aM ?_;cases h;exact oA Z
 refine Q6 Z<|aB (Jj Z Z) Z<|Q5 Z<|gC h Z (λh=>?_) λh=>?_
 .refine Q4 Z<|aV<|bU<|aM ?_;cases h;exact oA Z
 refine eK<|mF<|Q4 Z<|aV ?_;cases h;exact oA Z
def He (a:Unit):V1 (Int):=
 some (-1:Int)
def mW (d:iF) (a:e_) (c:iU->V1 (Int)):V1 (Int):=
 if a.1<(d.length:Int)then(ck (0<=a.1/\a.1<(d.length:Int)) (Option.bind (AH U ((at' d a.1).1)) λb=>(if b<(0:Int)then(some (-1:Int))else(if(wI .i64 (a.2+(wI .i64 (b - (1:Int)))))=(0:Int)then(some (wI .i64 (a.1+(1:Int))))else(c ((wI .i64 (a.1+(1:Int))),(wI .i64 (a.2+(wI .i64 (b - (1:Int)))))))))))else(He (()))
def Ea (b:iF) (c:Int) (a:V4):V1 (Int):=
 if a=true then(some (-1:Int))else(bE (mW U b) U (c,(1:Int)))
def Fu (b:iF) (a:Int):V1 (Int):=
 if a<(0:Int)then(Ea U b a (true))else(Ea U b a (decide ((b.length:Int)<=a)))
theorem aeC:aU prog 217:=call217
theorem Wk {g:iF} {b:Int} (k:V0) (r:Int) (h:Fu U g b=some r):
  aZ prog 217 #[k,vI (b)] [Sl aR k g] (λx:Unit=>vI (r)) (λx l=>l) (λ_ l=>l):=by
 refine aZ.of func217 Z ntmps217 Z λc=>Q4 Z<|aL<|aL<|fV (λd=>Ea U g b d=some r) (λd n=>[(0,k),(1,vI (b)),(14,vB (d))]) (λd n=>[]) ?_ ?_
 .refine aP<|aA Z<|cN Z<|aA Z<|IX h Z (λ_ h=>?_) λ_ h=>?_
  .exact aW Z<|aW Z<|aW Z<|aW Z<|gT Z<|aO<|jV (true) () h SF Z
  exact gW Z<|gW Z<|bB Z (eW Z (cP Z) Z) Z<|bB Z (Ev Z Z) Z<|iV Z<|aO<|jV (decide ((g.length:Int)<=b)) () h SF Z
 intro d n h;refine Ag h Z (λ_ h=>?_) λ_ h=>?_
 .refine Q4 Z<|aV<|aM ?_;cases h;exact oA Z
 refine cU<|aL<|fV (λj=>He j=some r) (λj o=>[]) (λj o=>[]) ?_ ?_
 .refine Q4 Z<|aQ<|fT (mW U g) (λa e=>[(0,k),(1,vI (a.1)),(5,vI (a.2))]) (λa e=>[]) (b,(1:Int)) () h SF (aS.refl _) ?_;intro p a e h;refine aL<|Q6 Z<|aA Z<|jH (cP Z) Z<|cN Z<|aO<|gC h Z (λh=>?_) λh=>?_
  .refine cU<|aL<|aQ<|Q6 Z<|aA Z<|dQ h λf h=>aB (bD Z Z (cP Z) Z Z f) Z<|aB (lF Z Z Z Z Z) Z<|aB (nR Z (cP Z) Z Z Z Br f) Z<|fF h λi m h=>aI (zBj aeG (Sa U i m) Z .nil) Z λq=>Q5 Z<|aL<|Q6 Z<|cN Z<|aO<|gC h Z (λh=>?_) λh=>?_
   .refine Q4 Z<|aV<|aM<|bU<|aM<|aM<|bU<|aM ?_;cases h;exact oA Z
   refine cU<|Q6 Z<|aA Z<|aB (zM Z Z) Z<|cH Z<|Q5 Z<|Q6 Z<|d_ Z<|aO<|gC h Z (λh=>?_) λh=>?_
   .refine Q6 Z<|cH Z<|Q5 Z<|aV<|bU<|aM<|aM<|bU<|aM ?_;cases h;exact oA Z
   exact eK<|mF<|aP<|aA Z<|cH Z<|Q5 Z<|Ci ((wI .i64 (a.1+(1:Int))),(wI .i64 (a.2+(wI .i64 (i - (1:Int)))))) () h SF Z
  exact fH<|jV () (()) h SF Z
 intro j o h;unfold He at h;refine Q4 Z<|aV ?_;cases h;exact oA Z
def kB (U:Nat) (a:V4):V1 (Int):=
 if a=true then(some (1:Int))else(some (0:Int))
theorem BE:aU prog 260:=call260
theorem mH {a:V4} (r:Int) (h:kB U a=some r):
  aZ prog 260 #[vB (a)] [] (λx:Unit=>vI (r)) (λx l=>l) (λ_ l=>l):=by
 refine aZ.of func260 Z ntmps260 Z λc=>Q4 Z<|aL<|Q6 Z<|aO<|Ag h Z (λ_ h=>?_) λ_ h=>?_
 .refine Q4 Z<|aV<|aM ?_;cases h;exact oA Z
 refine cU<|Q4 Z<|aV ?_;cases h;exact oA Z
def vG (a:Qc) (d b c:Int):V1 (Int):=
 if d=(6:Int)then(some (a.2.1.1.length:Int))else(if d=(7:Int)then(some (a.2.2.1))else(if d=(8:Int)then(ck (0<=b/\b<(a.2.1.1.length:Int)) (some (at' a.2.1.1 b)))else(if d=(9:Int)then(ck (0<=b/\b<(a.2.1.2.length:Int)) (some ((at' a.2.1.2 b).length:Int)))else(if d=(10:Int)then(Option.bind (kB U (decide (b=(0:Int)))) λf=>(some (f)))else(if d=(11:Int)then(some (c))else(ck (0<=b/\b<(a.2.1.2.length:Int)) (ck (0<=c/\c<((at' a.2.1.2 b).length:Int)) (if d=(13:Int)then(ck (0<=((at' (at' a.2.1.2 b) c).1)/\((at' (at' a.2.1.2 b) c).1)<(a.2.1.1.length:Int)) (some (at' a.2.1.1 ((at' (at' a.2.1.2 b) c).1))))else(if d=(14:Int)then(ck (0<=((at' (at' a.2.1.2 b) c).1)/\((at' (at' a.2.1.2 b) c).1)<(a.2.1.2.length:Int)) (some ((at' a.2.1.2 ((at' (at' a.2.1.2 b) c).1)).length:Int)))else(if d=(15:Int)then(Option.bind (kB U (decide (((at' (at' a.2.1.2 b) c).1)=(0:Int)))) λe=>(some (e)))else(if d=(16:Int)then(some ((at' (at' a.2.1.2 b) c).2))else(ck (0<=b/\b<(a.2.2.2.length:Int)) (ck (0<=c/\c<((at' a.2.2.2 b).length:Int)) (some (at' (at' a.2.2.2 b) c)))))))))))))))
theorem aeH:aU prog 259:=call259
theorem GN (U:Nat) {d:Qc} {t k m:Int} (f:Nat) (u v w y:V0) (G:kI) (A:V0) (H:mC) (r:Int) (h:vG U d t k m=some r):
  aZ prog 259 #[vP f,vI (t),vI (k),vI (m)] [bG f [vS (d.1.1),u,v,w,y,vI (d.2.2.1),A] 206,Sl aG u d.1.2.1,Sl aF v d.1.2.2,Sl aK w d.2.1.1,S2 aR y G d.2.1.2,S2 aK A H d.2.2.2] (λx:Unit=>vI (r)) (λx l=>l) (λ_ l=>l):=by
 let n:=(at' (at' d.2.1.2 k) m)
 refine aZ.of func259 Z ntmps259 Z λc=>?_;refine aT<|aC Z<|aO<|aL<|aT<|aA Z<|aO<|aQ<|aT<|d_ Z<|aC Z<|aO ?_;refine gC h Z (λh=>?_) λh=>?_
 .refine aT<|aA Z<|aB (bR Z) Z<|bZ Z<|bZ Z<|aB (dG Z (cP Z) Z Z Z) Z<|jH (DJ Z) Z<|aC Z<|aO<|aV<|bU<|aM ?_;cases h;exact oA Z
 refine aT<|d_ Z<|aC Z<|aO ?_;refine gC h Z (λh=>?_) λh=>?_
 .refine aT<|aA Z<|aB (bR Z) Z<|bZ Z<|aB (dG Z (cP Z) Z Z Z) Z<|aC Z<|aO<|aV<|bU<|aM ?_;cases h;exact oA Z
 refine aT<|d_ Z<|aC Z<|aO ?_;refine gC h Z (λh=>?_) λh=>?_
 .refine aT<|aA Z<|aB (bR Z) Z<|bZ Z<|bZ Z<|aB (dG Z (cP Z) Z Z Z) Z<|aA Z<|dQ h λs h=>aB (bD Z Z (DJ Z) Z Z s) Z<|aB (bY Z (DJ Z) Z Z Z dJ s) Z<|aC Z<|aO<|aV<|bU<|aM ?_;cases h;exact oA Z
 refine aT<|d_ Z<|aC Z<|aO ?_;refine gC h Z (λh=>?_) λh=>?_
 .refine aT<|aA Z<|aB (bR Z) Z<|bZ Z<|bZ Z<|aB (dG Z (cP Z) Z Z Z) Z<|aA Z<|dQ h λo h=>aB (bX Z Z (HA Z) Z Z o) Z<|aB (cB Z (HA Z) Z Z o) Z<|aB (eW Z (zBk (HA Z) o.1 o.2) Z) Z<|aC Z<|aO<|aV<|bU<|aM ?_;cases h;exact oA Z
 refine aT<|d_ Z<|aC Z<|aO ?_;refine gC h Z (λh=>?_) λh=>?_
 .refine aT<|aA Z<|d_ Z<|fF h λC D h=>aI (zBj BE (mH U C D) Z .nil) Z λE=>aC Z<|aO<|aV<|bU<|aM ?_;cases h;exact oA Z
 refine aT<|d_ Z<|aC Z<|aO ?_;refine gC h Z (λh=>?_) λh=>?_
 .refine aT<|aA Z<|aC Z<|aO<|aV<|bU<|aM ?_;cases h;exact oA Z
 refine eK<|mF<|aT<|aA Z<|aB (bR Z) Z<|bZ Z<|bZ Z<|aB (dG Z (cP Z) Z Z Z) Z<|aA Z<|dQ h λa h=>aB (bX Z Z (HA Z) Z Z a) Z<|aB (cB Z (HA Z) Z Z a) Z<|aA Z<|dQ h λg h=>aB (bD Z Z (zBk (HA Z) a.1 a.2) Z Z g) Z<|aB (fG (cs:=[vI (n.1),vI (n.2)]) Z (zBk (HA Z) a.1 a.2) cA Z Z Z Z g) Z<|aI (aN.alloc (cs:=MN) Z Z) Z λB=>bP 0 (vs:=[vI ((at' (at' d.2.1.2 k) m).1),vI ((at' (at' d.2.1.2 k) m).2)]) Z Z Z Z Z Z<|aO<|aL<|aT<|aA Z<|aO<|aQ<|aT<|d_ Z<|aC Z<|aO ?_;refine gC h Z (λh=>?_) λh=>?_
 .refine aL ?_;refine Bf [0,1,3,7,15,0,32,127,255,511] 7 mixedOrders ?_;refine bM Z<|jS Z (bR Z)<|cT Z<|cT Z<|aY Z .nil (iH 0 Z) (dG Z (cP Z) Z Z Z) aJ.z<|cT Z<|gN 0 Z<|bS 7 Z Z<|dQ h λi h=>aB (bD Z Z (DJ Z) Z Z i) Z<|aB (bY Z (DJ Z) Z Z Z dJ i) Z<|aC Z<|aO<|aV<|bU<|aM ?_;cases h;exact uC Z
 refine aT<|d_ Z<|aC Z<|aO ?_;refine gC h Z (λh=>?_) λh=>?_
 .refine aL ?_;refine Bf [0,1,3,7,15,0,32,127,255,511,1023] 7 mixedOrders ?_;refine bM Z<|jS Z (bR Z)<|cT Z<|cT Z<|aY Z .nil (iH 0 Z) (dG Z (cP Z) Z Z Z) aJ.z<|cT Z<|gN 0 Z<|bS 7 Z Z<|dQ h λe h=>aB (bX Z Z (HA Z) Z Z e) Z<|aB (cB Z (HA Z) Z Z e) Z<|aB (eW Z (zBk (HA Z) e.1 e.2) Z) Z<|aC Z<|aO<|aV<|bU<|aM ?_;cases h;exact uC Z
 refine aT<|d_ Z<|aC Z<|aO ?_;refine gC h Z (λh=>?_) λh=>?_
 .refine aT<|bZ Z<|dO 0 Z<|d_ Z<|fF h λp q h=>aI (zBj BE (mH U p q) Z .nil) Z λF=>aC Z<|aO<|aV<|bU<|aM ?_;cases h;exact uC Z
 refine aT<|d_ Z<|aC Z<|aO ?_;refine gC h Z (λh=>?_) λh=>?_
 .refine aT<|bZ Z<|dO 0 Z<|aC Z<|aO<|aV<|bU<|aM ?_;cases h;exact uC Z
 refine eK<|mF<|aT<|aA Z<|aB (bR Z) Z<|bZ Z<|aB (dG Z (cP Z) Z Z Z) Z<|aA Z<|dQ h λb h=>aB (bX Z Z (Ma Z) Z Z b) Z<|aB (cB Z (Ma Z) Z Z b) Z<|aA Z<|dQ h λj h=>aB (bD Z Z (zBk (Ma Z) b.1 b.2) Z Z j) Z<|aB (bY Z (zBk (Ma Z) b.1 b.2) Z Z Z dJ j) Z<|aC Z<|aO<|aV ?_;cases h;exact uC Z
def nQ (a:Sd) (b:e_) (c:Int):V1 (Int):=
 if b.1=(1:Int)then(some (b.2))else(if b.1=(2:Int)then(some (1:Int))else(if b.1=(3:Int)then(some (0:Int))else(if b.1=(4:Int)then(some (-1:Int))else(if b.1=(5:Int)then(ck (0<=a.2.2.1/\a.2.2.1<(a.2.1.length:Int)) (ck (0<=b.2/\b.2<((at' a.2.1 a.2.2.1).length:Int)) (some (at' (at' a.2.1 a.2.2.1) b.2))))else(if b.1=(12:Int)then(ck (0<=a.2.2.1/\a.2.2.1<(a.1.2.1.2.length:Int)) (ck (0<=c/\c<((at' a.1.2.1.2 a.2.2.1).length:Int)) (ck (0<=((at' (at' a.1.2.1.2 a.2.2.1) c).1)/\((at' (at' a.1.2.1.2 a.2.2.1) c).1)<(a.2.1.length:Int)) (ck (0<=b.2/\b.2<((at' a.2.1 ((at' (at' a.1.2.1.2 a.2.2.1) c).1)).length:Int)) (some (at' (at' a.2.1 ((at' (at' a.1.2.1.2 a.2.2.1) c).1)) b.2))))))else(Option.bind (vG U ((((a.1.1.1,a.1.1.2.1,a.1.1.2.2)),((a.1.2.1.1,a.1.2.1.2)),a.1.2.2.1,a.1.2.2.2)) b.1 a.2.2.1 c) λd=>(some (d))))))))
theorem aeD:aU prog 235:=call235
theorem H_ (U:Nat) {d:Sd} {k:e_} {y:Int} (g e:Nat) (o p q s:V0) (B:kI) (t:V0) (C:mC) (A:V0) (v:mC) (m:V0) (r:Int) (h:nQ U d k y=some r):
  aZ prog 235 #[vP g,Value.agg #[vI (k.1),vI (k.2)],vI (y)] [bG g [vP e,A,vI (d.2.2.1),m] 237,bG e [vS (d.1.1.1),o,p,q,s,vI (d.1.2.2.1),t] 206,Sl aG o d.1.1.2.1,Sl aF p d.1.1.2.2,Sl aK q d.1.2.1.1,S2 aR s B d.1.2.1.2,S2 aK t C d.1.2.2.2,S2 aK A v d.2.1,Sl aR m d.2.2.2] (λx:Unit=>vI (r)) (λx l=>l) (λ_ l=>l):=by
 refine aZ.of func235 Z ntmps235 Z λc=>?_;refine aT<|aI (aN.box (cs:=[vI (k.1),vI (k.2)]) Z Z) Z λE=>aC Z<|aO<|aL<|aT<|bZ Z<|dO 0 Z<|aO<|aQ<|aT<|d_ Z<|aC Z<|aO ?_;refine gC h Z (λh=>?_) λh=>?_
 .refine aT<|bZ Z<|dO 0 Z<|aC Z<|aO<|aV<|bU<|aM ?_;cases h;exact uC Z
 refine aT<|d_ Z<|aC Z<|aO ?_;refine gC h Z (λh=>?_) λh=>?_
 .refine aT<|aC Z<|aO<|aV<|bU<|aM ?_;cases h;exact uC Z
 refine aT<|d_ Z<|aC Z<|aO ?_;refine gC h Z (λh=>?_) λh=>?_
 .refine aT<|aC Z<|aO<|aV<|bU<|aM ?_;cases h;exact uC Z
 refine aT<|d_ Z<|aC Z<|aO ?_;refine gC h Z (λh=>?_) λh=>?_
 .refine aT<|aC Z<|aO<|aV<|bU<|aM ?_;cases h;exact uC Z
 refine aT<|d_ Z<|aC Z<|aO ?_;refine gC h Z (λh=>?_) λh=>?_
 .refine aL ?_;refine Bf [0,1,3,7,0,16,48,112,255,511,0,1024,4095,8191,16383] 12 mixedOrders ?_;refine bM Z<|jS Z (bR Z)<|cT Z<|aY Z .nil (iH 0 Z) (dG Z (cP Z) Z Z Z) aJ.z<|bM Z<|jS Z (bR Z)<|cT Z<|aY Z .nil (iH 0 Z) (dG Z (cP Z) Z Z Z) aJ.z<|dQ h λf h=>aY Z .nil (iH 7 Z) (bX Z Z (cP Z) Z Z f) aJ.z<|aY Z .nil (iH 7 Z) (cB Z (cP Z) Z Z f) aJ.z<|cT Z<|gN 0 Z<|bS 12 Z Z<|dQ h λw h=>aB (bD Z Z (zBk (IP Z) f.1 f.2) Z Z w) Z<|aB (bY Z (zBk (IP Z) f.1 f.2) Z Z Z dJ w) Z<|aC Z<|aO<|aV<|bU<|aM ?_;cases h;exact uC Z
 refine aT<|d_ Z<|aC Z<|aO ?_;refine gC h Z (λh=>?_) λh=>?_
 .refine aL ?_;refine Bf [0,1,3,7,0,16,48,112,240,496,1008,2032,0,4096,12288,28672,65520,131056,0,524272,1048560,2097136,4194303,8388607,0,16777216,67108863,134217727,268435455] 26 mixedOrders ?_;refine bM Z<|jS Z (bR Z)<|cT Z<|aY Z .nil (iH 0 Z) (dG Z (cP Z) Z Z Z) aJ.z<|bM Z<|jS Z (bR Z)<|cT Z<|aY Z .nil (iH 0 Z) (dG Z (cP Z) Z Z Z) aJ.z<|jS Z (bR Z)<|cT Z<|cT Z<|aY Z .nil (iH 1 Z) (dG Z (cP Z) Z Z Z) aJ.z<|bM Z<|jS Z (bR Z)<|cT Z<|aY Z .nil (iH 0 Z) (dG Z (cP Z) Z Z Z) aJ.z<|dQ h λa h=>aY Z .nil (iH 5 Z) (bX Z Z (cP Z) Z Z a) aJ.z<|aY Z .nil (iH 5 Z) (cB Z (cP Z) Z Z a) aJ.z<|bM Z<|dQ h λi h=>aY Z .nil (iH 5 Z) (bD Z Z (zBk (cP Z) a.1 a.2) Z Z i) aJ.z<|jS Z (lF Z Z Z Z Z)<|aY Z .nil (iH 5 Z) (nR Z (zBk (cP Z) a.1 a.2) Z Z Z Br i) aJ.z<|dQ h λb h=>aY Z .nil (iH 7 Z) (bX Z Z (cP Z) Z Z b) aJ.z<|aY Z .nil (iH 7 Z) (cB Z (cP Z) Z Z b) aJ.z<|cT Z<|gN 0 Z<|bS 26 Z Z<|dQ h λj h=>aB (bD Z Z (zBk (IP Z) b.1 b.2) Z Z j) Z<|aB (bY Z (zBk (IP Z) b.1 b.2) Z Z Z dJ j) Z<|aC Z<|aO<|aV<|bU<|aM ?_;cases h;exact uC Z
 refine eK<|mF<|aL ?_;refine Bf [0,1,3,7,0,16,0,64,192,448,0,2047,4095] 11 mixedOrders ?_;refine bM Z<|jS Z (bR Z)<|cT Z<|aY Z .nil (iH 0 Z) (dG Z (cP Z) Z Z Z) aJ.z<|cT Z<|gN 0 Z<|bM Z<|jS Z (bR Z)<|cT Z<|aY Z .nil (iH 0 Z) (dG Z (cP Z) Z Z Z) aJ.z<|bM Z<|bS 11 Z Z<|fF h λn u h=>aI (zBj aeH (GN U e o p q s B t C n u) Z (jJ [1,2,3,4,5,6] Z)) Z λD=>aC Z<|aO<|aV ?_;cases h;exact uC Z
def CK (b a:Int):V1 (Int):=
 if b=(18:Int)then(some (wI .i64 (0 - a)))else(Option.bind (kB U (decide (a=(0:Int)))) λc=>(some (c)))
theorem aeE:aU prog 236:=call236
theorem RO {a b:Int} (r:Int) (h:CK U a b=some r):
  aZ prog 236 #[vI (a),vI (b)] [] (λx:Unit=>vI (r)) (λx l=>l) (λ_ l=>l):=by
 refine aZ.of func236 Z ntmps236 Z λc=>Q4 Z<|aL<|Q6 Z<|d_ Z<|aO<|gC h Z (λh=>?_) λh=>?_
 .refine Q6 Z<|aB (ajs Z) Z<|Q5 Z<|aV<|aM ?_;cases h;exact oA Z
 refine cU<|Q6 Z<|d_ Z<|fF h λd e h=>aI (zBj BE (mH U d e) Z .nil) Z λf=>Q5 Z<|aV ?_;cases h;exact oA Z
def kP (U:Nat) (a:Int):V1 (Int):=
 some (max (-1073741824:Int) (min a (1073741824:Int)))
theorem Hs:aU prog 262:=call262
theorem oG {a:Int} (r:Int) (h:kP U a=some r):
  aZ prog 262 #[vI (a)] [] (λx:Unit=>vI (r)) (λx l=>l) (λ_ l=>l):=by
 refine aZ.of func262 Z ntmps262 Z λc=>?_;unfold kP at h;refine Q4 Z<|Q6 Z<|aB (SS Z Z) Z<|aB (Lw Z Z) Z<|Q5 Z<|aV ?_;cases h;exact oA Z
def rV (a:Int):V1 (Int):=
 some (a)
def wO (a b:Int) (c:V4):V1 (Int):=
 if c=true then(rV (wI .i64 ((wI .i64 (Int.tdiv a b)) - (1:Int))))else(rV (wI .i64 (Int.tdiv a b)))
def tR (U:Nat) (b a:Int):V1 (Int):=
 if a=(0:Int)then(some (0:Int))else(ck (a≠0) (ck (a≠0) (if(Int.tmod b a)≠(0:Int)then(wO b a (((decide (b<(0:Int))) != (decide (a<(0:Int))))))else(wO b a (false)))))
theorem Xe:aU prog 263:=call263
theorem FQ {a b:Int} (r:Int) (h:tR U a b=some r):
  aZ prog 263 #[vI (a),vI (b)] [] (λx:Unit=>vI (r)) (λx l=>l) (λ_ l=>l):=by
 refine aZ.of func263 Z ntmps263 Z λc=>Q4 Z<|aL<|Q6 Z<|d_ Z<|aO<|gC h Z (λh=>?_) λh=>?_
 .refine Q4 Z<|aV<|aM ?_;cases h;exact oA Z
 refine cU<|Q6 Z<|aA Z<|dQ h λj h=>aB (aan Z Z j) Z<|Q5 Z<|aL<|fV (λd=>rV d=some r) (λd g=>[(5,vI (d))]) (λd g=>[]) ?_ ?_
 .refine aL<|fV (λe=>wO a b e=some r) (λe i=>[(5,vI (wI .i64 (Int.tdiv a b))),(21,vB (e))]) (λe i=>[]) ?_ ?_
  .refine aP<|aA Z<|aA Z<|dQ h λf h=>aB (SU Z Z f) Z<|tT Z<|aA Z<|IX h Z (λ_ h=>?_) λ_ h=>?_
   .exact gW Z<|bB Z (Ew Z Z) Z<|gW Z<|bB Z (Ew Z Z) Z<|bB Z (aha Z Z Z) Z<|gT Z<|aO<|jV (((decide (a<(0:Int))) != (decide (b<(0:Int))))) () h SF Z
   exact aW Z<|aW Z<|aW Z<|aW Z<|aW Z<|iV Z<|aO<|jV (false) () h SF Z
  intro e i h;refine Ag h Z (λ_ h=>?_) λ_ h=>?_
  .exact aP<|aA Z<|aB (zM Z Z) Z<|Q5 Z<|jV (wI .i64 ((wI .i64 (Int.tdiv a b)) - (1:Int))) () h SF Z
  exact cU<|jV (wI .i64 (Int.tdiv a b)) () h SF Z
 intro d g h;unfold rV at h;refine Q6 Z<|Q5 Z<|aV ?_;cases h;exact oA Z
def yY (U:Nat) (c a b:Int):V1 V4:=
 if c=(35:Int)then(some (decide (a=b)))else(if c=(36:Int)then(some (decide (a≠b)))else(if c=(37:Int)then(some (decide (a<b)))else(if c=(38:Int)then(some (decide (a<=b)))else(if c=(39:Int)then(some (decide (b<a)))else(some (decide (b<=a)))))))
theorem aeJ:aU prog 264:=call264
theorem Mc {a b d:Int} (r:V4) (h:yY U a b d=some r):
  aZ prog 264 #[vI (a),vI (b),vI (d)] [] (λx:Unit=>vB (r)) (λx l=>l) (λ_ l=>l):=by
 refine aZ.of func264 Z ntmps264 Z λc=>Q4 Z<|aL<|Q6 Z<|aO<|aQ<|aT<|d_ Z<|Q5 Z<|gC h Z (λh=>?_) λh=>?_
 .refine Q6 Z<|aA Z<|d_ Z<|Q5 Z<|aV<|bU<|aM ?_;cases h;exact oA Z
 refine aT<|d_ Z<|Q5 Z<|gC h Z (λh=>?_) λh=>?_
 .refine Q6 Z<|aA Z<|tT Z<|Q5 Z<|aV<|bU<|aM ?_;cases h;exact oA Z
 refine aT<|d_ Z<|Q5 Z<|gC h Z (λh=>?_) λh=>?_
 .refine Q6 Z<|aA Z<|cN Z<|Q5 Z<|aV<|bU<|aM ?_;cases h;exact oA Z
 refine aT<|d_ Z<|Q5 Z<|gC h Z (λh=>?_) λh=>?_
 .refine Q6 Z<|aA Z<|aB (Jj Z Z) Z<|Q5 Z<|aV<|bU<|aM ?_;cases h;exact oA Z
 refine aT<|d_ Z<|Q5 Z<|gC h Z (λh=>?_) λh=>?_
 .refine Q6 Z<|aA Z<|aB (zW Z Z) Z<|Q5 Z<|aV<|bU<|aM ?_;cases h;exact oA Z
 refine eK<|mF<|Q6 Z<|aA Z<|aB (Ev Z Z) Z<|Q5 Z<|aV ?_;cases h;exact oA Z
def rT (a:Int):V1 (Int):=
 some (a)
def rU (a:Int):V1 (Int):=
 some (a)
def BK (c b a:Int):V1 (Int):=
 if c=(30:Int)then(Option.bind (kP U (wI .i64 (b*a))) λn=>(some (n)))else(if c=(31:Int)then(Option.bind (tR U b a) λo=>(Option.bind (kP U o) λp=>(some (p))))else(if c=(32:Int)then(if a=(0:Int)then(some (0:Int))else(Option.bind (tR U b a) λd=>(Option.bind (kP U (wI .i64 (b - (wI .i64 (a*d))))) λe=>(some (e)))))else(if c=(33:Int)then(Option.bind (kP U (wI .i64 (b+a))) λf=>(some (f)))else(if c=(34:Int)then(Option.bind (kP U (wI .i64 (b - a))) λg=>(some (g)))else(if c=(41:Int)then(if b≠(0:Int)then(Option.bind (kB U (decide (a≠(0:Int)))) λh=>(rT (h)))else(Option.bind (kB U false) λi=>(rT (i))))else(if c=(42:Int)then(if b≠(0:Int)then(Option.bind (kB U true) λj=>(rU (j)))else(Option.bind (kB U (decide (a≠(0:Int)))) λk=>(rU (k))))else(Option.bind (yY U c b a) λl=>(Option.bind (kB U l) λm=>(some (m))))))))))
theorem aeF:aU prog 238:=call238
theorem OP {E F G:Int} (r:Int) (h:BK U E F G=some r):
  aZ prog 238 #[vI (E),vI (F),vI (G)] [] (λx:Unit=>vI (r)) (λx l=>l) (λ_ l=>l):=by
 refine aZ.of func238 Z ntmps238 Z λc=>Q4 Z<|aL<|Q6 Z<|aO<|aQ<|aT<|d_ Z<|Q5 Z<|gC h Z (λh=>?_) λh=>?_
 .refine Q6 Z<|aA Z<|aB (uX Z Z) Z<|fF h λH K h=>aI (zBj Hs (oG U H K) Z .nil) Z λY=>Q5 Z<|aV<|bU<|aM ?_;cases h;exact oA Z
 refine aT<|d_ Z<|Q5 Z<|gC h Z (λh=>?_) λh=>?_
 .refine Q6 Z<|aA Z<|fF h λI L h=>aI (zBj Xe (FQ U I L) Z .nil) Z λx8=>fF h λJ s h=>aI (zBj Hs (oG U J s) Z .nil) Z λM=>Q5 Z<|aV<|bU<|aM ?_;cases h;exact oA Z
 refine aT<|d_ Z<|Q5 Z<|gC h Z (λh=>?_) λh=>?_
 .refine aL<|Q6 Z<|d_ Z<|aO<|gC h Z (λh=>?_) λh=>?_
  .refine Q4 Z<|aV<|aM<|bU<|aM ?_;cases h;exact oA Z
  refine cU<|Q6 Z<|aA Z<|aA Z<|aA Z<|fF h λk t h=>aI (zBj Xe (FQ U k t) Z .nil) Z λN=>aB (uX Z Z) Z<|aB (zM Z Z) Z<|fF h λm u h=>aI (zBj Hs (oG U m u) Z .nil) Z λO=>Q5 Z<|aV<|bU<|aM ?_;cases h;exact oA Z
 refine aT<|d_ Z<|Q5 Z<|gC h Z (λh=>?_) λh=>?_
 .refine Q6 Z<|aA Z<|cH Z<|fF h λn v h=>aI (zBj Hs (oG U n v) Z .nil) Z λP=>Q5 Z<|aV<|bU<|aM ?_;cases h;exact oA Z
 refine aT<|d_ Z<|Q5 Z<|gC h Z (λh=>?_) λh=>?_
 .refine Q6 Z<|aA Z<|aB (zM Z Z) Z<|fF h λo w h=>aI (zBj Hs (oG U o w) Z .nil) Z λQ=>Q5 Z<|aV<|bU<|aM ?_;cases h;exact oA Z
 refine aT<|d_ Z<|Q5 Z<|gC h Z (λh=>?_) λh=>?_
 .refine aL<|fV (λa=>rT a=some r) (λa d=>[(6,vI (a))]) (λa d=>[]) ?_ ?_
  .refine aP<|aA Z<|tT Z<|aA Z<|IX h Z (λ_ h=>?_) λ_ h=>?_
   .exact gW Z<|bB Z (Ij Z Z) Z<|gT Z<|fF h λf y h=>aI (zBj BE (mH U f y) Z .nil) Z λR=>Q5 Z<|jV (f) () h SF Z
   exact aW Z<|aW Z<|iV Z<|fF h λg z h=>aI (zBj BE (mH U g z) Z .nil) Z λS=>Q5 Z<|jV (g) () h SF Z
  intro a d h;unfold rT at h;refine aV<|bU<|aM ?_;cases h;exact oA Z
 refine aT<|d_ Z<|Q5 Z<|gC h Z (λh=>?_) λh=>?_
 .refine aL<|fV (λb=>rU b=some r) (λb e=>[(6,vI (b))]) (λb e=>[]) ?_ ?_
  .refine aP<|aA Z<|tT Z<|aA Z<|IX h Z (λ_ h=>?_) λ_ h=>?_
   .exact aW Z<|aW Z<|gT Z<|fF h λi A h=>aI (zBj BE (mH U i A) Z .nil) Z λT=>Q5 Z<|jV (i) () h SF Z
   exact gW Z<|bB Z (Ij Z Z) Z<|iV Z<|fF h λj B h=>aI (zBj BE (mH U j B) Z .nil) Z λV=>Q5 Z<|jV (j) () h SF Z
  intro b e h;unfold rU at h;refine aV<|bU<|aM ?_;cases h;exact oA Z
 refine eK<|mF<|Q6 Z<|aA Z<|aA Z<|fF h λp C h=>aI (zBj aeJ (Mc U p C) Z .nil) Z λW=>fF h λq D h=>aI (zBj BE (mH U q D) Z .nil) Z λX=>Q5 Z<|aV ?_;cases h;exact oA Z
def BG (a:Int):V1 (Int):=
 some (a)
def yB (c:e_) (b:iU->V1 (Int)) (a:Int):V1 (Int):=
 b (a,(wI .i64 (c.2+(1:Int))))
def uA (c:aX) (a:e_) (b:iU->V1 (Int)):V1 (Int):=
 if a.2<(c.length:Int)then(ck (0<=a.2/\a.2<(c.length:Int)) (if(at' c a.2)≠(0:Int)then(yB a b (wI .i64 (a.1+(1:Int))))else(yB a b (a.1))))else(BG (a.1))
def sY (a:aX):V1 (Int):=
 bE (uA a) U ((0:Int),(0:Int))
theorem QO:aU prog 280:=call280
theorem FG {d:aX} (i:V0) (r:Int) (h:sY U d=some r):
  aZ prog 280 #[i] [Sl aK i d] (λx:Unit=>vI (r)) (λx l=>l) (λ_ l=>l):=by
 refine aZ.of func280 Z ntmps280 Z λc=>?_;unfold sY at h;refine Q4 Z<|Q4 Z<|aL<|fV (λe=>BG e=some r) (λe j=>[(3,vI (e))]) (λe j=>[]) ?_ ?_
 .refine Q6 Z<|jH (cP Z) Z<|aA Z<|aO<|aQ<|fT (uA d) (λb k=>[(3,vI (b.1)),(6,i),(7,vI (d.length:Int)),(8,vI (b.2))]) (λb k=>[]) ((0:Int),(0:Int)) () h SF (aS.refl _) ?_;intro m b k h;refine aT<|cN Z<|aO<|aL<|gC h Z (λh=>?_) λh=>?_
  .refine cU<|aL<|fV (λa=>yB b (bE (uA d) m) a=some r) (λa f=>[(3,vI (a)),(6,i),(7,vI (d.length:Int)),(8,vI (b.2))]) (λa f=>[]) ?_ ?_
   .refine aQ<|aT<|dQ h λg h=>aB (bD Z Z (cP Z) Z Z g) Z<|aB (bY Z (cP Z) Z Z Z dJ g) Z<|Q5 Z<|Q6 Z<|tT Z<|aO<|gC h Z (λh=>?_) λh=>?_
    .exact aP<|aA Z<|cH Z<|aC Z<|fC<|mF<|jV (wI .i64 (b.1+(1:Int))) () h SF Z
    exact eK<|mF<|jV (b.1) () h SF Z
   intro a f h;unfold yB at h;exact aP<|cH Z<|aA Z<|aO<|Ci (a,(wI .i64 (b.2+(1:Int)))) () h SF Z
  exact fH<|jV (b.1) () h SF Z
 intro e j h;unfold BG at h;refine Q6 Z<|Q5 Z<|aV ?_;cases h;exact oA Z
def rK (a:Unit):V1 (Int):=
 some (-1:Int)
def iN (c:aX) (e:Int->V1 V4) (a:Int) (b:(Int)->V1 (Int)):V1 (Int):=
 if a<(c.length:Int)then(ck (0<=a/\a<(c.length:Int)) (Option.bind (e (at' c a)) λd=>(if d=true then(some (a))else(b (wI .i64 (a+(1:Int)))))))else(rK (()))
def oY (b:aX) (a:Int->V1 V4):V1 (Int):=
 bE (iN b a) U (0:Int)
theorem aeK:aU prog 281:=call281
theorem IT {b:aX} {o:Int->V1 V4} (k:FuncId) (a:gE) (j:V6 a_) (e:aU prog k) (f:∀(t:Int) (r:V4),o t=some r->aZ prog k ([vI (t)]++a).toArray j (λ_:Unit=>vB (r)) (λ_ l=>l) (λ_ l=>l)) (i:V0) (r:Int) (h:oY U b o=some r):
  aZ prog 281 #[i,Value.func (.func k) #[] (a).toArray] ([Sl aK i b]++j) (λx:Unit=>vI (r)) (λx l=>l) (λ_ l=>l):=by
 refine aZ.of func281 Z ntmps281 Z λc=>?_;unfold oY at h;refine Q4 Z<|aL<|lN (B:=Unit) (λg=>rK g=some r) (λg m=>[]) (λg m=>[]) (λg m=>([Sl aK i b]++j)) ?_ ?_
 .refine Q6 Z<|jH (cP Z) Z<|aA Z<|aO<|aQ<|qF (B:=Unit) (iN b o) (λd n=>[(0,i),(1,Value.func (.func k) #[] (a).toArray),(7,vI (b.length:Int)),(8,vI (d))]) (λd n=>[]) (λd n=>([Sl aK i b]++j)) (0:Int) () h SF (aS.refl _) (aD.refl _ _) ?_;intro v d n h;refine aT<|cN Z<|aO<|aL<|gC h Z (λh=>?_) λh=>?_
  .refine cU<|aL<|aQ<|Q6 Z<|Q5 Z<|Q6 Z<|aA Z<|aA Z<|dQ h λs h=>aB (bD Z Z (cP Z) Z Z s) Z<|aB (bY Z (cP Z) Z Z Z dJ s) Z<|fF h λp q h=>aI (mJ (vs:=[vI (at' b d)]) (cs:=a) e Z (f (at' b d) p q) Z (aD.tail _) (λ_ _=>rfl)) Z λu=>aO<|Ag h Z (λ_ h=>?_) λ_ h=>?_
   .refine Q6 Z<|Q5 Z<|aV<|bU<|aM<|aM<|bU<|aM ?_;cases h;exact oA Z
   exact eK<|mF<|aP<|cH Z<|aA Z<|aO<|Ci (wI .i64 (d+(1:Int))) () h SF Z
  exact fH<|jV () (()) h SF Z
 intro g m h;unfold rK at h;refine Q4 Z<|aV ?_;cases h;exact oA Z
def qW (U:Nat) (a:Int):V1 V4:=
 some (decide (a≠(0:Int)))
theorem aeL:aU prog 282:=call282
theorem OQ {a:Int} (r:V4) (h:qW U a=some r):
  aZ prog 282 #[vI (a)] [] (λx:Unit=>vB (r)) (λx l=>l) (λ_ l=>l):=by
 refine aZ.of func282 Z ntmps282 Z λc=>?_;unfold qW at h;refine Q4 Z<|Q6 Z<|tT Z<|Q5 Z<|aV ?_;cases h;exact oA Z
def xS (a:e_):V1 iU:=
 some (a.1,a.2)
def rH (c:Int×Int×Int) (b:(Int×Int×Int)->V1 iU) (a:e_):V1 iU:=
 b (a.1,a.2,(wI .i64 (c.2.2+(1:Int))))
def xT (c:aX) (a:Int×Int×Int) (b:(Int×Int×Int)->V1 iU):V1 iU:=
 if a.2.2<(c.length:Int)then(ck (0<=a.2.2/\a.2.2<(c.length:Int)) (if a.1<(at' c a.2.2)then(rH a b ((at' c a.2.2),a.1))else(rH a b (a.1,(max a.2.1 (at' c a.2.2))))))else(xS (a.1,a.2.1))
def sZ (a:aX):V1 iU:=
 bE (xT a) U ((-1073741824:Int),(-1073741824:Int),(0:Int))
theorem Xf:aU prog 283:=call283
theorem Dw {d:aX} (j:V0) (r:e_) (h:sZ U d=some r):
  aZ prog 283 #[j] [Sl aK j d] (λx:Unit=>Value.tuple #[vI (r.1),vI (r.2)]) (λx l=>l) (λ_ l=>l):=by
 refine aZ.of func283 Z ntmps283 Z λc=>?_;unfold sZ at h;refine aT<|aC Z<|Q5 Z<|aT<|aC Z<|Q5 Z<|aL<|fV (λe=>xS e=some r) (λe m=>[(2,vI (e.1)),(3,vI (e.2))]) (λe m=>[]) ?_ ?_
 .refine Q6 Z<|jH (cP Z) Z<|aA Z<|aO<|aQ<|fT (xT d) (λb f=>[(2,vI (b.1)),(3,vI (b.2.1)),(6,j),(7,vI (d.length:Int)),(8,vI (b.2.2))]) (λb f=>[]) ((-1073741824:Int),(-1073741824:Int),(0:Int)) () h SF (aS.refl _) ?_;intro k b f h;refine aT<|cN Z<|aO<|aL<|gC h Z (λh=>?_) λh=>?_
  .refine cU<|aL<|fV (λa=>rH b (bE (xT d) k) a=some r) (λa g=>[(2,vI (a.1)),(3,vI (a.2)),(6,j),(7,vI (d.length:Int)),(8,vI (b.2.2))]) (λa g=>[]) ?_ ?_
   .refine aQ<|aT<|dQ h λi h=>aB (bD Z Z (cP Z) Z Z i) Z<|aB (bY Z (cP Z) Z Z Z dJ i) Z<|Q5 Z<|Q6 Z<|aA Z<|aB (zW Z Z) Z<|aO<|gC h Z (λh=>?_) λh=>?_
    .exact aP<|aA Z<|aA Z<|aC Z<|aC Z<|fC<|mF<|jV ((at' d b.2.2),b.1) () h SF Z
    exact aP<|aA Z<|aA Z<|aB (Lw Z Z) Z<|aC Z<|fC<|mF<|jV (b.1,(max b.2.1 (at' d b.2.2))) () h SF Z
   intro a g h;unfold rH at h;exact aP<|cH Z<|aA Z<|aO<|Ci (a.1,a.2,(wI .i64 (b.2.2+(1:Int)))) () h SF Z
  exact fH<|jV (b.1,b.2.1) () h SF Z
 intro e m h;unfold xS at h;refine Q6 Z<|aA Z<|aC Z<|Q5 Z<|aV ?_;cases h;exact pH () Z Z (RV.tmp Z) (RV.tmp Z) (aS.refl _) aD.nil
def zE (a:Unit):V1 (Int):=
 some (-1:Int)
def iD (c:aX) (d a:Int) (b:(Int)->V1 (Int)):V1 (Int):=
 if a<(c.length:Int)then(ck (0<=a/\a<(c.length:Int)) (if d=(at' c a)then(some (a))else(b (wI .i64 (a+(1:Int))))))else(zE (()))
def lB (a:aX) (b:Int):V1 (Int):=
 bE (iD a b) U (0:Int)
theorem Xd:aU prog 178:=call178
theorem Ha {d:aX} {e:Int} (f:V0) (r:Int) (h:lB U d e=some r):
  aZ prog 178 #[f,vI (e)] [Sl aK f d] (λx:Unit=>vI (r)) (λx l=>l) (λ_ l=>l):=by
 refine aZ.of func178 Z ntmps178 Z λc=>?_;unfold lB at h;refine Q4 Z<|aL<|fV (λa=>zE a=some r) (λa g=>[]) (λa g=>[]) ?_ ?_
 .refine Q6 Z<|jH (cP Z) Z<|aA Z<|aO<|aQ<|fT (iD d e) (λb i=>[(0,f),(1,vI (e)),(7,vI (d.length:Int)),(8,vI (b))]) (λb i=>[]) (0:Int) () h SF (aS.refl _) ?_;intro k b i h;refine aT<|cN Z<|aO<|aL<|gC h Z (λh=>?_) λh=>?_
  .refine cU<|aL<|aQ<|Q6 Z<|Q5 Z<|Q6 Z<|aA Z<|aA Z<|dQ h λj h=>aB (bD Z Z (cP Z) Z Z j) Z<|aB (bY Z (cP Z) Z Z Z dJ j) Z<|d_ Z<|aO<|gC h Z (λh=>?_) λh=>?_
   .refine Q6 Z<|Q5 Z<|aV<|bU<|aM<|aM<|bU<|aM ?_;cases h;exact oA Z
   exact eK<|mF<|aP<|cH Z<|aA Z<|aO<|Ci (wI .i64 (b+(1:Int))) () h SF Z
  exact fH<|jV () (()) h SF Z
 intro a g h;unfold zE at h;refine Q4 Z<|aV ?_;cases h;exact oA Z
def uL (a:aX) (b:Int):V1 V4:=
 Option.bind (lB U a b) λc=>(some (decide ((0:Int)<=c)))
theorem aeN:aU prog 290:=call290
theorem JZ {b:aX} {d:Int} (a:V0) (r:V4) (h:uL U b d=some r):
  aZ prog 290 #[a,vI (d)] [Sl aK a b] (λx:Unit=>vB (r)) (λx l=>l) (λ_ l=>l):=by
 refine aZ.of func290 Z ntmps290 Z λc=>Q4 Z<|Q6 Z<|aA Z<|fF h λe f h=>aI (zBj Xd (Ha U a e f) Z (jJ [0] Z)) Z λg=>aB (Ev Z Z) Z<|Q5 Z<|aV ?_;cases h;exact oA Z
def DR (a:Int):V1 (Int):=
 some (a)
def BV (c:aX) (a:Int) (b:(Int)->V1 (Int)):V1 (Int):=
 Option.bind (uL U c a) λd=>(if d=true then(b (wI .i64 (a+(1:Int))))else(DR (a)))
def Dl (a:aX):V1 (Int):=
 bE (BV U a) U (0:Int)
theorem aeM:aU prog 284:=call284
theorem Wj {e:aX} (d:V0) (r:Int) (h:Dl U e=some r):
  aZ prog 284 #[d] [Sl aK d e] (λx:Unit=>vI (r)) (λx l=>l) (λ_ l=>l):=by
 refine aZ.of func284 Z ntmps284 Z λc=>?_;unfold Dl at h;refine Q4 Z<|Q4 Z<|aL<|fV (λa=>DR a=some r) (λa g=>[(3,vI (a))]) (λa g=>[]) ?_ ?_
 .refine aQ<|fT (BV U e) (λb i=>[(0,d),(3,vI (b))]) (λb i=>[]) (0:Int) () h SF (aS.refl _) ?_;intro m b i h;refine aL<|Q6 Z<|aA Z<|fF h λj f h=>aI (zBj aeN (JZ U d j f) Z (jJ [0] Z)) Z λk=>aO<|Ag h Z (λ_ h=>?_) λ_ h=>?_
  .exact cU<|aQ<|aP<|aA Z<|cH Z<|aC Z<|fC<|mF<|Ci (wI .i64 (b+(1:Int))) () h SF Z
  exact fH<|jV (b) () h SF Z
 intro a g h;unfold DR at h;refine Q6 Z<|Q5 Z<|aV ?_;cases h;exact oA Z
def CJ (a:Int):V1 (Int):=
 some (a)
def wM (c:aX) (a:e_) (b:iU->V1 (Int)):V1 (Int):=
 if a.2<(c.length:Int)then(ck (0<=a.2/\a.2<(c.length:Int)) (b ((min a.1 (at' c a.2)),(wI .i64 (a.2+(1:Int))))))else(CJ (a.1))
def Ff (a:Int):V1 (Int):=
 Option.bind (kP U a) λb=>(some (b))
def wN (c:aX) (a:e_) (b:iU->V1 (Int)):V1 (Int):=
 if a.2<(c.length:Int)then(ck (0<=a.2/\a.2<(c.length:Int)) (b ((wI .i64 (a.1+(at' c a.2))),(wI .i64 (a.2+(1:Int))))))else(Ff U (a.1))
def DT (b:Int) (a:aX):V1 (Int):=
 if b=(20:Int)then(Option.bind (sY U a) λi=>(Option.bind (kB U (decide (i=(a.length:Int)))) λj=>(some (j))))else(if b=(21:Int)then(Option.bind (sY U a) λk=>(Option.bind (kB U (decide ((0:Int)<k))) λc=>(some (c))))else(if b=(22:Int)then(Option.bind (sY U a) λd=>(some (d)))else(if b=(23:Int)then(Option.bind (oY U a (λl=>qW U l)) λe=>(some (e)))else(if b=(24:Int)then(bE (wM a) U ((1073741824:Int),(0:Int)))else(if b=(25:Int)then(Option.bind (sZ U a) λf=>(some (f.1)))else(if b=(26:Int)then(bE (wN U a) U ((0:Int),(0:Int)))else(if b=(27:Int)then(Option.bind (Dl U a) λg=>(some (g)))else(if b=(28:Int)then(Option.bind (sZ U a) λh=>(some (h.2)))else(if(a.length:Int)=(0:Int)then(some (0:Int))else(ck (0<=(0:Int)/\(0:Int)<(a.length:Int)) (some (at' a (0:Int)))))))))))))
theorem aeI:aU prog 261:=call261
theorem Ur {H:Int} {g:aX} (f:V0) (r:Int) (h:DT U H g=some r):
  aZ prog 261 #[vI (H),f] [Sl aK f g] (λx:Unit=>vI (r)) (λx l=>l) (λ_ l=>l):=by
 refine aZ.of func261 Z ntmps261 Z λc=>Q4 Z<|aL<|Q6 Z<|aO<|aQ<|aT<|d_ Z<|Q5 Z<|gC h Z (λh=>?_) λh=>?_
 .refine Q6 Z<|fF h λK N h=>aI (zBj QO (FG U f K N) Z (jJ [0] Z)) Z λY=>aA Z<|jH (cP Z) Z<|d_ Z<|fF h λL O h=>aI (zBj BE (mH U L O) Z .nil) Z λx7=>Q5 Z<|aV<|bU<|aM ?_;cases h;exact oA Z
 refine aT<|d_ Z<|Q5 Z<|gC h Z (λh=>?_) λh=>?_
 .refine Q6 Z<|fF h λM z h=>aI (zBj QO (FG U f M z) Z (jJ [0] Z)) Z λP=>aB (zW Z Z) Z<|fF h λq A h=>aI (zBj BE (mH U q A) Z .nil) Z λQ=>Q5 Z<|aV<|bU<|aM ?_;cases h;exact oA Z
 refine aT<|d_ Z<|Q5 Z<|gC h Z (λh=>?_) λh=>?_
 .refine Q6 Z<|fF h λs B h=>aI (zBj QO (FG U f s B) Z (jJ [0] Z)) Z λR=>Q5 Z<|aV<|bU<|aM ?_;cases h;exact oA Z
 refine aT<|d_ Z<|Q5 Z<|gC h Z (λh=>?_) λh=>?_
 .refine Q6 Z<|fF h λt C h=>aI (zBj aeK (IT U 282 [] [] aeL (λy0 r h=>OQ U r h) f t C) Z (jJ [0] Z)) Z λS=>Q5 Z<|aV<|bU<|aM ?_;cases h;exact oA Z
 refine aT<|d_ Z<|Q5 Z<|gC h Z (λh=>?_) λh=>?_
 .refine Q4 Z<|aL<|fV (λd=>CJ d=some r) (λd i=>[(5,vI (d))]) (λd i=>[]) ?_ ?_
  .refine Q6 Z<|jH (cP Z) Z<|aA Z<|aO<|aQ<|fT (wM g) (λa j=>[(5,vI (a.1)),(40,f),(41,vI (g.length:Int)),(42,vI (a.2))]) (λa j=>[]) ((1073741824:Int),(0:Int)) () h SF (aS.refl _) ?_;intro I a j h;refine aT<|cN Z<|aO<|aL<|gC h Z (λh=>?_) λh=>?_
   .exact cU<|aL<|aQ<|aT<|dQ h λn h=>aB (bD Z Z (cP Z) Z Z n) Z<|aB (bY Z (cP Z) Z Z Z dJ n) Z<|Q5 Z<|aP<|aA Z<|aA Z<|aB (SS Z Z) Z<|aC Z<|fC<|mF<|aP<|cH Z<|aA Z<|aO<|Ci ((min a.1 (at' g a.2)),(wI .i64 (a.2+(1:Int)))) () h SF Z
   exact fH<|jV (a.1) () h SF Z
  intro d i h;unfold CJ at h;refine Q6 Z<|Q5 Z<|aV<|bU<|aM ?_;cases h;exact oA Z
 refine aT<|d_ Z<|Q5 Z<|gC h Z (λh=>?_) λh=>?_
 .refine Q6 Z<|fF h λu D h=>aI (zBj Xf (Dw U f u D) Z (jJ [0] Z)) Z λT=>aA Z<|lV Z<|lV Z<|aC Z<|Q5 Z<|Q6 Z<|Q5 Z<|aV<|bU<|aM ?_;cases h;exact oA Z
 refine aT<|d_ Z<|Q5 Z<|gC h Z (λh=>?_) λh=>?_
 .refine Q4 Z<|aL<|fV (λe=>Ff U e=some r) (λe k=>[(10,vI (e))]) (λe k=>[]) ?_ ?_
  .refine Q6 Z<|jH (cP Z) Z<|aA Z<|aO<|aQ<|fT (wN U g) (λb m=>[(10,vI (b.1)),(61,f),(62,vI (g.length:Int)),(63,vI (b.2))]) (λb m=>[]) ((0:Int),(0:Int)) () h SF (aS.refl _) ?_;intro J b m h;refine aT<|cN Z<|aO<|aL<|gC h Z (λh=>?_) λh=>?_
   .exact cU<|aL<|aQ<|aT<|dQ h λo h=>aB (bD Z Z (cP Z) Z Z o) Z<|aB (bY Z (cP Z) Z Z Z dJ o) Z<|Q5 Z<|aP<|aA Z<|aA Z<|cH Z<|aC Z<|fC<|mF<|aP<|cH Z<|aA Z<|aO<|Ci ((wI .i64 (b.1+(at' g b.2))),(wI .i64 (b.2+(1:Int)))) () h SF Z
   exact fH<|jV (b.1) () h SF Z
  intro e k h;refine Q6 Z<|fF h λv E h=>aI (zBj Hs (oG U v E) Z .nil) Z λV=>Q5 Z<|aV<|bU<|aM ?_;cases h;exact oA Z
 refine aT<|d_ Z<|Q5 Z<|gC h Z (λh=>?_) λh=>?_
 .refine Q6 Z<|fF h λw F h=>aI (zBj aeM (Wj U f w F) Z (jJ [0] Z)) Z λW=>Q5 Z<|aV<|bU<|aM ?_;cases h;exact oA Z
 refine aT<|d_ Z<|Q5 Z<|gC h Z (λh=>?_) λh=>?_
 .refine Q6 Z<|fF h λy G h=>aI (zBj Xf (Dw U f y G) Z (jJ [0] Z)) Z λX=>aA Z<|lV Z<|lV Z<|aC Z<|Q5 Z<|Q6 Z<|Q5 Z<|aV<|bU<|aM ?_;cases h;exact oA Z
 refine eK<|mF<|aL<|Q6 Z<|jH (cP Z) Z<|d_ Z<|aO<|gC h Z (λh=>?_) λh=>?_
 .refine Q4 Z<|aV<|aM ?_;cases h;exact oA Z
 refine cU<|Q6 Z<|dQ h λp h=>aB (bD Z Z (cP Z) Z Z p) Z<|aB (bY Z (cP Z) Z Z Z dJ p) Z<|Q5 Z<|aV ?_;cases h;exact oA Z
end Go.Proofs.YtflciafboapaaaaGreat