/- Models and proofs. Conditions: none. -/
import Derived.Test.YthnplbmmlbnelaaGreatZCJn7
import Derived.Test.YthnplbmmlbnelaaGreatZCJn9
import Derived.Test.YthnplbmmlbnelaaGreatZCJn2
set_option linter.unusedVariables false
set_option linter.unusedSimpArgs false
set_option maxHeartbeats 4000000
set_option maxRecDepth 20000
section
namespace Go.Proofs.YthnplbmmlbnelaaGreat
open Go Go.Sx
def BF:ByteArray:=ByteArray.mk #[116,117,114,110]
def SI (p q:PG):Bool:=((List.range p.2.1.length).any fun i:Nat=>decide (0<=Bw q.2.1 (at' p.2.1 (i:Int)).1))||decide (0<=Bw p.2.1 BF)||decide (0<=Bw q.2.1 BF)||smR p q
def BI (p q:PG):List VR:=p.2.1++q.2.1++[(BF,2,0,0,0,0)]
def pS (p q:PG):Nat:=p.2.1.length+q.2.1.length
theorem Fo (p q:PG):(BI p q).length=pS p q+1:=by unfold BI pS;simp;omega
noncomputable def jN (p:PG):List RL:=BL p (rB 0 p.2.1.length) p.2.2.length
noncomputable def lZ (p q:PG):List RL:=BL q (rB p.2.1.length q.2.1.length) q.2.2.length
noncomputable def AE (p q:PG):List RL:=((jN p).map (RZ (pS p q))++(lZ p q).map (TP (pS p q))++(jN p).map II)++(lZ p q).map II
noncomputable def Ko (n:Nat) (r:RL):Bool:=decide (r.1.size<=24)&&He n r.2.1
noncomputable def JP (p q:PG):PG×Int:=
 if Gc p=false∨Gc q=false then(AI,8)else if SI p q=true then(AI,5)else if 6<pS p q+1∨12<2*(p.2.2.length+q.2.2.length)then(AI,3)
 else if(List.range (AE p q).length).all (fun k:Nat=>Ko (pS p q+1) (at' (AE p q) (k:Int)))=true then((p.1,BI p q,AE p q),0)else(AI,3)
theorem Px {p:PG} (hP:VP p) {k:Nat} (hk:k<p.2.2.length):(at' p.2.2 (k:Int)).1.size<=24:=by
 have h:=hP.nm
 unfold IG at h
 simp only[Bool.and_eq_true,List.all_eq_true,List.mem_range]at h
 have h1:=(h.2 k hk).1
 unfold KU at h1
 simp only[Bool.and_eq_true,decide_eq_true_eq]at h1
 exact h1.1.1.1.2
theorem MJ {α:Type} [Inhabited α] (n:Nat) (f:Nat->α) {k:Nat} (hk:k<n):at' ((List.range n).map f) (k:Int)=f k:=by
 have e1:=sL (l:=(List.range n).map f) (k:=k) (by simp;exact hk)
 rw[List.getElem?_map,List.getElem?_range hk]at e1
 exact(Option.some.inj e1).symm
theorem Ri (p:PG) (m:cU) {n k:Nat} (hk:k<n):at' (BL p m n) (k:Int)=LM m (at' p.2.2 (k:Int)):=MJ n _ hk
theorem QU {α:Type} [Inhabited α] {e:List α} {k:Nat} (h:k<e.length):e.drop k=at' e (k:Int)::e.drop (k+1):=by
 rw[List.drop_eq_getElem_cons h]
 congr 1
 have:=sL h
 rw[List.getElem?_eq_getElem h]at this
 exact Option.some.inj this
theorem RU (F:Nat) {p q:PG} (L:List RL) (n:Nat) (V:List VR) (hV:V.length=n) (hL:L.length<=100) (hg:∀r∈L,∃x,Hy n r.2.1 x) (hF:1000<=F):gQ F p V L=some (if(List.range L.length).all (fun k:Nat=>Ko n (at' L (k:Int)))=true then((p.1,V,L),0)else(AI,3)):=by
 unfold gQ
 have e:=fE (step:=jB F p V L) (bad:=some (AI,3)) (K:=some ((p.1,V,L),0)) L.length (fun k:Nat=>Ko n (at' L (k:Int))) (fun k=>(k:Int)) (fun k ag hk=>by
  obtain⟨x,hx⟩:=hg _ (s_ hk)
  obtain⟨e1,e2,e3⟩:=Lv F hx hF
  unfold jB nR Ko
  rw[if_pos (by omega),eP (by omega),hV,wr (by omega) (by omega)]
  by_cases h24:(at' L (k:Int)).1.size<=24
  ·rw[if_neg (by omega),bU e1,decide_eq_true h24,Bool.true_and]
   cases He n (at' L (k:Int)).2.1<;>rfl
  ·rw[if_pos (by omega),decide_eq_false h24];rfl) (fun ag=>by unfold jB oL;rw[if_neg (by omega)]) F (by omega)
 refine Eq.trans e ?_
 split<;>rfl
theorem LU (F:Nat) {p q:PG} (hp:AD p) (hP:VP p) (hq:AD q) (hQ:VP q) (V:List VR) (O:List RL) (hO:O.length<=50) (hF:1000<=F):jA F p q V (rB 0 p.2.1.length) (rB p.2.1.length q.2.1.length) O=gQ F p V ((O++(jN p).map II)++(lZ p q).map II):=by
 have p12:=hP.r12
 have q12:=hQ.r12
 unfold jA
 have e1:=gK (step:=lE F p q V (rB 0 p.2.1.length) (rB p.2.1.length q.2.1.length)) (K:=lC F p q V (rB p.2.1.length q.2.1.length) (O++(jN p).map II)) p.2.2.length (fun k=>((k:Int),O++(BL p (rB 0 p.2.1.length) k).map II)) (fun k ag hk=>by
  have hR:=hp.rule hP hk
  have hl:=jE p (rB 0 p.2.1.length) k
  have hn:=Px hP hk
  have h2:=Wr F (r:=((at' p.2.2 (k:Int)).1,(at' p.2.2 (k:Int)).2.1,(at' p.2.2 (k:Int)).2.2)) hR (pN 0 p.2.1.length) hF
  unfold lE
  dsimp only
  rw[if_pos (by omega),eP (by omega),bU h2,eP (by show(((at' p.2.2 (k:Int)).1.size:Nat):Int)+1<=1099511627;omega),eP (by simp;omega),wr (by omega) (by omega),vC,List.map_append,<-List.append_assoc]
  rfl) (fun ag=>by
  unfold lE
  dsimp only
  rw[if_neg (by omega)];rfl) F (by omega)
 have hz:(BL p (rB 0 p.2.1.length) 0).map II=[]:=rfl
 rw[hz,List.append_nil]at e1
 refine Eq.trans e1 ?_
 unfold lC
 have e2:=gK (step:=lD F p q V (rB p.2.1.length q.2.1.length)) (K:=gQ F p V ((O++(jN p).map II)++(lZ p q).map II)) q.2.2.length (fun k=>((k:Int),(O++(jN p).map II)++(BL q (rB p.2.1.length q.2.1.length) k).map II)) (fun k ag hk=>by
  have hR:=hq.rule hQ hk
  have hl:=jE q (rB p.2.1.length q.2.1.length) k
  have hl2:(jN p).length=p.2.2.length:=jE _ _ _
  have hn:=Px hQ hk
  have h2:=Wr F (r:=((at' q.2.2 (k:Int)).1,(at' q.2.2 (k:Int)).2.1,(at' q.2.2 (k:Int)).2.2)) hR (pN p.2.1.length q.2.1.length) hF
  unfold lD
  dsimp only
  rw[if_pos (by omega),eP (by omega),bU h2,eP (by show(((at' q.2.2 (k:Int)).1.size:Nat):Int)+1<=1099511627;omega),eP (by simp;omega),wr (by omega) (by omega),vC,List.map_append,<-List.append_assoc]
  rfl) (fun ag=>by
  unfold lD
  dsimp only
  rw[if_neg (by omega)];rfl) F (by omega)
 have hz2:(BL q (rB p.2.1.length q.2.1.length) 0).map II=[]:=rfl
 rw[hz2,List.append_nil]at e2
 exact e2
theorem KA (m:cU) (r:RL):(LM m r).2.1.length<=r.2.1.length:=by
 show(Dc m r.2.1).1.length<=_
 unfold Dc
 split
 ·split<;>simp
 ·simp
theorem Nu (F:Nat) {p q:PG} (hp:AD p) (hP:VP p) (hq:AD q) (hQ:VP q) (hF:1000<=F):hJ F p q (BI p q) false=gQ F p (BI p q) (AE p q):=by
 have p12:=hP.r12
 have q12:=hQ.r12
 have p6:=hP.v6
 have q6:=hQ.v6
 have hT:pS p q=p.2.1.length+q.2.1.length:=rfl
 have hVl:=Fo p q
 have hw:wI .i64 ((List.length (BI p q):Int) - 1)=(pS p q:Int):=by rw[hVl,wr (by omega) (by omega)];omega
 unfold hJ
 rw[if_neg (by decide),bU (show iF F (p.1,p.2.1,p.2.2) 0=_ from Nv F (p.1,p.2.1,p.2.2) 0 (by dsimp only;omega) (by omega) hF),bU (Nv F (q.1,q.2.1,q.2.2) p.2.1.length (by dsimp only;omega) (by omega) hF)]
 have e1:=gK (step:=lG F p q (BI p q) (rB 0 p.2.1.length) (rB p.2.1.length q.2.1.length)) (K:=k_ F p q (BI p q) (rB 0 p.2.1.length) (rB p.2.1.length q.2.1.length) ((jN p).map (RZ (pS p q)))) p.2.2.length (fun k=>((k:Int),(BL p (rB 0 p.2.1.length) k).map (RZ (pS p q)))) (fun k ag hk=>by
  have hR:=hp.rule hP hk
  have hl:=jE p (rB 0 p.2.1.length) k
  have hn:=Px hP hk
  have n6:=hR.n6
  have lg:=hR.lg
  have hgl:=KA (rB 0 p.2.1.length) ((at' p.2.2 (k:Int)).1,(at' p.2.2 (k:Int)).2.1,(at' p.2.2 (k:Int)).2.2)
  have h2:=Wr F (r:=((at' p.2.2 (k:Int)).1,(at' p.2.2 (k:Int)).2.1,(at' p.2.2 (k:Int)).2.2)) hR (pN 0 p.2.1.length) hF
  unfold lG
  dsimp only at hgl ⊢
  rw[if_pos (by omega),eP (by omega),bU h2,eP (by show(((at' p.2.2 (k:Int)).1.size:Nat):Int)+1<=1099511627;omega),bU (WF F _ _ (by simp) (by omega) hF),eP (by
   show(((at' p.2.2 (k:Int)).2.2.map _).length:Int)+1<=_
   rw[List.length_map];omega),eP (by simp;omega),wr (x:=(k:Int)+1) (by omega) (by omega),vC,List.map_append,hw]
  rfl) (fun ag=>by
  unfold lG
  dsimp only
  rw[if_neg (by omega)];rfl) F (by omega)
 refine Eq.trans e1 ?_
 unfold k_
 have e2:=gK (step:=lF F p q (BI p q) (rB 0 p.2.1.length) (rB p.2.1.length q.2.1.length)) (K:=jA F p q (BI p q) (rB 0 p.2.1.length) (rB p.2.1.length q.2.1.length) ((jN p).map (RZ (pS p q))++(lZ p q).map (TP (pS p q)))) q.2.2.length (fun k=>((k:Int),(jN p).map (RZ (pS p q))++(BL q (rB p.2.1.length q.2.1.length) k).map (TP (pS p q)))) (fun k ag hk=>by
  have hR:=hq.rule hQ hk
  have hl:=jE q (rB p.2.1.length q.2.1.length) k
  have hl2:(jN p).length=p.2.2.length:=jE _ _ _
  have hn:=Px hQ hk
  have n6:=hR.n6
  have lg:=hR.lg
  have hgl:=KA (rB p.2.1.length q.2.1.length) ((at' q.2.2 (k:Int)).1,(at' q.2.2 (k:Int)).2.1,(at' q.2.2 (k:Int)).2.2)
  have h2:=Wr F (r:=((at' q.2.2 (k:Int)).1,(at' q.2.2 (k:Int)).2.1,(at' q.2.2 (k:Int)).2.2)) hR (pN p.2.1.length q.2.1.length) hF
  unfold lF
  dsimp only at hgl ⊢
  rw[if_pos (by omega),eP (by omega),bU h2,eP (by show(((at' q.2.2 (k:Int)).1.size:Nat):Int)+1<=1099511627;omega),bU (WF F _ _ (by simp) (by omega) hF),eP (by
   show(((at' q.2.2 (k:Int)).2.2.map _).length:Int)+1<=_
   rw[List.length_map];omega),eP (by simp;omega),wr (x:=(k:Int)+1) (by omega) (by omega),vC,List.map_append,hw,<-List.append_assoc]
  rfl) (fun ag=>by
  unfold lF
  dsimp only
  rw[if_neg (by omega)];rfl) F (by omega)
 have hz:(BL q (rB p.2.1.length q.2.1.length) 0).map (TP (pS p q))=[]:=rfl
 rw[hz,List.append_nil]at e2
 refine Eq.trans e2 ?_
 have hl2:(jN p).length=p.2.2.length:=jE _ _ _
 have hl3:(lZ p q).length=q.2.2.length:=jE _ _ _
 exact LU F hp hP hq hQ (BI p q) _ (by simp;omega) hF
theorem Lk {p q:PG} (hp:AD p) (hP:VP p) (hq:AD q) (hQ:VP q) (h6:pS p q+1<=6):∀r∈AE p q,∃x,Hy (pS p q+1) r.2.1 x:=by
 have hT:pS p q=p.2.1.length+q.2.1.length:=rfl
 have gA:∀r∈jN p,r.2.1.length<=200∧∃x,Hy (pS p q+1) r.2.1 x:=fun r hr=>by
  obtain⟨k,hk,rfl⟩:=List.mem_map.1 hr
  have hk:=List.mem_range.1 hk
  exact NG h6 (fun j hj=>by
   rw[pN]at hj
   unfold rB
   rw[MJ _ _ hj];omega) (by rw[pN];exact(hP.rl k hk).guard)
 have gB:∀r∈lZ p q,r.2.1.length<=200∧∃x,Hy (pS p q+1) r.2.1 x:=fun r hr=>by
  obtain⟨k,hk,rfl⟩:=List.mem_map.1 hr
  have hk:=List.mem_range.1 hk
  exact NG h6 (fun j hj=>by
   rw[pN]at hj
   unfold rB
   rw[MJ _ _ hj];omega) (by rw[pN];exact(hQ.rl k hk).guard)
 intro r hr
 unfold AE at hr
 simp only[List.mem_append,List.mem_map]at hr
 rcases hr with((⟨r',h,rfl⟩|⟨r',h,rfl⟩)|⟨r',h,rfl⟩)|⟨r',h,rfl⟩
 ·obtain⟨hl,x,hx⟩:=gA r' h;exact hx.own0 hl (by omega)
 ·obtain⟨hl,x,hx⟩:=gB r' h;exact hx.own1 hl (by omega)
 ·obtain⟨hl,x,hx⟩:=gA r' h;exact⟨x,hx⟩
 ·obtain⟨hl,x,hx⟩:=gB r' h;exact⟨x,hx⟩
theorem HE (p q:PG):(AE p q).length=2*(p.2.2.length+q.2.2.length):=by
 have hl2:(jN p).length=p.2.2.length:=jE _ _ _
 have hl3:(lZ p q).length=q.2.2.length:=jE _ _ _
 unfold AE;simp;omega
theorem YK (F:Nat) {p q:PG} (hp:AD p) (hq:AD q) (hF:1000<=F):pK F p q=some (JP p q):=by
 unfold pK JP oK
 rw[bU (KH F (p:=(p.1,p.2.1,p.2.2)) hp hF)]
 show(if(!Gc p)=true then _ else _)=_
 cases hv:Gc p
 ·rw[if_pos (show(!false)=true from rfl),if_pos (Or.inl rfl)];rfl
 rw[if_neg (by decide),bU (KH F (p:=(q.1,q.2.1,q.2.2)) hq hF)]
 show(if(!Gc q)=true then _ else _)=_
 cases hw:Gc q
 ·rw[if_pos (show(!false)=true from rfl),if_pos (Or.inr rfl)];rfl
 rw[if_neg (by decide),if_neg (by simp)]
 have hP:=CZ hv
 have hQ:=CZ hw
 have p6:=hP.v6
 have q6:=hQ.v6
 have p12:=hP.r12
 have q12:=hQ.r12
 have e:=zJ (step:=lH F p q) (hit:=some (AI,5)) (K:=kZ F p q false) p.2.1.length (fun i:Nat=>decide (0<=Bw q.2.1 (at' p.2.1 (i:Int)).1)) (fun k=>(k:Int)) (fun k ag hk=>by
  have e1:nU F (at' p.2.1 (k:Int)) (q.1,q.2.1,q.2.2)=some (decide (0<=Bw q.2.1 (at' p.2.1 (k:Int)).1)):=by
   unfold nU
   exact bU (Oz F (q.1,q.2.1,q.2.2) _ (by dsimp only;omega) hF)
  unfold lH iJ
  rw[if_pos (by omega),eP (by omega),bU e1,wr (by omega) (by omega),decide_eq_true (show(0:Int)<=(k:Int) by omega)]
  rfl) (fun ag=>by unfold lH nS iJ;rw[if_neg (by omega)];rfl) F (by omega)
 refine Eq.trans e ?_
 unfold SI
 by_cases c1:((List.range p.2.1.length).any fun i:Nat=>decide (0<=Bw q.2.1 (at' p.2.1 (i:Int)).1))=true
 ·rw[if_pos c1,if_pos (by rw[c1];rfl)]
 rw[if_neg c1,Bool.eq_false_iff.2 c1,Bool.false_or]
 unfold kZ
 rw[if_neg (by decide),bU (show iO F (p.1,p.2.1,p.2.2) (ByteArray.mk #[116,117,114,110])=_ from Oz F (p.1,p.2.1,p.2.2) BF (by dsimp only;omega) hF)]
 dsimp only
 by_cases c2:0<=Bw p.2.1 BF
 ·rw[if_pos c2,if_pos (by rw[decide_eq_true c2];rfl)];rfl
 rw[if_neg c2,decide_eq_false c2,Bool.false_or,bU (show iO F (q.1,q.2.1,q.2.2) (ByteArray.mk #[116,117,114,110])=_ from Oz F (q.1,q.2.1,q.2.2) BF (by dsimp only;omega) hF)]
 dsimp only
 by_cases c3:0<=Bw q.2.1 BF
 ·rw[if_pos c3,if_pos (by rw[decide_eq_true c3];rfl)];rfl
 rw[if_neg c3,decide_eq_false c3,Bool.false_or,bU (Ju F (p.1,p.2.1,p.2.2) (q.1,q.2.1,q.2.2) (by dsimp only;omega) (by dsimp only;omega) hF)]
 show g_ F p q (smR p q)=_
 unfold g_
 by_cases c4:smR p q=true
 ·rw[if_pos c4,if_pos c4];rfl
 rw[if_neg c4,if_neg c4,bU (show kL F [p.2.1,q.2.1,[(ByteArray.mk #[116,117,114,110],2,0,0,0,0)]]=some (BI p q)from Yv F p.2.1 q.2.1 [(BF,2,0,0,0,0)] (by omega) (by omega) (by simp) hF)]
 show(if(6:Int)<(List.length (BI p q):Int)then hJ F p q (BI p q) true else hJ F p q (BI p q) _)=_
 have hVl:=Fo p q
 by_cases h6:6<pS p q+1
 ·rw[if_pos (by omega),if_pos (Or.inl h6)];rfl
 rw[if_neg (by omega),wr (x:=(p.2.2.length:Int)+(q.2.2.length:Int)) (by omega) (by omega),wr (by omega) (by omega)]
 by_cases h12:12<2*(p.2.2.length+q.2.2.length)
 ·rw[decide_eq_true (by omega),if_pos (Or.inr h12)];rfl
 rw[decide_eq_false (by omega),if_neg (by omega),Nu F hp hP hq hQ hF]
 exact RU F (q:=q) (AE p q) (pS p q+1) (BI p q) hVl (by rw[HE];omega) (Lk hp hP hq hQ (by omega)) hF
theorem YH (F:Nat) (r:RL) (t:Nat) (h1:r.1.size<=1000) (h2:r.2.1.length<=1000) (h3:r.2.2.length<=1000):lK F r (t:Int) false=some (RZ t r):=by
 unfold lK xB rS
 rw[eP (by show((r.1.size:Nat):Int)+1<=1099511627;omega),eP (by show(0:Int)+((r.2.2.length:Nat):Int)<=1099511627;omega),if_neg (by decide),eP (by simp;omega)]
 dsimp only
 rw[eP (by show(3:Int)+((r.2.1.length:Nat):Int)<=1099511627;omega),List.nil_append]
 rfl
theorem YI (F:Nat) (r:RL) (t:Nat) (h1:r.1.size<=1000) (h2:r.2.1.length<=1000) (h3:r.2.2.length<=1000):lK F r (t:Int) true=some (TP t r):=by
 unfold lK xB rS
 rw[eP (by show((r.1.size:Nat):Int)+1<=1099511627;omega),eP (by show(0:Int)+((r.2.2.length:Nat):Int)<=1099511627;omega),if_pos rfl,eP (by simp;omega)]
 dsimp only
 rw[eP (by show(2:Int)+((r.2.1.length:Nat):Int)<=1099511627;omega),List.nil_append]
 rfl
theorem Ry (F:Nat) {p q:PG} (L:List RL) (hL:L.length<=100) (hg:∀r∈L,∃x,Hy (pS p q+1) r.2.1 x) (hF:1000<=F):gE F p q L false=some (if(List.range L.length).all (fun k:Nat=>Ko (pS p q+1) (at' L (k:Int)))=true then((p.1,BI p q,L),0)else(AI,3)):=by
 unfold gE
 rw[if_neg (by decide)]
 have e:=fE (step:=kP F p q L) (bad:=some (AI,3)) (K:=some ((p.1,BI p q,L),0)) L.length (fun k:Nat=>Ko (pS p q+1) (at' L (k:Int))) (fun k=>(k:Int)) (fun k ag hk=>by
  obtain⟨x,hx⟩:=hg _ (s_ hk)
  obtain⟨e1,e2,e3⟩:=Lv F hx hF
  unfold kP mC Ko
  rw[if_pos (by omega),eP (by omega),wr (by omega) (by omega),e3]
  by_cases h24:(at' L (k:Int)).1.size<=24
  ·rw[if_neg (by omega),eP (by omega),decide_eq_true h24,Bool.true_and]
   by_cases h200:(at' L (k:Int)).2.1.length<=200
   ·rw[if_neg (by omega),eP (by omega),bU e2,decide_eq_true h200,Bool.true_and]
    by_cases hd:x.depth<=24
    ·rw[decide_eq_false (by omega),decide_eq_true hd];rfl
    ·rw[decide_eq_true (by omega),decide_eq_false hd];rfl
   ·rw[if_pos (by omega),decide_eq_false h200];rfl
  ·rw[if_pos (by omega),decide_eq_false h24];rfl) (fun ag=>by
  unfold kP pL
  rw[if_neg (by omega),List.nil_append];rfl) F (by omega)
 refine Eq.trans e ?_
 split<;>rfl
theorem RA (F:Nat) {p q:PG} (hp:AD p) (hP:VP p) (hq:AD q) (hQ:VP q) (hF:1000<=F):kO F p q (jN p) (lZ p q)=jX F p q (AE p q):=by
 have p12:=hP.r12
 have q12:=hQ.r12
 have p6:=hP.v6
 have q6:=hQ.v6
 have lA:(jN p).length=p.2.2.length:=jE _ _ _
 have lB:(lZ p q).length=q.2.2.length:=jE _ _ _
 have hT:(List.length ((([]:List VR)++p.2.1)++q.2.1):Int)=(pS p q:Int):=by rw[List.nil_append,List.length_append];rfl
 have aA:∀k:Nat,k<p.2.2.length->at' (jN p) (k:Int)=LM (rB 0 p.2.1.length) (at' p.2.2 (k:Int)):=fun k hk=>Ri _ _ hk
 have aB:∀k:Nat,k<q.2.2.length->at' (lZ p q) (k:Int)=LM (rB p.2.1.length q.2.1.length) (at' q.2.2 (k:Int)):=fun k hk=>Ri _ _ hk
 have bA:∀k:Nat,k<p.2.2.length->(at' (jN p) (k:Int)).1.size<=24∧(at' (jN p) (k:Int)).2.1.length<=400∧(at' (jN p) (k:Int)).2.2.length<=6:=fun k hk=>by
  have hR:=hp.rule hP hk
  have g:=KA (rB 0 p.2.1.length) (at' p.2.2 (k:Int))
  have lg:=hR.lg
  have n6:=hR.n6
  rw[aA k hk]
  refine⟨Px hP hk,by omega,?_⟩
  show((at' p.2.2 (k:Int)).2.2.map _).length<=6
  rw[List.length_map];exact n6
 have bB:∀k:Nat,k<q.2.2.length->(at' (lZ p q) (k:Int)).1.size<=24∧(at' (lZ p q) (k:Int)).2.1.length<=400∧(at' (lZ p q) (k:Int)).2.2.length<=6:=fun k hk=>by
  have hR:=hq.rule hQ hk
  have g:=KA (rB p.2.1.length q.2.1.length) (at' q.2.2 (k:Int))
  have lg:=hR.lg
  have n6:=hR.n6
  rw[aB k hk]
  refine⟨Px hQ hk,by omega,?_⟩
  show((at' q.2.2 (k:Int)).2.2.map _).length<=6
  rw[List.length_map];exact n6
 unfold kO
 have e1:=gK (step:=nE F p q (jN p) (lZ p q)) (K:=nA F p q (jN p) (lZ p q) ((jN p).map (RZ (pS p q)))) (jN p).length (fun k=>((k:Int),((jN p).take k).map (RZ (pS p q)))) (fun k ag hk=>by
  obtain⟨b1,b2,b3⟩:=bA k (by omega)
  unfold nE
  dsimp only
  rw[if_pos (by omega),eP (by omega),hT,bU (YH F ((at' (jN p) (k:Int)).1,(at' (jN p) (k:Int)).2.1,(at' (jN p) (k:Int)).2.2) (pS p q) (by dsimp only;omega) (by dsimp only;omega) (by dsimp only;omega)),eP (by simp;omega),wr (by omega) (by omega),uR hk,List.map_append]
  rfl) (fun ag=>by
  unfold nE
  dsimp only
  rw[if_neg (by omega),List.take_length]) F (by omega)
 refine Eq.trans e1 ?_
 unfold nA
 have e2:=gK (step:=nD F p q (jN p) (lZ p q)) (K:=mB F p q (jN p) (lZ p q) ((jN p).map (RZ (pS p q))++(lZ p q).map (TP (pS p q)))) (lZ p q).length (fun k=>((k:Int),(jN p).map (RZ (pS p q))++((lZ p q).take k).map (TP (pS p q)))) (fun k ag hk=>by
  obtain⟨b1,b2,b3⟩:=bB k (by omega)
  unfold nD
  dsimp only
  rw[if_pos (by omega),eP (by omega),hT,bU (YI F ((at' (lZ p q) (k:Int)).1,(at' (lZ p q) (k:Int)).2.1,(at' (lZ p q) (k:Int)).2.2) (pS p q) (by dsimp only;omega) (by dsimp only;omega) (by dsimp only;omega)),eP (by simp;omega),wr (by omega) (by omega),uR hk,List.map_append,<-List.append_assoc]
  rfl) (fun ag=>by
  unfold nD
  dsimp only
  rw[if_neg (by omega),List.take_length]) F (by omega)
 have hz:((lZ p q).take 0).map (TP (pS p q))=[]:=rfl
 rw[hz,List.append_nil]at e2
 refine Eq.trans e2 ?_
 unfold mB
 rw[List.nil_append,eP (by simp;omega),eP (by omega)]
 have bAB:∀k:Nat,k<(jN p++lZ p q).length->(at' (jN p++lZ p q) (k:Int)).1.size<=24:=fun k hk=>by
  have hm:=s_ hk
  rcases List.mem_append.1 hm with h|h
  ·obtain⟨j,hj⟩:=List.getElem?_of_mem h
   have hlt:=bN hj
   rw[sL hlt]at hj
   rw[<-Option.some.inj hj];exact(bA j (by omega)).1
  ·obtain⟨j,hj⟩:=List.getElem?_of_mem h
   have hlt:=bN hj
   rw[sL hlt]at hj
   rw[<-Option.some.inj hj];exact(bB j (by omega)).1
 have lAB:(jN p++lZ p q).length<=24:=by rw[List.length_append];omega
 have e3:=gK (step:=nC F p q) (K:=jX F p q (AE p q)) (jN p++lZ p q).length (fun k=>((k:Int),((jN p++lZ p q).take k).map II++(jN p++lZ p q).drop k,((jN p).map (RZ (pS p q))++(lZ p q).map (TP (pS p q)))++((jN p++lZ p q).take k).map II)) (fun k ag hk=>by
  have b:=bAB k hk
  have hd:=QU hk
  have hlen:(((jN p++lZ p q).take k).map II).length=k:=by rw[List.length_map,List.length_take];omega
  have hl:(((jN p++lZ p q).take k).map II++(jN p++lZ p q).drop k).length=(jN p++lZ p q).length:=by rw[List.length_append,hlen,List.length_drop];omega
  have hat:at' (((jN p++lZ p q).take k).map II++(jN p++lZ p q).drop k) (k:Int)=at' (jN p++lZ p q) (k:Int):=by rw[hd];exact gJ _ _ _ _ hlen
  have hset:∀y,(((jN p++lZ p q).take k).map II++(jN p++lZ p q).drop k).set k y=(((jN p++lZ p q).take k).map II)++y::(jN p++lZ p q).drop (k+1):=fun y=>by rw[hd];exact Gv _ _ _ _ k hlen
  have hat2:∀y,at' ((((jN p++lZ p q).take k).map II)++y::(jN p++lZ p q).drop (k+1)) (k:Int)=y:=fun y=>gJ _ _ _ _ hlen
  unfold nC
  dsimp only
  rw[hat,Int.toNat_natCast,hset,hat2,if_pos (by omega),eP (by omega),eP (by show(((at' (jN p++lZ p q) (k:Int)).1.size:Nat):Int)+1<=1099511627;omega),eP (by omega),eP (by
   rw[List.length_append,hlen,List.length_cons,List.length_drop];omega),eP (by simp;omega),wr (by omega) (by omega),uR hk,List.map_append]
  simp only[List.append_assoc]
  rfl) (fun ag=>by
  unfold nC
  dsimp only
  rw[if_neg (by simp),List.take_length,List.map_append,<-List.append_assoc]
  rfl) F (by omega)
 have hz2:((jN p++lZ p q).take 0).map II=[]:=rfl
 rw[hz2,List.append_nil,List.drop_zero,List.nil_append]at e3
 exact e3
theorem Nm (F:Nat) {p q:PG} (hp:AD p) (hP:VP p) (hq:AD q) (hQ:VP q) (hF:1000<=F):kN F p q false=jX F p q (AE p q):=by
 have p12:=hP.r12
 have q12:=hQ.r12
 have p6:=hP.v6
 have q6:=hQ.v6
 unfold kN xG
 rw[if_neg (by decide),eP (by simp;omega),eP (by simp;omega),eP (by simp;omega)]
 have e1:=gK (step:=nH F p q) (K:=mZ F p q (rB p.2.1.length q.2.1.length)) q.2.1.length (fun k=>(rB p.2.1.length k,(k:Int))) (fun k ag hk=>by
  have hs:rB p.2.1.length (k+1)=rB p.2.1.length k++[((p.2.1.length+k:Nat):Int)]:=by unfold rB;rw[List.range_succ,List.map_append];rfl
  unfold nH
  dsimp only
  rw[if_pos (by omega),eP (by rw[pN];simp;omega),wr (by omega) (by omega),wr (by omega) (by omega),hs]
  rfl) (fun ag=>by
  unfold nH
  dsimp only
  rw[if_neg (by omega)]) F (by omega)
 refine Eq.trans e1 ?_
 unfold mZ
 have e2:=gK (step:=nG F p q (rB p.2.1.length q.2.1.length)) (K:=m_ F p q (rB p.2.1.length q.2.1.length) (jN p)) p.2.2.length (fun k=>(BL p (rB 0 p.2.1.length) k,(k:Int))) (fun k ag hk=>by
  have hR:=hp.rule hP hk
  have hl:=jE p (rB 0 p.2.1.length) k
  have h2:=XK F (r:=((at' p.2.2 (k:Int)).1,(at' p.2.2 (k:Int)).2.1,(at' p.2.2 (k:Int)).2.2)) hR (pN 0 p.2.1.length) hF
  unfold nG
  dsimp only
  rw[if_pos (by omega),eP (by omega),bU (RE F _ (by omega) hF),bU h2,eP (by simp;omega),wr (by omega) (by omega),vC]
  rfl) (fun ag=>by
  unfold nG
  dsimp only
  rw[if_neg (by omega)];rfl) F (by omega)
 refine Eq.trans e2 ?_
 unfold m_
 have e3:=gK (step:=nF F p q (rB p.2.1.length q.2.1.length) (jN p)) (K:=kO F p q (jN p) (lZ p q)) q.2.2.length (fun k=>(BL q (rB p.2.1.length q.2.1.length) k,(k:Int))) (fun k ag hk=>by
  have hR:=hq.rule hQ hk
  have hl:=jE q (rB p.2.1.length q.2.1.length) k
  have h2:=XK F (r:=((at' q.2.2 (k:Int)).1,(at' q.2.2 (k:Int)).2.1,(at' q.2.2 (k:Int)).2.2)) hR (pN p.2.1.length q.2.1.length) hF
  unfold nF
  dsimp only
  rw[if_pos (by omega),eP (by omega),bU h2,eP (by simp;omega),wr (by omega) (by omega),vC]
  rfl) (fun ag=>by
  unfold nF
  dsimp only
  rw[if_neg (by omega)];rfl) F (by omega)
 refine Eq.trans e3 ?_
 exact RA F hp hP hq hQ hF
theorem YA (F:Nat) {p q:PG} (hp:AD p) (hq:AD q) (hF:1000<=F):sQ F p q=some (JP p q):=by
 unfold sQ JP qX
 rw[bU (Ky F (p:=(p.1,p.2.1,p.2.2)) hp hF)]
 show(if(!Gc p)=true then _ else _)=_
 cases hv:Gc p
 ·rw[if_pos (show(!false)=true from rfl),if_pos (Or.inl rfl)];rfl
 rw[if_neg (by decide),bU (Ky F (p:=(q.1,q.2.1,q.2.2)) hq hF)]
 show(if(!Gc q)=true then _ else _)=_
 cases hw:Gc q
 ·rw[if_pos (show(!false)=true from rfl),if_pos (Or.inr rfl)];rfl
 rw[if_neg (by decide),if_neg (by simp)]
 have hP:=CZ hv
 have hQ:=CZ hw
 have p6:=hP.v6
 have q6:=hQ.v6
 have p12:=hP.r12
 have q12:=hQ.r12
 have kRules:∀b,iX F p q b=kN F p q (b||smR p q):=fun b=>by
  unfold iX
  have e:=gK (step:=kQ F p q) (K:=kN F p q (b||smR p q)) p.2.2.length (fun k=>(b||(List.range k).any (fun i:Nat=>Rt q.2.2 (at' p.2.2 (i:Int)).1),(k:Int))) (fun k ag hk=>by
   unfold kQ mD
   dsimp only
   rw[if_pos (by omega),eP (by omega),bU (WZ F _ _ (by omega) hF),wr (by omega) (by omega),List.range_succ,List.any_append,<-Bool.or_assoc]
   cases (b||(List.range k).any (fun i:Nat=>Rt q.2.2 (at' p.2.2 (i:Int)).1))<;>simp<;>rfl) (fun ag=>by
   unfold kQ
   dsimp only
   rw[if_neg (by omega)];rfl) F (by omega)
  have hz:(b||(List.range 0).any (fun i:Nat=>Rt q.2.2 (at' p.2.2 (i:Int)).1))=b:=by simp
  rw[hz]at e
  exact e
 have kVars:∀b,iW F p q b=iX F p q (b||(List.range p.2.1.length).any fun i:Nat=>decide (0<=Bw q.2.1 (at' p.2.1 (i:Int)).1)):=fun b=>by
  unfold iW
  have e:=gK (step:=kR F p q) (K:=iX F p q (b||(List.range p.2.1.length).any fun i:Nat=>decide (0<=Bw q.2.1 (at' p.2.1 (i:Int)).1))) p.2.1.length (fun k=>(b||(List.range k).any (fun i:Nat=>decide (0<=Bw q.2.1 (at' p.2.1 (i:Int)).1)),(k:Int))) (fun k ag hk=>by
   unfold kR mE
   dsimp only
   rw[if_pos (by omega),eP (by omega),bU (Kx F _ _ (by omega) hF),wr (by omega) (by omega),List.range_succ,List.any_append,<-Bool.or_assoc]
   cases (b||(List.range k).any (fun i:Nat=>decide (0<=Bw q.2.1 (at' p.2.1 (i:Int)).1)))<;>simp<;>rfl) (fun ag=>by
   unfold kR
   dsimp only
   rw[if_neg (by omega)]) F (by omega)
  have hz:(b||(List.range 0).any (fun i:Nat=>decide (0<=Bw q.2.1 (at' p.2.1 (i:Int)).1)))=b:=by simp
  rw[hz]at e
  exact e
 have hTop:∀b,iW F p q b=some (if(b||((List.range p.2.1.length).any fun i:Nat=>decide (0<=Bw q.2.1 (at' p.2.1 (i:Int)).1))||smR p q)=true then(AI,5)else if 6<pS p q+1∨12<2*(p.2.2.length+q.2.2.length)then(AI,3)
   else if(List.range (AE p q).length).all (fun k:Nat=>Ko (pS p q+1) (at' (AE p q) (k:Int)))=true then((p.1,BI p q,AE p q),0)else(AI,3)):=fun b=>by
  rw[kVars,kRules]
  by_cases hc:(b||((List.range p.2.1.length).any fun i:Nat=>decide (0<=Bw q.2.1 (at' p.2.1 (i:Int)).1))||smR p q)=true
  ·rw[hc];rfl
  rw[Bool.eq_false_iff.2 hc,if_neg (by decide),Nm F hp hP hq hQ hF]
  unfold jX
  have hVl:=Fo p q
  show(if(6:Int)<(List.length (([]++p.2.1)++q.2.1++[(BF,2,0,0,0,0)]):Int)then gE F p q (AE p q) true else gE F p q (AE p q) _)=_
  rw[List.nil_append]
  show(if(6:Int)<(List.length (BI p q):Int)then gE F p q (AE p q) true else gE F p q (AE p q) _)=_
  have hRl:=HE p q
  by_cases h6:6<pS p q+1
  ·rw[if_pos (by omega),if_pos (Or.inl h6)];rfl
  rw[if_neg (by omega)]
  by_cases h12:12<2*(p.2.2.length+q.2.2.length)
  ·rw[decide_eq_true (by omega),if_pos (Or.inr h12)];rfl
  rw[decide_eq_false (by omega),if_neg (by omega)]
  exact Ry F (AE p q) (by omega) (Lk hp hP hq hQ (by omega)) hF
 rw[bU (show jH F p.2.1 (ByteArray.mk #[116,117,114,110])=_ from Kx F p.2.1 BF (by omega) hF)]
 have hor:∀a b c d:Bool,(((a||b)||c)||d)=((b||c||a)||d):=by decide
 have hC:SI p q=(((decide (0<=Bw p.2.1 BF)||decide (0<=Bw q.2.1 BF))||((List.range p.2.1.length).any fun i:Nat=>decide (0<=Bw q.2.1 (at' p.2.1 (i:Int)).1)))||smR p q):=by unfold SI;exact hor _ _ _ _
 rw[hC]
 by_cases c2:0<=Bw p.2.1 BF
 ·rw[if_pos c2,decide_eq_true c2,hTop];simp only[Bool.true_or]
 rw[if_neg c2,decide_eq_false c2,Bool.false_or,bU (show jH F q.2.1 (ByteArray.mk #[116,117,114,110])=_ from Kx F q.2.1 BF (by omega) hF),hTop]
theorem AD.join {p q:PG} (hp:AD p) (hq:AD q):AD (FB p q).1:=by
 unfold FB
 split
 ·exact AN
 rename_i hpq
 have hP:=CZ (p:=p) (by cases h:Gc p with|true=>rfl|false=>exact absurd (Or.inl h) hpq)
 have hQ:=CZ (p:=q) (by cases h:Gc q with|true=>rfl|false=>exact absurd (Or.inr h) hpq)
 split
 ·exact AN
 rename_i s hs
 unfold Jn
 split
 ·exact AN
 split
 ·exact AN
 split
 ·exact AN
 rename_i hl
 have g:∀(p:PG) (m:cU),AD p->∀r∈BL p m p.2.2.length,r.2.1.length<=400∧r.2.2.length<=20∧∀s∈r.2.2,s.2.length<=400:=fun p m hp r hr=>by
  obtain⟨j,hj,rfl⟩:=List.mem_map.1 hr
  obtain⟨g1,g2,g3⟩:=hp.g _ (s_ (List.mem_range.1 hj))
  refine⟨Nat.le_trans (FH _ _) g1,?_,fun s hs=> ?_⟩
  ·show((at' p.2.2 (j:Int)).2.2.map _).length<=20
   rw[List.length_map];exact g2
  ·have hs:s∈(at' p.2.2 (j:Int)).2.2.map _:=hs
   obtain⟨s',hs',rfl⟩:=List.mem_map.1 hs
   exact Nat.le_trans (FH _ _) (g3 s' hs')
 refine⟨by show s.2.length<=20;omega,?_,fun r hr=> ?_⟩
 ·show(BL p _ _++BL q _ _).length<=20
  rw[List.length_append,jE,jE];omega
 ·rcases List.mem_append.1 hr with h|h
  ·exact g p _ hp r h
  ·exact g q _ hq r h
theorem AD.alt {p q:PG} (hp:AD p) (hq:AD q):AD (JP p q).1:=by
 unfold JP
 split
 ·exact AN
 rename_i hpq
 have hP:=CZ (p:=p) (by cases h:Gc p with|true=>rfl|false=>exact absurd (Or.inl h) hpq)
 have hQ:=CZ (p:=q) (by cases h:Gc q with|true=>rfl|false=>exact absurd (Or.inr h) hpq)
 split
 ·exact AN
 split
 ·exact AN
 rename_i hl
 by_cases hlim:(List.range (AE p q).length).all (fun k:Nat=>Ko (pS p q+1) (at' (AE p q) (k:Int)))=true
 case neg=>rw[if_neg hlim];exact AN
 rw[if_pos hlim]
 have g:∀(p:PG) (m:cU),VP p->AD p->∀r∈BL p m p.2.2.length,r.2.1.length<=200∧r.2.2.length<=6∧∀s∈r.2.2,s.2.length<=400:=fun p m hP hp r hr=>by
  obtain⟨j,hj,rfl⟩:=List.mem_map.1 hr
  have hR:=hP.rl j (List.mem_range.1 hj)
  obtain⟨g1,g2,g3⟩:=hp.g _ (s_ (List.mem_range.1 hj))
  obtain⟨x,hx,_⟩:=CR.1 hR.guard
  refine⟨Nat.le_trans (FH _ _) hx,?_,fun s hs=> ?_⟩
  ·show((at' p.2.2 (j:Int)).2.2.map _).length<=6
   rw[List.length_map];exact hR.n6
  ·have hs:s∈(at' p.2.2 (j:Int)).2.2.map _:=hs
   obtain⟨s',hs',rfl⟩:=List.mem_map.1 hs
   exact Nat.le_trans (FH _ _) (g3 s' hs')
 have gA:∀r∈jN p,_:=g p _ hP hp
 have gB:∀r∈lZ p q,_:=g q _ hQ hq
 refine⟨by show(BI p q).length<=20;rw[Fo];omega,by show(AE p q).length<=20;rw[HE];omega,fun r hr=> ?_⟩
 have hr:r∈AE p q:=hr
 unfold AE at hr
 simp only[List.mem_append,List.mem_map]at hr
 have t1:∀(t:Int) (o:Int) (r:RL),(∀s∈r.2.2,s.2.length<=400)->∀s∈r.2.2++[(t,[(o,0)])],s.2.length<=400:=fun t o r h s hs=>by
  rcases List.mem_append.1 hs with h'|h'
  ·exact h s h'
  ·rw[List.mem_singleton.1 h'];simp
 rcases hr with((⟨r',h,rfl⟩|⟨r',h,rfl⟩)|⟨r',h,rfl⟩)|⟨r',h,rfl⟩
 ·obtain⟨a,b,c⟩:=gA r' h
  exact⟨by show(own0 _++r'.2.1).length<=400;rw[List.length_append];show 3+_<=400;omega,by show(r'.2.2++_).length<=20;simp;omega,t1 _ _ _ c⟩
 ·obtain⟨a,b,c⟩:=gB r' h
  exact⟨by show(own1 _++r'.2.1).length<=400;rw[List.length_append];show 2+_<=400;omega,by show(r'.2.2++_).length<=20;simp;omega,t1 _ _ _ c⟩
 ·obtain⟨a,b,c⟩:=gA r' h
  exact⟨by show r'.2.1.length<=400;omega,by show r'.2.2.length<=20;omega,c⟩
 ·obtain⟨a,b,c⟩:=gB r' h
  exact⟨by show r'.2.1.length<=400;omega,by show r'.2.2.length<=20;omega,c⟩
theorem Ft (p q:PG):tE 1000 p q=some true:=by
 obtain⟨b,hb,hs⟩:=Ul 1000 p (Nat.le_refl _)
 obtain⟨b2,hb2,hs2⟩:=Ul 1000 q (Nat.le_refl _)
 have hK:kI 1000 p q true=some true:=rfl
 unfold tE
 rw[bU (show pB 1000 (p.1,p.2.1,p.2.2)=some b from hb)]
 cases b
 case true=>rw[if_pos rfl];exact hK
 rw[if_neg (by decide),bU (show pB 1000 (q.1,q.2.1,q.2.2)=some b2 from hb2)]
 cases b2
 case true=>exact hK
 have hp:=hs rfl
 have hq:=hs2 rfl
 unfold kI
 rw[if_neg (by decide),bU (Xk 1000 (p:=(p.1,p.2.1,p.2.2)) (q:=(q.1,q.2.1,q.2.2)) hp hq (Nat.le_refl _)),bU (WW 1000 (p:=(p.1,p.2.1,p.2.2)) (q:=(q.1,q.2.1,q.2.2)) hp hq (Nat.le_refl _)),
  bU (YK 1000 (p:=(p.1,p.2.1,p.2.2)) (q:=(q.1,q.2.1,q.2.2)) hp hq (Nat.le_refl _)),bU (YA 1000 (p:=(p.1,p.2.1,p.2.2)) (q:=(q.1,q.2.1,q.2.2)) hp hq (Nat.le_refl _)),bU (show zP 1000=some true from rfl),if_pos rfl,if_pos rfl,
  bU (RO 1000 (p:=((FB p q).1.1,(FB p q).1.2.1,(FB p q).1.2.2)) (hp.join hq) (Nat.le_refl _)),if_pos rfl,if_pos rfl,
  bU (RO 1000 (p:=((JP p q).1.1,(JP p q).1.2.1,(JP p q).1.2.2)) (hp.alt hq) (Nat.le_refl _))]
 rfl
end Go.Proofs.YthnplbmmlbnelaaGreat
end
section
namespace Go.Sx
open Go.RowKit Go.ChangeShapes Go.WideShapes Go.ChangeAt Go.Proofs Go.Joins Go.Deep
section
variable {H:Type} {enc:TypeId×Value->H} {P:Program} {w:World} {base:Nat} {spare:Nat->Bool} {held:Bool}
theorem Hm {t:TypeId} {fs:Array Field} {n:Nat} {cs:List Value} {x:DataW H×List MemPlace} (hs:P.underlying t=some (.struct fs)) (hone:oneCellFields P fs=true) (hC:P.cellsOf t=fs.size)
  (h:DataW.trod enc P w base spare held n t cs=some x):
  ∃(V:Nat->Value) (Y:Nat->DataW H×List MemPlace) (m:Nat),cs=(List.range fs.size).map V∧∀(i:Nat) (f:Field),fs[i]? = some f->DataW.trod enc P w base spare held m f.type [V i]=some (Y i):=by
 obtain⟨xs,m,_,_,hl,hlen,hg⟩:=DataW.trod_struct hs h
 refine⟨fun i=>cs.getD i undef,fun i=>xs.getD i (.nil,[]),m,?_,fun i f hi=> ?_⟩
 ·have h2:fs.size=cs.length:=by rw[<-hC,hl]
  rw[h2]
  exact Ey cs undef
 ·have hlt:i<fs.size:=(Array.getElem?_eq_some_iff.1 hi).1
  obtain⟨o,k⟩:=hone_of hone i f hi
  have g:=hg i f hi
  have hl':i<cs.length:=by rw[hl,hC];exact hlt
  rw[o,k,take1_drop _ _ undef hl']at g
  rw[g]
  have hx:i<xs.length:=by omega
  simp[hx]
theorem FG {α β:Type} {r:kJ α} {q:kJ β} {S:Nat->Prop} {v:Value} {cs:List Value} {x:α} {y:β} (h1:r.R w S [v] x) (h2:q.R w S cs y):(kJ.pair r q).R w S (v::cs) (x,y):=⟨[v],cs,rfl,h1,h2⟩
theorem MS {e:TypeId} (he:P.underlying e=some .string) (n:Nat) (cs:List Value) (x:DataW H×List MemPlace) (h:DataW.trod enc P w base spare held n e cs=some x):∃y:ByteArray,cs=[.string y]:=by
 obtain⟨y,hy,_⟩:=DataW.trod_string he h
 exact⟨y,hy⟩
theorem GU {e:TypeId} (he:P.underlying e=some .string) {n:Nat} {v:Value} {x:DataW H×List MemPlace} (h:DataW.trod enc P w base spare held n e [v]=some x):∃y:ByteArray,v = .string y:=by
 obtain⟨y,hy⟩:=MS he n _ x h
 exact⟨y,by simpa using hy⟩
theorem QY {α:Type} (r:kJ α) {t e:TypeId} (ht:P.underlying t=some (.slice e)) (hc:P.cellsOf e=r.sz)
  (hel:∀(n:Nat) (cs:List Value) (x:DataW H×List MemPlace),DataW.trod enc P w base spare held n e cs=some x->∃y:α,r.R w (fun _=>True) cs y)
  (n:Nat) (cs:List Value) (x:DataW H×List MemPlace) (h:DataW.trod enc P w base spare held n t cs=some x):∃y:List α,(JM r).R w (fun _=>True) cs y:=by
 obtain⟨⟨v,xs⟩,rfl,hxs⟩:=WH r ht hc hel n cs x h
 exact⟨xs,v,rfl,hxs⟩
end
end Go.Sx
end
