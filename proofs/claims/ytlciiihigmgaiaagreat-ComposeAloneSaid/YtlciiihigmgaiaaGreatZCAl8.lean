/- Models and proofs. Conditions: none. -/
import Derived.Test.YtlciiihigmgaiaaGreatZCAl7
import Derived.Test.YtlciiihigmgaiaaGreatZCAl6
import Derived.Test.YtlciiihigmgaiaaGreatZCAl2
import Derived.Test.YtlciiihigmgaiaaGreatZCAl1
import Derived.OpenShut
set_option linter.unusedVariables false
set_option linter.unusedSimpArgs false
set_option maxHeartbeats 4000000
set_option maxRecDepth 20000
section
namespace Go.Proofs.YtlciiihigmgaiaaGreat
open Go Go.Sx
section
theorem NM (f:Nat) (k:Int) (b:fO) (x:Int):qS f k b x=some (JI k b x):=by
 unfold qS pK JI
 by_cases h1:b.1<=x
 ·by_cases h2:x<=b.2
  ·simp only[h1,h2,and_self,if_true,decide_true]
  ·simp only[h1,h2,and_false,if_true,if_false,decide_false,Bool.false_eq_true]
   split
   ·rfl
   ·split<;>rfl
 ·simp only[h1,false_and,if_false,Bool.false_eq_true]
  split
  ·rfl
  ·split<;>rfl
theorem IP {S:x_} {vars:List AH} {c:bJ} {v:Nat} (l:List (Nat×E)) (st:bM):(l.foldl (ED S vars c v) st).length=st.length:=by
 induction l generalizing st with
 |nil=>rfl
 |cons s l ih=>rw[List.foldl_cons,ih];simp[ED]
theorem Mq {S:x_} {vars:List AH} {R:List RL} {c:bJ} {v:Nat} {i:Int}:(yY S vars R c v i).length=(at' c (v:Int)).length:=IP _ _
section
variable {p:Bm} {g:GR} {gr:Int} {R:List RL} {c:List (List Int)} {v:Nat}
theorem RR (hV:VG g) (hp:yG g p.2.1) (hc:tQ g p.2.1.length c) (hv:v<g.2.length) (hz:p.2.2.map iV=yS R) (hR:nR p.2.1.length R=true) {i:Nat} (hi:i<R.length):
  iJ 1000 (p,(p,g,gr,dY g),wL g p.2.1) c (v:Int) (i:Int)=some (yY (p,g,gr,dY g) p.2.1 R c v (i:Int)):=by
 have h24:=hV.n24
 have hcl:=hc.len
 have hrow:=hc.row v hv
 have hvl:=hp.len
 have hl:=BE hz
 have hpa:=Li hz hi
 obtain⟨-,hs20,hsets⟩:=Ln hR hi
 have htab:(wL g p.2.1).length=g.2.length:=by simp[wL]
 have htv:at' (wL g p.2.1) (v:Int)=AD g p.2.1 v:=wJ _ hv
 have hrt:(AD g p.2.1 v).length=p.2.1.length:=by simp[AD]
 have e2:(at' p.2.2 (i:Int)).2.2.2.map (fun s=>(s.1,s.2.2))=(at' R (i:Int)).2.map fun s=>((s.1:Int),s.2.ts):=congrArg Prod.snd hpa
 have hsl:(at' p.2.2 (i:Int)).2.2.2.length=(at' R (i:Int)).2.length:=by simpa using congrArg List.length e2
 unfold iJ
 dsimp only
 rw[eM (by omega),eM (by simp;omega),eM (by omega),List.nil_append]
 unfold yY
 let sets:=(at' R (i:Int)).2
 have:=dA (step:=gR 1000 (p,(p,g,gr,dY g),wL g p.2.1) c (v:Int) (i:Int)) (K:=some (sets.foldl (ED (p,g,gr,dY g) p.2.1 c v) (at' c (v:Int)))) sets.length (fun k=>((k:Int),(sets.take k).foldl (ED (p,g,gr,dY g) p.2.1 c v) (at' c (v:Int)))) (fun k ag hk=>by
  have hk2:k<(at' p.2.2 (i:Int)).2.2.2.length:=by rw[hsl];exact hk
  have ek:((at' (at' p.2.2 (i:Int)).2.2.2 (k:Int)).1,(at' (at' p.2.2 (i:Int)).2.2.2 (k:Int)).2.2)=(((at' sets (k:Int)).1:Int),(at' sets (k:Int)).2.ts):=by
   have:=congrArg (fun q=>q[k]?) e2
   simp only[List.getElem?_map,List.getElem?_eq_getElem hk2,List.getElem?_eq_getElem (show k<(at' R (i:Int)).2.length from hk),Option.map_some,Option.some.injEq]at this
   rw[eV hk2,eV hk];exact this
  have ek1:=congrArg Prod.fst ek
  have ek2:=congrArg Prod.snd ek
  dsimp only at ek1 ek2
  obtain⟨hs1,hs2⟩:=hsets (at' sets (k:Int)) (by rw[eV hk];exact List.getElem_mem hk)
  have hstl:((sets.take k).foldl (ED (p,g,gr,dY g) p.2.1 c v) (at' c (v:Int))).length=p.2.1.length:=by rw[IP,hrow]
  have hcell:at' (AD g p.2.1 v) ((at' sets (k:Int)).1:Int)=CJ g p.2.1 v (at' sets (k:Int)).1:=wJ _ hs1
  have hsk:sets.length<=20:=hs20
  unfold gR
  dsimp only
  rw[if_pos (by omega),eM (by omega),ek1,ek2,bE (show eH 1000 _ c (v:Int) _=_ from I_ (S:=(p,g,gr,dY g)) rfl hV hc hv hs2),eM (by omega),eM (by omega),htv,eM (by omega),hcell,bE (NM 1000 _ _ _),eM (by omega),eX (by omega),Int.toNat_natCast,Av hk,List.foldl_append]
  rfl) (fun ag=>by
  unfold gR jX
  dsimp only
  rw[if_neg (by show¬(sets.length:Int)<_;rw[hsl];exact Int.lt_irrefl _),List.take_length]) 1000 (by show(at' R (i:Int)).2.length<1000;omega)
 exact this
theorem Su (hV:VG g) (hp:yG g p.2.1) (hc:tQ g p.2.1.length c) (hz:p.2.2.map iV=yS R) (hR:nR p.2.1.length R=true) {t:Nat} (ht32:t<4294967296) (ht:∀v,t.testBit v=true->0<=lU (p,g,gr,dY g) R c v):
  iK 1000 (p,(p,g,gr,dY g),wL g p.2.1) c (t:Int)=some (uF (p,g,gr,dY g) p.2.1 R c t):=by
 have h24:=hV.n24
 have hcl:=hc.len
 have hvl:=hp.len
 unfold iK
 rw[bE (Rj c (by omega) (fun v hv=>by rw[hc.row v (by omega)];omega))]
 let f:Nat->List Int:=fun v=>if t.testBit v=true then yY (p,g,gr,dY g) p.2.1 R c v (lU (p,g,gr,dY g) R c v)else at' c (v:Int)
 let Q:Nat->List (List Int):=fun k=>(List.range k).map f++c.drop k
 have hQ:∀k,k<=c.length->(Q k).length=c.length:=fun k hk=>by simp[Q];omega
 have hset:∀k,k<c.length->(Q k).set k (f k)=Q (k+1):=fun k hk=>by
  show((List.range k).map f++c.drop k).set k (f k)=(List.range (k+1)).map f++c.drop (k+1)
  rw[List.set_append_right _ _ (by simp),List.length_map,List.length_range,Nat.sub_self,List.drop_eq_getElem_cons hk,List.set_cons_zero,List.range_succ,List.map_append,List.map_singleton,List.append_assoc]
  rfl
 have hkeep:∀k,k<c.length->f k=at' c (k:Int)->Q k=Q (k+1):=fun k hk hf=>by
  show(List.range k).map f++c.drop k=(List.range (k+1)).map f++c.drop (k+1)
  rw[List.range_succ,List.drop_eq_getElem_cons hk,List.map_append,List.map_singleton,hf,eV hk]
  simp
 rw[show c=Q 0 by simp[Q]]
 refine dA (step:=fF 1000 (p,(p,g,gr,dY g),wL g p.2.1) (Q 0) (t:Int)) (K:=some (uF (p,g,gr,dY g) p.2.1 R (Q 0) t)) c.length (fun k=>((k:Int),Q k)) (fun k ag hk=> ?_) (fun ag=> ?_) 1000 (by omega)
 ·rw[show Q 0=c by simp[Q]]
  unfold fF gT
  dsimp only
  rw[if_pos (by omega),eM (by omega),eX (by omega)]
  by_cases hb:t.testBit k=true
  ·obtain⟨i,hi,hil,_⟩:=(EB (p,g,gr,dY g) R c k).resolve_left (fun e=>by have:=ht k hb;omega)
   rw[if_pos ((JS (by omega) ht32).2 hb),bE (show dB 1000 _ c (k:Int)=_ from Lo hV hc (by omega) hz hR _),hi,bE (show iJ 1000 _ c (k:Int) (i:Int)=_ from RR hV hp hc (by omega) hz hR hil),eM (by rw[hQ k (by omega)];omega),Int.toNat_natCast]
   have:yY (p,g,gr,dY g) p.2.1 R c k (i:Int)=f k:=by simp only[f];rw[if_pos hb,hi]
   rw[this,hset k hk]
  ·rw[if_neg (fun q=>hb ((JS (by omega) ht32).1 q)),hkeep k hk (by simp only[f];rw[if_neg hb])]
 ·rw[show Q 0=c by simp[Q]]
  unfold fF jZ
  dsimp only
  rw[if_neg (by omega)]
  simp[Q,uF,f]
theorem MH {S:x_} {vars:List AH} {t:Nat}:(uF S vars R c t).length=c.length:=by simp[uF]
theorem PG {S:x_} {vars:List AH} {t:Nat} (hv:v<c.length):at' (uF S vars R c t) (v:Int)=if t.testBit v=true then yY S vars R c v (lU S R c v)else at' c (v:Int):=wJ _ hv
theorem tQ.step {S:x_} {vars:List AH} {t:Nat} {nv:Nat} {g:GR} (hc:tQ g nv c):tQ g nv (uF S vars R c t):=⟨by rw[MH,hc.len],fun v hv=>by
 rw[PG (by rw[hc.len];exact hv)]
 split
 ·rw[Mq,hc.row v hv]
 ·exact hc.row v hv⟩
end
end
section
def bW (p:Bm) (g:GR):x_:=(p,g,gI g g.2.length,dY g)
end
section
theorem GJ (S:x_) (R:List RL) (c:bJ) (v:Nat):(yR S R c).testBit v=(decide (v<S.2.1.2.length)&&decide (0<=lU S R c v)):=FW _ v _
theorem Ce {S:x_} (hV:VG S.2.1) (R:List RL) (c:bJ):yR S R c<4294967296:=La _ (by have:=hV.n24;omega)
end
section
def E.sh (ρ:Int->Int):E->E
 |lf o a=> .lf o (if o=5∨o=12 then ρ a else a)
 |un o x=> .un o (x.sh ρ)
 |ag o x=> .ag o (x.sh ρ)
 |bi o x y=> .bi o (x.sh ρ) (y.sh ρ)
 |ite x y z=> .ite (x.sh ρ) (y.sh ρ) (z.sh ρ)
theorem uS:∀e:E,e.sh id=e
 |.lf o a=>by simp[E.sh]
 |.un o x=>by rw[E.sh,uS x]
 |.ag o x=>by rw[E.sh,uS x]
 |.bi o x y=>by rw[E.sh,uS x,uS y]
 |.ite x y z=>by rw[E.sh,uS x,uS y,uS z]
def No (g:GR) (nv:Nat) (ρ:Int->Int) (c d:bJ):Prop:=∀u:Nat,u<g.2.length->∀a:Nat,a<nv->at' (at' c (u:Int)) (ρ (a:Int))=at' (at' d (u:Int)) (a:Int)
section
variable {p q:Bm} {g:GR} {c d:List (List Int)} {v nv:Nat} {ρ:Int->Int}
theorem yQ (hV:VG g) (hv:v<g.2.length) (h:No g nv ρ c d):∀(e:E) (b:Bool) (pt:Int),e.wf nv b=true->Ju b (row g v).length pt->(e.sh ρ).den (Ox (bW p g,c,(v:Int),[])) (row g v).length pt=e.den (Ox (bW q g,d,(v:Int),[])) (row g v).length pt
 | .lf o a, b, pt, hw, hp => by
  simp only[E.wf,Bool.and_eq_true,Bool.or_eq_true,decide_eq_true_eq]at hw
  obtain⟨⟨⟨w1,w2⟩,w3⟩,w4⟩:=hw
  simp only[E.sh,E.den]
  by_cases h5:o=5
  ·subst h5
   obtain⟨a1,a2⟩:0<=a∧a<(nv:Int):=w4.resolve_left (by decide)
   obtain⟨k,rfl⟩:∃k:Nat,a=k:=⟨a.toNat,by omega⟩
   rw[if_pos (.inl rfl)]
   exact h v hv k (by omega)
  ·by_cases h12:o=12
   ·subst h12
    obtain⟨a1,a2⟩:0<=a∧a<(nv:Int):=w4.resolve_left (by decide)
    obtain⟨k,rfl⟩:∃k:Nat,a=k:=⟨a.toNat,by omega⟩
    have hb:b=true:=w3.resolve_right (by decide)
    obtain⟨i,rfl,hi⟩:=hp hb
    obtain⟨u,hu,hue⟩:=hV.to hv hi
    have hue:(at' (at' g.2 (v:Int)) (i:Int)).1=(u:Int):=hue
    rw[if_pos (.inr rfl)]
    show at' (at' c ((at' (at' g.2 (v:Int)) (i:Int)).1)) (ρ (k:Int))=at' (at' d ((at' (at' g.2 (v:Int)) (i:Int)).1)) (k:Int)
    rw[hue]
    exact h u hu k (by omega)
   ·rw[if_neg (by omega)]
    unfold Ox
    simp only[if_neg h5,if_neg h12]
    rfl
 | .un o x,b,pt,hw,hp=>by
  simp only[E.wf,Bool.and_eq_true]at hw
  simp only[E.sh,E.den]
  rw[yQ hV hv h x b pt hw.2 hp]
 | .ag o x,b,pt,hw,hp=>by
  simp only[E.wf,Bool.and_eq_true]at hw
  simp only[E.sh,E.den]
  congr 1
  refine List.map_congr_left fun i hi=> ?_
  exact yQ hV hv h x true i hw.2 fun _=>⟨i,rfl,List.mem_range.1 hi⟩
 | .bi o x y,b,pt,hw,hp=>by
  simp only[E.wf,Bool.and_eq_true]at hw
  simp only[E.sh,E.den]
  rw[yQ hV hv h x b pt hw.1.2 hp,yQ hV hv h y b pt hw.2 hp]
 | .ite x y z,b,pt,hw,hp=>by
  simp only[E.wf,Bool.and_eq_true]at hw
  simp only[E.sh,E.den]
  rw[yQ hV hv h x b pt hw.1.1 hp,yQ hV hv h y b pt hw.1.2 hp,yQ hV hv h z b pt hw.2 hp]
theorem Ob (hV:VG g) (hv:v<g.2.length) (h:No g nv ρ c d) {e:E} (he:e.wf nv false=true):tW (bW p g) c v (e.sh ρ)=tW (bW q g) d v e:=
 yQ hV hv h e false (-1) he fun hb=>by cases hb
theorem FI (hV:VG g) (hv:v<g.2.length) (h:No g nv id c d) {e:E} (he:e.wf nv false=true):tW (bW p g) c v e=tW (bW q g) d v e:=by
 have:=Ob (p:=p) (q:=q) hV hv h he
 rwa[uS]at this
end
theorem CO (x:Int) (l:List Int):iG (x::l)=if nz x=true then 0 else if iG l<0 then -1 else iG l+1:=by
 unfold iG
 rw[List.findIdx?_cons]
 cases h:nz x with
 |true=>simp
 |false=>
  cases h2:l.findIdx? nz with
  |none=>simp
  |some i=>simp<;>omega
theorem AJ (l2:List Int):∀l1:List Int,iG (l1++l2)=if 0<=iG l1 then iG l1 else if 0<=iG l2 then(l1.length:Int)+iG l2 else -1
 | [] => by
  have:iG [] = -1:=rfl
  rw[List.nil_append,this,if_neg (by decide)]
  have h:iG l2 = -1∨0<=iG l2:=by
   unfold iG
   cases l2.findIdx? nz with
   |none=>exact .inl rfl
   |some i=>exact .inr (by simp)
  split
  ·simp
  ·exact h.resolve_right (by assumption)
 | x :: l1 => by
  have ih:=AJ l2 l1
  rw[List.cons_append,CO,CO,ih,List.length_cons]
  have h1 : -1<=iG l1:=by
   unfold iG
   cases l1.findIdx? nz with
   |none=>exact Int.le_refl _
   |some i=>simp<;>omega
  generalize iG l1=A at *
  generalize iG l2=B at *
  push_cast
  cases nz x with
  |true=>simp
  | false =>
   simp only[Bool.false_eq_true,if_false]
   by_cases a:0<=A
   ·simp only[if_pos a,if_neg (show¬A<0 by omega),if_pos (show 0<=A+1 by omega)]
   ·simp only[if_neg a,if_pos (show A<0 by omega),if_neg (show¬(0:Int) <= -1 by decide)]
    by_cases b:0<=B
    ·simp only[if_pos b]
     rw[if_neg (by omega)];omega
    ·simp only[if_neg b];rfl
section
variable {p q:Bm} {g:GR} {c d:List (List Int)} {v nv m:Nat} {ρ:Int->Int} {k:Nat->Nat} {R RA RB:List RL} {S:x_} {vars vars':List AH}
theorem MD (hV:VG g) (hv:v<g.2.length) (h:No g nv id c d) (hR:∀r∈R,r.1.wf nv false=true):lU (bW p g) R c v=lU (bW q g) R d v:=by
 unfold lU
 congr 1
 exact List.map_congr_left fun r hr=>FI hV hv h (hR r hr)
theorem Hi:lU S (RA++RB) c v=if 0<=lU S RA c v then lU S RA c v else if 0<=lU S RB c v then(RA.length:Int)+lU S RB c v else -1:=by
 unfold lU
 rw[List.map_append,AJ,List.length_map]
theorem Lt (l:List Int) (i:Nat) (u:Int):(l.set i u).take m=(l.take m).set i u:=by rw[List.take_set]
theorem Ib:∀(sets:List (Nat×E)) (st:List Int),(∀s∈sets,at' vars (s.1:Int)=at' vars' (s.1:Int)∧tW (bW p g) c v s.2=tW (bW q g) d v s.2)->(sets.foldl (ED (bW p g) vars c v) st).take m=sets.foldl (ED (bW q g) vars' d v) (st.take m)
 | [],st,_=>rfl
 |s::sets,st,h=>by
  rw[List.foldl_cons,List.foldl_cons,Ib sets _ fun s hs=>h s (List.mem_cons_of_mem _ hs)]
  obtain⟨h1,h2⟩:=h s List.mem_cons_self
  congr 1
  unfold ED
  rw[Lt,h2]
  unfold CJ
  rw[h1];rfl
theorem FM:∀(sets:List (Nat×E)) (st:List Int),(∀s∈sets,m<=s.1)->(sets.foldl (ED S vars c v) st).take m=st.take m
 | [],st,_=>rfl
 |s::sets,st,h=>by
  have h1:=h s List.mem_cons_self
  rw[List.foldl_cons,FM sets _ fun s hs=>h s (List.mem_cons_of_mem _ hs)]
  unfold ED
  rw[Lt]
  exact List.set_eq_of_length_le (by simp;omega)
def lX (m:Nat) (c:List (List Int)):List (List Int):=c.map (List.take m)
theorem Ak (hv:v<c.length):at' (lX m c) (v:Int)=(at' c (v:Int)).take m:=by
 rw[eV (by simpa [lX]using hv),eV hv]
 simp[lX]
theorem KA {l:List Int} {a:Nat} (h:a<m) (hl:m<=l.length):at' (l.take m) (a:Int)=at' l (a:Int):=by
 rw[eV (by simp;omega),eV (by omega)]
 simp
theorem MG (hc:tQ g nv c) (hm:m<=nv):No g m id c (lX m c):=fun u hu a ha=>by
 have hl:=hc.len
 have hr:=hc.row u hu
 rw[Ak (by omega),KA ha (by omega)];rfl
theorem Pt (hc:Qj g c vars) (hm:vars'.length=m) (hml:m<=vars.length) (hv:∀x:Nat,x<m->at' vars (x:Int)=at' vars' (x:Int)):Qj g (lX m c) vars':=by
 have hl:=hc.len
 refine⟨by simpa [lX]using hl,fun v hv2=> ?_,fun v hv2 x hx=> ?_⟩
 ·have:=hc.row v hv2
  rw[Ak (by omega),List.length_take];omega
 ·have hr:=hc.row v hv2
  have hk:=hc.ok v hv2 x (by omega)
  rw[<-hv x (by omega)]
  show lo g (at' vars (x:Int)) v<=at' (at' (lX m c) (v:Int)) (x:Int)∧at' (at' (lX m c) (v:Int)) (x:Int)<=hi g (at' vars (x:Int)) v
  rw[Ak (by omega),KA (by omega) (by omega)]
  exact hk
theorem PH (hV:VG g) (hc:tQ g vars.length c) (hm:m<=vars.length) (hvs:∀x:Nat,x<m->at' vars (x:Int)=at' vars' (x:Int)) (hA:∀r∈RA,r.1.wf m false=true∧∀s∈r.2,s.1<m∧s.2.wf m false=true) (hB:∀r∈RB,∀s∈r.2,m<=s.1) {t:Nat} (ht:∀v,t.testBit v=true->v<g.2.length∧0<=lU (bW p g) (RA++RB) c v):
  lX m (uF (bW p g) vars (RA++RB) c t)=uF (bW q g) vars' RA (lX m c) (t &&& yR (bW q g) RA (lX m c)):=by
 have hl:=hc.len
 have hs:=MG hc hm
 unfold uF
 show((List.range c.length).map _).map (List.take m)=(List.range (lX m c).length).map _
 rw[List.map_map,show(lX m c).length=c.length by simp[lX]]
 refine List.map_congr_left fun v hv=> ?_
 have hv:v<g.2.length:=by have:=List.mem_range.1 hv;omega
 have hrl:lU (bW p g) RA c v=lU (bW q g) RA (lX m c) v:=MD hV hv hs fun r hr=>(hA r hr).1
 show List.take m (if t.testBit v=true then yY (bW p g) vars (RA++RB) c v (lU (bW p g) (RA++RB) c v)else at' c (v:Int))=if(t &&& yR (bW q g) RA (lX m c)).testBit v=true then yY (bW q g) vars' RA (lX m c) v (lU (bW q g) RA (lX m c) v)else at' (lX m c) (v:Int)
 rw[Nat.testBit_and,GJ,decide_eq_true (show v<(bW q g).2.1.2.length from hv),Bool.true_and,Ak (by omega)]
 by_cases hb:t.testBit v=true
 ·rw[if_pos hb,hb,Bool.true_and]
  have h0:=(ht v hb).2
  rw[Hi]at h0 ⊢
  rw[hrl]at h0 ⊢
  by_cases ha:0<=lU (bW q g) RA (lX m c) v
  ·rw[if_pos ha,decide_eq_true ha,if_pos rfl]
   obtain⟨i,h1,h2,-⟩:=(EB (bW q g) RA (lX m c) v).resolve_left (fun e=>by omega)
   rw[h1]
   unfold yY
   have e:at' (RA++RB) (i:Int)=at' RA (i:Int):=by rw[eV (by simp;omega),eV h2,List.getElem_append_left h2]
   rw[e,Ak (by omega)]
   refine Ib _ _ fun s hs'=> ?_
   have:=(hA _ (by rw[eV h2];exact List.getElem_mem h2)).2 s hs'
   exact⟨hvs _ this.1,FI hV hv hs this.2⟩
  ·rw[if_neg ha]at h0 ⊢
   rw[decide_eq_false ha,if_neg (show¬(false=true) by decide)]
   by_cases hb0:0<=lU (bW p g) RB c v
   ·rw[if_pos hb0]
    obtain⟨i,h1,h2,-⟩:=(EB (bW p g) RB c v).resolve_left (fun e=>by omega)
    rw[h1]
    unfold yY
    have e:at' (RA++RB) ((RA.length:Int)+(i:Int))=at' RB (i:Int):=by
     rw[show(RA.length:Int)+(i:Int)=((RA.length+i:Nat):Int) by push_cast;rfl,eV (by simp;omega),eV h2,List.getElem_append_right (by omega)]
     congr 1;omega
    rw[e]
    exact FM _ _ fun s hs'=>hB _ (by rw[eV h2];exact List.getElem_mem h2) s hs'
   ·rw[if_neg hb0]at h0
    exact absurd h0 (by decide)
 ·have hb:t.testBit v=false:=by simpa using hb
  rw[hb,if_neg (by decide),Bool.false_and,if_neg (by decide)]
end
end
section
def gUp:E:= .bi 41 (.bi 37 (.lf 5 0) (.lf 1 3)) (.ag 20 (.bi 40 (.lf 12 0) (.lf 5 0)))
def eUp:E:= .bi 33 (.lf 5 0) (.lf 1 1)
def gFl:E:= .ag 21 (.bi 35 (.lf 12 0) (.lf 5 0))
def eFl:E:= .un 19 (.lf 5 0)
def RU:List RL:=[(gUp,[(0,eUp)])]
def s1 (a:Int):Int:=a+1
theorem So:nR 1 RU=true:=by decide +kernel
section
variable {p q r:Bm} {g:GR} {c:List (List Int)} {v:Nat}
def Ks:List AH:=[(ByteArray.mk #[120],1,0,3,0,0)]
end
end
section
def zT (vars:List AH):Bool:=decide (vars.length<=20)&&vars.all fun x=>(decide (x.2.1=1)||decide (x.2.1=2)||decide (x.2.1=3))&&decide (x.2.2.2.2.1=0)&&decide (x.2.2.2.2.2=0)&&decide (-1000<=x.2.2.1)&&decide (x.2.2.1<=x.2.2.2.1)&&decide (x.2.2.2.1<=1000)
theorem BS {vars:List AH} (h:zT vars=true) {x:Nat} (hx:x<vars.length):((at' vars (x:Int)).2.1=1∨(at' vars (x:Int)).2.1=2∨(at' vars (x:Int)).2.1=3)∧(at' vars (x:Int)).2.2.2.2.1=0∧(at' vars (x:Int)).2.2.2.2.2=0 ∧ -1000<=(at' vars (x:Int)).2.2.1∧(at' vars (x:Int)).2.2.1<=(at' vars (x:Int)).2.2.2.1∧(at' vars (x:Int)).2.2.2.1<=1000:=by
 simp only[zT,Bool.and_eq_true,List.all_eq_true,decide_eq_true_eq,Bool.or_eq_true]at h
 have:=h.2 (at' vars (x:Int)) (by rw[eV hx];exact List.getElem_mem hx)
 obtain⟨⟨⟨⟨⟨a,b⟩,c⟩,d⟩,e⟩,f⟩:=this
 exact⟨by rcases a with(a|a)|a<;>simp[a],b,c,d,e,f⟩
theorem wN {g:GR} {vars:List AH} (h:zT vars=true):yG g vars:=by
 refine⟨?_,fun x hx=> ?_,fun x hx=>(BS h hx).1,fun x hx hk=> ?_⟩
 ·simp only[zT,Bool.and_eq_true,decide_eq_true_eq]at h
  exact h.1
 ·obtain⟨_,a,b,c,d,e⟩:=BS h hx
  unfold vX
  omega
 ·obtain⟨_,a,b,c,d,e⟩:=BS h hx
  unfold lo hi
  rw[hk,a,b,if_neg (by decide),if_neg (by decide),if_neg (by decide),if_neg (by decide),Int.zero_mul,Int.zero_mul]
  omega
theorem LC {vars:List AH} (h:zT vars=true):∀x,x<vars.length->vX (at' vars (x:Int)) ∧ -100000<=(at' vars (x:Int)).2.2.1∧(at' vars (x:Int)).2.2.1<=(at' vars (x:Int)).2.2.2.1:=fun x hx=>by
 obtain⟨_,a,b,c,d,e⟩:=BS h hx
 unfold vX
 omega
def RS:List RL:=[(.bi 36 (.lf 5 1) (.bi 32 (.lf 5 0) (.lf 1 3)),[(1,.bi 32 (.lf 5 0) (.lf 1 3))])]
def Fi:List AH:=Ks++[(ByteArray.mk #[121],1,0,2,0,0)]
def RP:List RL:=[(.bi 36 (.lf 5 0) (.ag 23 (.lf 12 1)),[(0,.ag 23 (.lf 12 1))]),(.bi 36 (.lf 5 1) (.lf 10 0),[(1,.lf 10 0)])]
def Kr:List AH:=[(ByteArray.mk #[112],3,0,0,0,0),(ByteArray.mk #[122],2,0,0,0,0)]
def sh2 (a:Int):Int:=a+2
def RW:List RL:=[(gFl.sh sh2,[(2,eFl.sh sh2)])]
def Fj:List AH:=Kr++[(ByteArray.mk #[119],2,0,0,0,0)]
theorem okU:zT Ks=true:=by decide
theorem okS:zT Fi=true:=by decide
theorem okP:zT Kr=true:=by decide
theorem okW:zT Fj=true:=by decide
theorem Sm:nR 2 (RU++RS)=true:=by decide +kernel
theorem Sk:nR 2 RP=true:=by decide +kernel
theorem Sp:nR 3 (RP++RW)=true:=by decide +kernel
def JZ (m:Nat) (RA RB:List RL):Bool:=(RA.all fun r=>r.1.wf m false&&r.2.all fun s=>decide (s.1<m)&&s.2.wf m false)&&RB.all fun r=>r.2.all fun s=>decide (m<=s.1)
theorem Uz {m:Nat} {RA RB:List RL} (h:JZ m RA RB=true):∀r∈RA,r.1.wf m false=true∧∀s∈r.2,s.1<m∧s.2.wf m false=true:=fun r hr=>by
 simp only[JZ,Bool.and_eq_true,List.all_eq_true,decide_eq_true_eq]at h
 exact h.1 r hr
theorem UA {m:Nat} {RA RB:List RL} (h:JZ m RA RB=true):∀r∈RB,∀s∈r.2,m<=s.1:=fun r hr s hs=>by
 simp only[JZ,Bool.and_eq_true,List.all_eq_true,decide_eq_true_eq]at h
 exact h.2 r hr s hs
theorem XX:JZ 1 RU RS=true:=by decide +kernel
theorem XY:JZ 2 RP RW=true:=by decide +kernel
end
end Go.Proofs.YtlciiihigmgaiaaGreat
end
section
namespace Go.Proofs.YtlciiihigmgaiaaGreat
open Go.Sx
section
def nN (U:Nat) (p0:tJ) (p1:gA) (p2:bJ):Option (Bool):=
 Option.bind (jP U ((p0.1,p0.2.1,p0.2.2)) ((p1.1,p1.2)) p2) fun r3=>(some (decide (r3=(0:Int))))
theorem TM:aZ Tryz.prog 32:=Tryz.call32
theorem EH (U:Nat) {p0:tJ} {p1:gA} {p2:bJ} (v0:Value)  (v1:Value)  (v2:Value)  (v3:Value)  (z4:oY)  (v5:Value)  (z6:pH) (r:Bool) (h:nN U p0 p1 p2=some r):
  bA Tryz.prog 32 #[Value.agg #[vS (p0.1),v0,v1],Value.agg #[v2,v3],v5] [Sl aH v0 p0.2.1,Sl aC v1 p0.2.2,PF (Value.agg #[vS p0.1,v0,v1]),Sl bP v2 p1.1,S2 bH v3 z4 p1.2,S2 bP v5 z6 p2] (fun x:Unit=>vB (r)) (fun x l=>l) (fun _ l=>l):=by
 refine bA.of Tryz.func32 rfl Tryz.ntmps32 rfl fun c=>?_
 refine aS<|aI (aK.box (cs:=[vS (p0.1),v0,v1]) rfl rfl) rfl fun b1=>aI (aK.box (cs:=[v2,v3]) rfl rfl) rfl fun b2=>aE rfl<|aN<|aS<|dQ 1 rfl<|dQ 0 rfl<|aA rfl<|fE h fun r3 w4 h=>aI (aK.callQ NG (zP U v0 v1 v2 v3 z4 v5 z6 r3 w4) rfl (qC [0,1,2,3,4,5] rfl)) rfl fun x5=>cN rfl<|aE rfl<|aN<|aU ?_
 cases h
 exact wO rfl
end
section
def sS (U:Nat) (p0:tJ) (p1:gA) (p2:bJ) (a16:d_×Int×bJ):Option (Int):=
 Option.bind (dO U ((((p0.1,p0.2.1,p0.2.2)),((((p0.1,p0.2.1,p0.2.2)),((p1.1,p1.2)),a16.2.1,a16.2.2)),a16.1)) p2) fun r18=>(some (r18))
def pT (U:Nat) (p0:tJ) (p1:gA) (p2:bJ) (a28:rI):Option (Int):=
 Option.bind (gB U ((p0.1,p0.2.1,p0.2.2)) ((p1.1,p1.2))) fun r30=>(sS U p0 p1 p2 (r30,a28.1,a28.2))
def mM (U:Nat) (p0:tJ) (p1:gA) (p2:bJ) (a44:rI):Option (Int):=
 pT U p0 p1 p2 (a44.1,a44.2)
def pU (p1:gA) (a51:Int×Int×bJ) (ag50:(Int×Int×bJ)->Option (Int)) (a57:bJ):Option (Int):=
 ag50 ((wI .i64 (a51.1+(1:Int))),(max a51.2.1 (at' p1.1 a51.1)),a57)
def kJ (U:Nat) (p1:gA) (a51:Int×Int×bJ) (ag50:(Int×Int×bJ)->Option (Int)) (a65:rI) (ag64:(Int×bJ)->Option (Int)):Option (Int):=
 if a65.1<(List.length (at' p1.2 a51.1):Int)then(ck (0<=a65.1∧a65.1<(List.length (at' p1.2 a51.1):Int)) (ck (0<=a51.1∧a51.1<(List.length a65.2:Int)) (Option.bind (jO U ((p1.1,p1.2)) ((at' (at' p1.2 a51.1) a65.1).1) a51.1) fun r74=>(ck ((List.length (at' a65.2 a51.1):Int)+(List.length ([r74]):Int)<=1099511627) (ck (0<=a51.1∧a51.1<(List.length (List.set a65.2 (Int.toNat a51.1) ((at' a65.2 a51.1)++[r74])):Int)) (ag64 ((wI .i64 (a65.1+(1:Int))),(List.set a65.2 (Int.toNat a51.1) ((at' a65.2 a51.1)++[r74])))))))))else(pU p1 a51 ag50 (a65.2))
def gK (U:Nat) (p0:tJ) (p1:gA) (p2:bJ) (a51:Int×Int×bJ) (ag50:(Int×Int×bJ)->Option (Int)):Option (Int):=
 if a51.1<(List.length p1.2:Int)then(ck (0<=a51.1∧a51.1<(List.length p1.2:Int)) (ck (0<=a51.1∧a51.1<(List.length p1.1:Int)) (bU (kJ U p1 a51 ag50) U ((0:Int),a51.2.2))))else(mM U p0 p1 p2 (a51.2.1,a51.2.2))
def gC (U:Nat) (p0:tJ) (p1:gA) (p2:bJ):Option (Int):=
 Option.bind (nN U ((p0.1,p0.2.1,p0.2.2)) ((p1.1,p1.2)) p2) fun r3=>(if(!r3)=true then(some (0:Int))else(ck (0<=(List.length p1.2:Int)∧(List.length p1.2:Int)<=1099511627) (bU (gK U p0 p1 p2) U ((0:Int),(0:Int),(List.replicate (Int.toNat (List.length p1.2:Int)) ([]:bM))))))
theorem GA:aZ Tryz.prog 11:=Tryz.call11
theorem qY (U:Nat) {p0:tJ} {p1:gA} {p2:bJ} (v0:Value)  (v1:Value)  (v2:Value)  (v3:Value)  (z4:oY)  (v5:Value)  (z6:pH) (r:Int) (h:gC U p0 p1 p2=some r):
  bA Tryz.prog 11 #[Value.agg #[vS (p0.1),v0,v1],Value.agg #[v2,v3],v5] [Sl aH v0 p0.2.1,Sl aC v1 p0.2.2,PF (Value.agg #[vS p0.1,v0,v1]),Sl bP v2 p1.1,S2 bH v3 z4 p1.2,S2 bP v5 z6 p2] (fun x:Unit=>vU (r)) (fun x l=>l) (fun _ l=>l):=by
 refine bA.of Tryz.func11 rfl Tryz.ntmps11 rfl fun c=>?_
 refine aS<|aI (aK.box (cs:=[vS (p0.1),v0,v1]) rfl rfl) rfl fun b1=>aI (aK.box (cs:=[v2,v3]) rfl rfl) rfl fun b2=>aE rfl<|aN<|aM<|aS<|dQ 1 rfl<|dQ 0 rfl<|aA rfl<|fE h fun r3 w4 h=>aI (aK.callQ TM (EH U v0 v1 v2 v3 z4 v5 z6 r3 w4) rfl (qC [0,1,2,3,4,5] rfl)) rfl fun x5=>aD (DJ rfl) rfl<|aN ?_
 refine Cb h rfl (fun _ h=>?_) fun _ h=>?_
 ·refine aS<|aE rfl<|aN<|aU<|aJ ?_
  cases h
  exact wO rfl
 refine dV<|aS<|dQ 1 rfl<|dQ 0 rfl<|Jn (A:=d_×Int×bJ) (B:=Nat×Nat×Value×List Value×Value×List Value) (vs:=[Value.agg #[vS (p0.1),v0,v1],Value.agg #[v2,v3]]) (fun a16=>sS U p0 p1 p2 a16=some r) (fun a16 b17=>vP b17.1) (fun a16 b17=>[dD b17.1 [vS (p0.1),v0,v1,vP b17.2.1,b17.2.2.1] 117,Ar dZ.raw b17.2.2.1 b17.2.2.2.1,i_ bX b17.2.2.2.1 a16.1,dD b17.2.1 [vS (p0.1),v0,v1,v2,v3,vI (a16.2.1),b17.2.2.2.2.1] 161,Ar dZ.raw b17.2.2.2.2.1 b17.2.2.2.2.2,i_ cU b17.2.2.2.2.2 a16.2.2]) (fun a16 b17=>[Sl aH v0 p0.2.1,Sl aC v1 p0.2.2,PF (Value.agg #[vS p0.1,v0,v1]),Sl bP v2 p1.1,S2 bH v3 z4 p1.2,S2 bP v5 z6 p2]) (AF.fn (show aZ Tryz.prog 33 from Tryz.call33) rfl) Tryz.func33 rfl Tryz.ntmps33 rfl rfl ?_ ?_
 ·refine aS<|aI (aK.box (cs:=[vS (p0.1),v0,v1]) rfl rfl) rfl fun b21=>aI (aK.box (cs:=[v2,v3]) rfl rfl) rfl fun b22=>aE rfl<|aN<|aM ?_
  refine JR.start [0,0,0,6,0,0,62,127,255,511] 7 mixedOrders (by decide +kernel) ?_
  refine JR.open (by exact rfl) ?_
  refine kB 1 rfl<|kB 1 rfl<|kB 0 rfl<|Kw (A:=rI) (B:=Nat×Value×List Value) (vs:=[Value.agg #[vS (p0.1),v0,v1],Value.agg #[v2,v3]]) (fun a28=>pT U p0 p1 p2 a28=some r) (fun a28 b29=>vP b29.1) (fun a28 b29=>[dD b29.1 [vS (p0.1),v0,v1,v2,v3,vI (a28.1),b29.2.1] 161,Ar dZ.raw b29.2.1 b29.2.2,i_ cU b29.2.2 a28.2,dD b22 [v2,v3] 28,dD b21 [vS (p0.1),v0,v1] 33]) (fun a28 b29=>[Sl aH v0 p0.2.1,Sl aC v1 p0.2.2,PF (Value.agg #[vS p0.1,v0,v1]),Sl bP v2 p1.1,S2 bH v3 z4 p1.2,S2 bP v5 z6 p2]) rfl rfl rfl (AF.fn (show aZ Tryz.prog 62 from Tryz.call62) rfl) Tryz.func62 rfl Tryz.ntmps62 rfl rfl (fun _ _=>(uQ [([4],[])] rfl)) ?_ ?_
  ·refine aS<|aI (aK.box (cs:=[vS (p0.1),v0,v1]) rfl rfl) rfl fun b35=>aI (aK.box (cs:=[v2,v3]) rfl rfl) rfl fun b36=>aE rfl<|aN<|aM ?_
   refine JR.start [0,0,0,4,12,28,63,127,255] 6 mixedOrders (by decide +kernel) ?_
   refine JR.open (by exact rfl) ?_
   refine kB 1 rfl<|kB 0 rfl<|cQ rfl<|kF 0 rfl<|bO rfl .nil (oF 4 rfl) (jI rfl (aG.fact 0 rfl) rfl) aO.z<|fL h fun j37 h=>JR.stp (nG cU (Int.toNat (List.length p1.2:Int)))<|JR.loud rfl rfl rfl (pZ (e:=dZ.raw) (mG) rfl rfl rfl rfl j37 rfl rfl rfl) rfl (fun u38=>(uQ [([2],[]),([3],[])] rfl)) fun u38=>cR 6 rfl rfl<|b_ (Know.one (aG.sl (bD (i:=0) (j:=1) rfl rfl eL))) fun ho39=>?_
   refine aD (Gv (r:=Value.agg #[vS (p0.1),v0,v1,v2,v3,vI (0:Int),u38]) rfl rfl rfl (by intro w;simp[Instr.build,Instr.fill,gZ,fT,eW,g_,hJ,fU,jC,mT ho39])) rfl ?_
   refine aI (aK.box (cs:=[vS (p0.1),v0,v1,v2,v3,vI (0:Int),u38]) rfl rfl) rfl fun b40=>aE rfl<|aN<|aM<|yX (B:=iN) (fun a44=>mM U p0 p1 p2 a44=some r) (fun a44 b45=>[(5,vP b40)]) (fun a44 b45=>[dD b40 [vS (p0.1),v0,v1,v2,v3,vI (a44.1),u38] 161,Ar dZ.raw u38 b45,i_ cU b45 a44.2,dD b22 [v2,v3] 28,dD b21 [vS (p0.1),v0,v1] 33]) ?_ ?_
   ·refine aS<|cH rfl<|gE 3 rfl<|aD (jI rfl (aG.fact 4 rfl) rfl) rfl<|aA rfl<|aN<|aX<|gG (B:=iN) (gK U p0 p1 p2) (fun a51 b52=>[(3,vP b36),(5,vP b40),(19,v3),(20,vI (List.length p1.2:Int)),(21,vI (a51.1))]) (fun a51 b52=>[dD b40 [vS (p0.1),v0,v1,v2,v3,vI (a51.2.1),u38] 161,Ar dZ.raw u38 b52,i_ cU b52 a51.2.2,dD b36 [v2,v3] 28,dD b22 [v2,v3] 28,dD b21 [vS (p0.1),v0,v1] 33]) ((0:Int),(0:Int),(List.replicate (Int.toNat (List.length p1.2:Int)) ([]:bM))) (List.replicate (Int.toNat (List.length p1.2:Int)) (mG)) h SF (bF.ix [0,1,2,3,5,6] rfl rfl) ?_
    intro k53 a51 b52 h
    refine aS<|dR rfl<|aN<|aM ?_
    refine fM h rfl (fun h=>?_) fun h=>?_
    ·refine dV<|aM<|yX (B:=iN) (fun a57=>pU p1 a51 (bU (gK U p0 p1 p2) k53) a57=some r) (fun a57 b58=>[(3,vP b36),(5,vP b40),(19,v3),(20,vI (List.length p1.2:Int)),(21,vI (a51.1))]) (fun a57 b58=>[dD b40 [vS (p0.1),v0,v1,v2,v3,vI (max a51.2.1 (at' p1.1 a51.1)),u38] 161,Ar dZ.raw u38 b58,i_ cU b58 a57,dD b36 [v2,v3] 28,dD b22 [v2,v3] 28,dD b21 [vS (p0.1),v0,v1] 33]) ?_ ?_
     ·refine aX<|aS<|aA rfl<|fL h fun j59 h=>aD (cX rfl rfl (aG.fact 4 rfl) rfl rfl j59) rfl<|aD (dH rfl (aG.fact 4 rfl) rfl rfl j59) rfl<|aE rfl<|aE rfl<|aN<|aM ?_
      refine JR.start [0,0,2,6,14,0,32,0,224,480,1022,2047,4095,8191] 11 mixedOrders (by decide +kernel) ?_
      refine JR.open (by exact rfl) ?_
      refine bL rfl<|bL rfl<|oJ rfl (bK rfl)<|cQ rfl<|kF 0 rfl<|cQ rfl<|kF 3 rfl<|bL rfl<|fL h fun j60 h=>bO rfl .nil (oF 3 rfl) (bN rfl rfl (aG.fact 0 rfl) rfl rfl j60) aO.z<|bO rfl .nil (oF 3 rfl) (dM rfl (aG.fact 0 rfl) rfl rfl rfl fC j60) aO.z<|oJ rfl (Fz rfl rfl)<|cR 11 rfl rfl<|aD (bK rfl) rfl<|cH rfl<|Bj 0 rfl rfl rfl rfl rfl rfl<|aN<|aS<|aA rfl<|aD (mV rfl (aG.el (aG.fact 4 rfl) j59.1 j59.2) rfl) rfl<|aA rfl<|aN<|aX<|gG (B:=iN) (kJ U p1 a51 (bU (gK U p0 p1 p2) k53)) (fun a65 b66=>[(3,vP b36),(5,vP b40),(6,vI (a51.1)),(19,v3),(20,vI (List.length p1.2:Int)),(21,vI (a51.1)),(39,(at' z4 a51.1).1),(40,vI (List.length (at' p1.2 a51.1):Int)),(41,vI (a65.1))]) (fun a65 b66=>[dD b40 [vS (p0.1),v0,v1,v2,v3,vI (max a51.2.1 (at' p1.1 a51.1)),u38] 161,Ar dZ.raw u38 b66,i_ cU b66 a65.2,dD b36 [v2,v3] 28,dD b22 [v2,v3] 28,dD b21 [vS (p0.1),v0,v1] 33]) ((0:Int),a51.2.2) (b52) h SF (bF.refl _) ?_
      intro k67 a65 b66 h
      refine aS<|dR rfl<|aN<|aM ?_
      refine fM h rfl (fun h=>?_) fun h=>?_
      ·refine dV<|aM<|aX<|aS<|fL h fun j69 h=>aD (bN rfl rfl (aG.el (aG.fact 4 rfl) j59.1 j59.2) rfl rfl j69) rfl<|aD (iS (cs:=[vI ((at' (at' p1.2 a51.1) a65.1).1),vI ((at' (at' p1.2 a51.1) a65.1).2)]) rfl (aG.el (aG.fact 4 rfl) j59.1 j59.2) bG rfl rfl rfl rfl j69) rfl<|aI (aK.alloc (cs:=Qq) rfl rfl) rfl fun b70=>bZ 0 (vs:=[vI ((at' (at' p1.2 a51.1) a65.1).1),vI ((at' (at' p1.2 a51.1) a65.1).2)]) rfl rfl rfl rfl rfl rfl<|aN ?_
       refine JR.start [0,1,3,7,0,0,32,96,224,0,992,2016,0,0,8192,0,61440,126976,262112,524287,1048575] 19 mixedOrders (by decide +kernel) ?_
       refine JR.open (by exact rfl) ?_
       refine bL rfl<|oJ rfl (bK rfl)<|cQ rfl<|kF 1 rfl<|bL rfl<|bL rfl<|oJ rfl (bK rfl)<|cQ rfl<|kF 1 rfl<|bL rfl<|fL h fun j71 h=>dW (cD 3 rfl) fun hl72=>?_
       refine bO rfl (bF.cons 2 rfl .nil) .nil (fK 0 rfl rfl rfl rfl rfl j71.1 (by have q1:=j71.2;have q2:=hl72;(try simp only[List.length_set]at q1);(try simp only[List.length_set]at q2);(try simp only[List.length_set]);omega)) aO.z ?_
       refine dW (cD 3 rfl) fun hl73=>bO rfl (bF.cons 2 rfl .nil) .nil (jB 0 rfl rfl hl73 rfl rfl j71) aO.z<|kB 4 rfl<|cQ rfl<|kF 0 rfl<|bL rfl<|fE h fun r74 w75 h=>JR.loud rfl rfl rfl (aK.callQ KD (zN U v2 v3 z4 r74 w75) rfl (qC [3,4] rfl)) rfl (fun x76=>(uQ [([2],[]),([2],[]),([1],[]),([1],[])] rfl)) fun x76=>JR.loud rfl rfl rfl (eN (e:=cU) ([r74]) [(0,vI (r74))] rfl rfl rfl rfl (wA (vI (r74)) rfl) rfl rfl rfl) rfl (fun u77=>(uQ [([3],[]),([3],[]),([2],[]),([2],[])] rfl)) fun u77=>fL h fun j79 h=>JR.loud rfl rfl rfl (iR 4 eL rfl rfl rfl (cC (aG.res 0 rfl) eL) rfl rfl rfl rfl j71 j79 rfl) rfl (fun u78=>(uQ [([2],[])] rfl)) fun u78=>cR 19 rfl rfl<|fL h fun j80 h=>b_ (cD 4 rfl) fun hl81=>?_
       refine aD (fK 3 rfl rfl rfl rfl rfl j80.1 (by have q1:=j80.2;have q2:=hl81;(try simp only[List.length_set]at q1);(try simp only[List.length_set]at q2);(try simp only[List.length_set]);omega)) rfl ?_
       refine b_ (qE 4 (k:=a51.1) rfl ⟨j80.1,by first|exact j80.2|simpa using j80.2⟩) fun ho82=>?_
       refine jH 3 4 ⟨j80.1,by first|exact j80.2|simpa using j80.2⟩ rfl rfl rfl rfl rfl (by simp) ho82 rfl ?_
       refine fJ<|qB<|aQ<|dG rfl<|aA rfl<|aN ?_
       exact mH ((wI .i64 (a65.1+(1:Int))),(List.set a65.2 (Int.toNat a51.1) ((at' a65.2 a51.1)++[r74]))) (List.set b66 (Int.toNat a51.1) u78) h SF (bF.ix [2,3,4,5,6,7] rfl rfl) (aF.refl _ _)
      refine yB<|lZ<|lZ<|CI<|qB ?_
      exact lW (a65.2) (b66) h SF rfl
     intro a57 b58 h
     unfold pU at h
     refine aQ<|dG rfl<|aA rfl<|aN ?_
     exact Bf ((wI .i64 (a51.1+(1:Int))),(max a51.2.1 (at' p1.1 a51.1)),a57) (b58) h SF rfl
    refine h_ ?_
    exact dL (a51.2.1,a51.2.2) (b52) h SF (bF.ix [0,1,2,4,5] rfl rfl) (aF.refl _ _)
   intro a44 b45 h
   unfold mM at h
   refine aS<|aA rfl<|aE rfl<|aN<|aU ?_
   exact DD (a44.1,a44.2) (b40,u38,b45) h (.inl rfl) (Qk.r1 rfl (RV.tmp rfl)) rfl (bF.refl _) (aF.refl _ _)
  intro a28 b29 h
  unfold pT at h
  refine bO rfl (bF.cons 4 rfl .nil) .nil (p_ 0 rfl rfl rfl rfl) (aO.h (bF.ix [1] rfl rfl) .nil aO.z)<|bO rfl (bF.cons 3 rfl .nil) .nil (p_ 0 rfl rfl rfl rfl) (aO.h (bF.ix [0] rfl rfl) .nil aO.z)<|fE h fun r30 w31 h=>JR.loud rfl rfl rfl (aK.callQ JH (uI U v0 v1 v2 v3 z4 r30 w31) rfl (qC [0,1,2,3,4] rfl)) rfl (fun x32=>(uQ [([6],[])] rfl)) fun x32=>cR 7 rfl rfl<|b_ (Know.one (aG.sl (bD (i:=0) (j:=1) rfl rfl bG))) fun ho33=>?_
  refine aD (Gv (r:=Value.agg #[vS (p0.1),v0,v1,Value.pointer (some ⟨b29.1,0,none⟩),x32.1]) rfl rfl rfl (by intro w;simp[Instr.build,Instr.fill,gZ,fT,eW,g_,hJ,fU,jC,mT ho33])) rfl ?_
  refine aI (aK.box (cs:=[vS (p0.1),v0,v1,vP b29.1,x32.1]) rfl rfl) rfl fun b34=>aE rfl<|aN<|aU ?_
  exact DD (r30,a28.1,a28.2) (b34,b29.1,x32.1,x32.2,b29.2.1,b29.2.2) h (.inl rfl) (Qk.r1 rfl (RV.tmp rfl)) rfl (bF.ix [0,1,2,3,4,5] rfl rfl) (aF.refl _ _)
 intro a16 b17 h
 refine aA rfl<|fE h fun r18 w19 h=>aI (aK.callQ NF (qI U b17.1 v0 v1 b17.2.1 v0 v1 v2 v3 z4 b17.2.2.2.2.1 (List.zip b17.2.2.2.2.2 a16.2.2) b17.2.2.1 (List.zip b17.2.2.2.1 a16.1) v5 z6 r18 w19) rfl (aF.cons (aG.res 0 rfl) (aF.cons (aG.fact 0 rfl) (aF.cons (aG.fact 1 rfl) (aF.cons (aG.res 3 rfl) (aF.cons (aG.fact 0 rfl) (aF.cons (aG.fact 1 rfl) (aF.cons (aG.fact 3 rfl) (aF.cons (aG.fact 4 rfl) (aF.cons (bD (i:=4) (j:=5) rfl rfl eL) (aF.cons (bD (i:=1) (j:=2) rfl rfl bG) (qC [5] rfl)))))))))))) rfl fun x20=>aE rfl<|aN<|aU ?_
 cases h
 exact wO rfl
end
section
def tG (U:Nat) (p0:tJ) (p1:gA) (p2:bJ) (p3:Int) (a16:d_×Int×bJ) (a19:Bool):Option uM:=
 if a19=true then(some (([]:bJ),(11:Int)))else(Option.bind (iK U ((((p0.1,p0.2.1,p0.2.2)),((((p0.1,p0.2.1,p0.2.2)),((p1.1,p1.2)),a16.2.1,a16.2.2)),a16.1)) p2 p3) fun r22=>(some (r22,(0:Int))))
def xN (U:Nat) (p0:tJ) (p1:gA) (p2:bJ) (p3:Int) (a16:d_×Int×bJ):Option uM:=
 if p3=(0:Int)then(tG U p0 p1 p2 p3 a16 (true))else(Option.bind (dO U ((((p0.1,p0.2.1,p0.2.2)),((((p0.1,p0.2.1,p0.2.2)),((p1.1,p1.2)),a16.2.1,a16.2.2)),a16.1)) p2) fun r26=>(tG U p0 p1 p2 p3 a16 (decide ((Br .u32 p3 r26)≠(0:Int)))))
def tH (U:Nat) (p0:tJ) (p1:gA) (p2:bJ) (p3:Int) (a36:rI):Option uM:=
 Option.bind (gB U ((p0.1,p0.2.1,p0.2.2)) ((p1.1,p1.2))) fun r38=>(xN U p0 p1 p2 p3 (r38,a36.1,a36.2))
def qX (U:Nat) (p0:tJ) (p1:gA) (p2:bJ) (p3:Int) (a52:rI):Option uM:=
 tH U p0 p1 p2 p3 (a52.1,a52.2)
def tI (p1:gA) (a59:Int×Int×bJ) (ag58:(Int×Int×bJ)->Option uM) (a65:bJ):Option uM:=
 ag58 ((wI .i64 (a59.1+(1:Int))),(max a59.2.1 (at' p1.1 a59.1)),a65)
def oG (U:Nat) (p1:gA) (a59:Int×Int×bJ) (ag58:(Int×Int×bJ)->Option uM) (a73:rI) (ag72:(Int×bJ)->Option uM):Option uM:=
 if a73.1<(List.length (at' p1.2 a59.1):Int)then(ck (0<=a73.1∧a73.1<(List.length (at' p1.2 a59.1):Int)) (ck (0<=a59.1∧a59.1<(List.length a73.2:Int)) (Option.bind (jO U ((p1.1,p1.2)) ((at' (at' p1.2 a59.1) a73.1).1) a59.1) fun r82=>(ck ((List.length (at' a73.2 a59.1):Int)+(List.length ([r82]):Int)<=1099511627) (ck (0<=a59.1∧a59.1<(List.length (List.set a73.2 (Int.toNat a59.1) ((at' a73.2 a59.1)++[r82])):Int)) (ag72 ((wI .i64 (a73.1+(1:Int))),(List.set a73.2 (Int.toNat a59.1) ((at' a73.2 a59.1)++[r82])))))))))else(tI p1 a59 ag58 (a73.2))
def kX (U:Nat) (p0:tJ) (p1:gA) (p2:bJ) (p3:Int) (a59:Int×Int×bJ) (ag58:(Int×Int×bJ)->Option uM):Option uM:=
 if a59.1<(List.length p1.2:Int)then(ck (0<=a59.1∧a59.1<(List.length p1.2:Int)) (ck (0<=a59.1∧a59.1<(List.length p1.1:Int)) (bU (oG U p1 a59 ag58) U ((0:Int),a59.2.2))))else(qX U p0 p1 p2 p3 (a59.2.1,a59.2.2))
def kU (U:Nat) (p0:tJ) (p1:gA) (p2:bJ) (p3:Int):Option uM:=
 Option.bind (jP U ((p0.1,p0.2.1,p0.2.2)) ((p1.1,p1.2)) p2) fun r3=>(if r3≠(0:Int)then(some (([]:bJ),r3))else(ck (0<=(List.length p1.2:Int)∧(List.length p1.2:Int)<=1099511627) (bU (kX U p0 p1 p2 p3) U ((0:Int),(0:Int),(List.replicate (Int.toNat (List.length p1.2:Int)) ([]:bM))))))
theorem GB:aZ Tryz.prog 13:=Tryz.call13
theorem vC (U:Nat) {p0:tJ} {p1:gA} {p2:bJ} {p3:Int} (v0:Value)  (v1:Value)  (v2:Value)  (v3:Value)  (z4:oY)  (v5:Value)  (z6:pH) (r:bJ×Int) (h:kU U p0 p1 p2 p3=some r):
  bA Tryz.prog 13 #[Value.agg #[vS (p0.1),v0,v1],Value.agg #[v2,v3],v5,vU (p3)] [Sl aH v0 p0.2.1,Sl aC v1 p0.2.2,PF (Value.agg #[vS p0.1,v0,v1]),Sl bP v2 p1.1,S2 bH v3 z4 p1.2,S2 bP v5 z6 p2] (fun x:AO=>Value.tuple #[x.1,vI (r.2)]) (fun x l=>Ar dZ.raw x.1 x.2::i_ cU x.2 r.1::l) (fun _ l=>l):=by
 refine bA.of Tryz.func13 rfl Tryz.ntmps13 rfl fun c=>?_
 refine aS<|aI (aK.box (cs:=[vS (p0.1),v0,v1]) rfl rfl) rfl fun b1=>aI (aK.box (cs:=[v2,v3]) rfl rfl) rfl fun b2=>aE rfl<|aE rfl<|aN<|aM<|aS<|dQ 1 rfl<|dQ 0 rfl<|aA rfl<|fE h fun r3 w4 h=>aI (aK.callQ NG (zP U v0 v1 v2 v3 z4 v5 z6 r3 w4) rfl (qC [0,1,2,3,4,5] rfl)) rfl fun x5=>aE rfl<|aN<|aS<|aA rfl<|pC rfl<|aN ?_
 refine fM h rfl (fun h=>?_) fun h=>?_
 ·refine aS<|aA rfl<|aE rfl<|aE rfl<|aN<|aU<|aJ<|oH (rM dZ.raw) (oH (uU cU) ?_)
  cases h
  exact kN ((mG),([]:iN)) rfl rfl (RV.tmp rfl) (RV.tmp rfl) (bF.ix [1,0] rfl rfl) aF.nil
 refine dV<|aS<|dQ 1 rfl<|dQ 0 rfl<|Jn (A:=d_×Int×bJ) (B:=Nat×Nat×Value×List Value×Value×List Value) (vs:=[Value.agg #[vS (p0.1),v0,v1],Value.agg #[v2,v3]]) (fun a16=>xN U p0 p1 p2 p3 a16=some r) (fun a16 b17=>vP b17.1) (fun a16 b17=>[dD b17.1 [vS (p0.1),v0,v1,vP b17.2.1,b17.2.2.1] 117,Ar dZ.raw b17.2.2.1 b17.2.2.2.1,i_ bX b17.2.2.2.1 a16.1,dD b17.2.1 [vS (p0.1),v0,v1,v2,v3,vI (a16.2.1),b17.2.2.2.2.1] 161,Ar dZ.raw b17.2.2.2.2.1 b17.2.2.2.2.2,i_ cU b17.2.2.2.2.2 a16.2.2]) (fun a16 b17=>[Sl aH v0 p0.2.1,Sl aC v1 p0.2.2,PF (Value.agg #[vS p0.1,v0,v1]),Sl bP v2 p1.1,S2 bH v3 z4 p1.2,S2 bP v5 z6 p2]) (AF.fn (show aZ Tryz.prog 33 from Tryz.call33) rfl) Tryz.func33 rfl Tryz.ntmps33 rfl rfl ?_ ?_
 ·refine aS<|aI (aK.box (cs:=[vS (p0.1),v0,v1]) rfl rfl) rfl fun b29=>aI (aK.box (cs:=[v2,v3]) rfl rfl) rfl fun b30=>aE rfl<|aN<|aM ?_
  refine JR.start [0,0,0,6,0,0,62,127,255,511] 7 mixedOrders (by decide +kernel) ?_
  refine JR.open (by exact rfl) ?_
  refine kB 1 rfl<|kB 1 rfl<|kB 0 rfl<|Kw (A:=rI) (B:=Nat×Value×List Value) (vs:=[Value.agg #[vS (p0.1),v0,v1],Value.agg #[v2,v3]]) (fun a36=>tH U p0 p1 p2 p3 a36=some r) (fun a36 b37=>vP b37.1) (fun a36 b37=>[dD b37.1 [vS (p0.1),v0,v1,v2,v3,vI (a36.1),b37.2.1] 161,Ar dZ.raw b37.2.1 b37.2.2,i_ cU b37.2.2 a36.2,dD b30 [v2,v3] 28,dD b29 [vS (p0.1),v0,v1] 33]) (fun a36 b37=>[Sl aH v0 p0.2.1,Sl aC v1 p0.2.2,PF (Value.agg #[vS p0.1,v0,v1]),Sl bP v2 p1.1,S2 bH v3 z4 p1.2,S2 bP v5 z6 p2]) rfl rfl rfl (AF.fn (show aZ Tryz.prog 62 from Tryz.call62) rfl) Tryz.func62 rfl Tryz.ntmps62 rfl rfl (fun _ _=>(uQ [([4],[])] rfl)) ?_ ?_
  ·refine aS<|aI (aK.box (cs:=[vS (p0.1),v0,v1]) rfl rfl) rfl fun b43=>aI (aK.box (cs:=[v2,v3]) rfl rfl) rfl fun b44=>aE rfl<|aN<|aM ?_
   refine JR.start [0,0,0,4,12,28,63,127,255] 6 mixedOrders (by decide +kernel) ?_
   refine JR.open (by exact rfl) ?_
   refine kB 1 rfl<|kB 0 rfl<|cQ rfl<|kF 0 rfl<|bO rfl .nil (oF 4 rfl) (jI rfl (aG.fact 0 rfl) rfl) aO.z<|fL h fun j45 h=>JR.stp (nG cU (Int.toNat (List.length p1.2:Int)))<|JR.loud rfl rfl rfl (pZ (e:=dZ.raw) (mG) rfl rfl rfl rfl j45 rfl rfl rfl) rfl (fun u46=>(uQ [([2],[]),([3],[])] rfl)) fun u46=>cR 6 rfl rfl<|b_ (Know.one (aG.sl (bD (i:=0) (j:=1) rfl rfl eL))) fun ho47=>?_
   refine aD (Gv (r:=Value.agg #[vS (p0.1),v0,v1,v2,v3,vI (0:Int),u46]) rfl rfl rfl (by intro w;simp[Instr.build,Instr.fill,gZ,fT,eW,g_,hJ,fU,jC,mT ho47])) rfl ?_
   refine aI (aK.box (cs:=[vS (p0.1),v0,v1,v2,v3,vI (0:Int),u46]) rfl rfl) rfl fun b48=>aE rfl<|aN<|aM<|yX (B:=iN) (fun a52=>qX U p0 p1 p2 p3 a52=some r) (fun a52 b53=>[(5,vP b48)]) (fun a52 b53=>[dD b48 [vS (p0.1),v0,v1,v2,v3,vI (a52.1),u46] 161,Ar dZ.raw u46 b53,i_ cU b53 a52.2,dD b30 [v2,v3] 28,dD b29 [vS (p0.1),v0,v1] 33]) ?_ ?_
   ·refine aS<|cH rfl<|gE 3 rfl<|aD (jI rfl (aG.fact 4 rfl) rfl) rfl<|aA rfl<|aN<|aX<|gG (B:=iN) (kX U p0 p1 p2 p3) (fun a59 b60=>[(3,vP b44),(5,vP b48),(19,v3),(20,vI (List.length p1.2:Int)),(21,vI (a59.1))]) (fun a59 b60=>[dD b48 [vS (p0.1),v0,v1,v2,v3,vI (a59.2.1),u46] 161,Ar dZ.raw u46 b60,i_ cU b60 a59.2.2,dD b44 [v2,v3] 28,dD b30 [v2,v3] 28,dD b29 [vS (p0.1),v0,v1] 33]) ((0:Int),(0:Int),(List.replicate (Int.toNat (List.length p1.2:Int)) ([]:bM))) (List.replicate (Int.toNat (List.length p1.2:Int)) (mG)) h SF (bF.ix [0,1,2,3,5,6] rfl rfl) ?_
    intro k61 a59 b60 h
    refine aS<|dR rfl<|aN<|aM ?_
    refine fM h rfl (fun h=>?_) fun h=>?_
    ·refine dV<|aM<|yX (B:=iN) (fun a65=>tI p1 a59 (bU (kX U p0 p1 p2 p3) k61) a65=some r) (fun a65 b66=>[(3,vP b44),(5,vP b48),(19,v3),(20,vI (List.length p1.2:Int)),(21,vI (a59.1))]) (fun a65 b66=>[dD b48 [vS (p0.1),v0,v1,v2,v3,vI (max a59.2.1 (at' p1.1 a59.1)),u46] 161,Ar dZ.raw u46 b66,i_ cU b66 a65,dD b44 [v2,v3] 28,dD b30 [v2,v3] 28,dD b29 [vS (p0.1),v0,v1] 33]) ?_ ?_
     ·refine aX<|aS<|aA rfl<|fL h fun j67 h=>aD (cX rfl rfl (aG.fact 4 rfl) rfl rfl j67) rfl<|aD (dH rfl (aG.fact 4 rfl) rfl rfl j67) rfl<|aE rfl<|aE rfl<|aN<|aM ?_
      refine JR.start [0,0,2,6,14,0,32,0,224,480,1022,2047,4095,8191] 11 mixedOrders (by decide +kernel) ?_
      refine JR.open (by exact rfl) ?_
      refine bL rfl<|bL rfl<|oJ rfl (bK rfl)<|cQ rfl<|kF 0 rfl<|cQ rfl<|kF 3 rfl<|bL rfl<|fL h fun j68 h=>bO rfl .nil (oF 3 rfl) (bN rfl rfl (aG.fact 0 rfl) rfl rfl j68) aO.z<|bO rfl .nil (oF 3 rfl) (dM rfl (aG.fact 0 rfl) rfl rfl rfl fC j68) aO.z<|oJ rfl (Fz rfl rfl)<|cR 11 rfl rfl<|aD (bK rfl) rfl<|cH rfl<|Bj 0 rfl rfl rfl rfl rfl rfl<|aN<|aS<|aA rfl<|aD (mV rfl (aG.el (aG.fact 4 rfl) j67.1 j67.2) rfl) rfl<|aA rfl<|aN<|aX<|gG (B:=iN) (oG U p1 a59 (bU (kX U p0 p1 p2 p3) k61)) (fun a73 b74=>[(3,vP b44),(5,vP b48),(6,vI (a59.1)),(19,v3),(20,vI (List.length p1.2:Int)),(21,vI (a59.1)),(39,(at' z4 a59.1).1),(40,vI (List.length (at' p1.2 a59.1):Int)),(41,vI (a73.1))]) (fun a73 b74=>[dD b48 [vS (p0.1),v0,v1,v2,v3,vI (max a59.2.1 (at' p1.1 a59.1)),u46] 161,Ar dZ.raw u46 b74,i_ cU b74 a73.2,dD b44 [v2,v3] 28,dD b30 [v2,v3] 28,dD b29 [vS (p0.1),v0,v1] 33]) ((0:Int),a59.2.2) (b60) h SF (bF.refl _) ?_
      intro k75 a73 b74 h
      refine aS<|dR rfl<|aN<|aM ?_
      refine fM h rfl (fun h=>?_) fun h=>?_
      ·refine dV<|aM<|aX<|aS<|fL h fun j77 h=>aD (bN rfl rfl (aG.el (aG.fact 4 rfl) j67.1 j67.2) rfl rfl j77) rfl<|aD (iS (cs:=[vI ((at' (at' p1.2 a59.1) a73.1).1),vI ((at' (at' p1.2 a59.1) a73.1).2)]) rfl (aG.el (aG.fact 4 rfl) j67.1 j67.2) bG rfl rfl rfl rfl j77) rfl<|aI (aK.alloc (cs:=Qq) rfl rfl) rfl fun b78=>bZ 0 (vs:=[vI ((at' (at' p1.2 a59.1) a73.1).1),vI ((at' (at' p1.2 a59.1) a73.1).2)]) rfl rfl rfl rfl rfl rfl<|aN ?_
       refine JR.start [0,1,3,7,0,0,32,96,224,0,992,2016,0,0,8192,0,61440,126976,262112,524287,1048575] 19 mixedOrders (by decide +kernel) ?_
       refine JR.open (by exact rfl) ?_
       refine bL rfl<|oJ rfl (bK rfl)<|cQ rfl<|kF 1 rfl<|bL rfl<|bL rfl<|oJ rfl (bK rfl)<|cQ rfl<|kF 1 rfl<|bL rfl<|fL h fun j79 h=>dW (cD 3 rfl) fun hl80=>?_
       refine bO rfl (bF.cons 2 rfl .nil) .nil (fK 0 rfl rfl rfl rfl rfl j79.1 (by have q1:=j79.2;have q2:=hl80;(try simp only[List.length_set]at q1);(try simp only[List.length_set]at q2);(try simp only[List.length_set]);omega)) aO.z ?_
       refine dW (cD 3 rfl) fun hl81=>bO rfl (bF.cons 2 rfl .nil) .nil (jB 0 rfl rfl hl81 rfl rfl j79) aO.z<|kB 4 rfl<|cQ rfl<|kF 0 rfl<|bL rfl<|fE h fun r82 w83 h=>JR.loud rfl rfl rfl (aK.callQ KD (zN U v2 v3 z4 r82 w83) rfl (qC [3,4] rfl)) rfl (fun x84=>(uQ [([2],[]),([2],[]),([1],[]),([1],[])] rfl)) fun x84=>JR.loud rfl rfl rfl (eN (e:=cU) ([r82]) [(0,vI (r82))] rfl rfl rfl rfl (wA (vI (r82)) rfl) rfl rfl rfl) rfl (fun u85=>(uQ [([3],[]),([3],[]),([2],[]),([2],[])] rfl)) fun u85=>fL h fun j87 h=>JR.loud rfl rfl rfl (iR 4 eL rfl rfl rfl (cC (aG.res 0 rfl) eL) rfl rfl rfl rfl j79 j87 rfl) rfl (fun u86=>(uQ [([2],[])] rfl)) fun u86=>cR 19 rfl rfl<|fL h fun j88 h=>b_ (cD 4 rfl) fun hl89=>?_
       refine aD (fK 3 rfl rfl rfl rfl rfl j88.1 (by have q1:=j88.2;have q2:=hl89;(try simp only[List.length_set]at q1);(try simp only[List.length_set]at q2);(try simp only[List.length_set]);omega)) rfl ?_
       refine b_ (qE 4 (k:=a59.1) rfl ⟨j88.1,by first|exact j88.2|simpa using j88.2⟩) fun ho90=>?_
       refine jH 3 4 ⟨j88.1,by first|exact j88.2|simpa using j88.2⟩ rfl rfl rfl rfl rfl (by simp) ho90 rfl ?_
       refine fJ<|qB<|aQ<|dG rfl<|aA rfl<|aN ?_
       exact mH ((wI .i64 (a73.1+(1:Int))),(List.set a73.2 (Int.toNat a59.1) ((at' a73.2 a59.1)++[r82]))) (List.set b74 (Int.toNat a59.1) u86) h SF (bF.ix [2,3,4,5,6,7] rfl rfl) (aF.refl _ _)
      refine yB<|lZ<|lZ<|CI<|qB ?_
      exact lW (a73.2) (b74) h SF rfl
     intro a65 b66 h
     unfold tI at h
     refine aQ<|dG rfl<|aA rfl<|aN ?_
     exact Bf ((wI .i64 (a59.1+(1:Int))),(max a59.2.1 (at' p1.1 a59.1)),a65) (b66) h SF rfl
    refine h_ ?_
    exact dL (a59.2.1,a59.2.2) (b60) h SF (bF.ix [0,1,2,4,5] rfl rfl) (aF.refl _ _)
   intro a52 b53 h
   unfold qX at h
   refine aS<|aA rfl<|aE rfl<|aN<|aU ?_
   exact DD (a52.1,a52.2) (b48,u46,b53) h (.inl rfl) (Qk.r1 rfl (RV.tmp rfl)) rfl (bF.refl _) (aF.refl _ _)
  intro a36 b37 h
  unfold tH at h
  refine bO rfl (bF.cons 4 rfl .nil) .nil (p_ 0 rfl rfl rfl rfl) (aO.h (bF.ix [1] rfl rfl) .nil aO.z)<|bO rfl (bF.cons 3 rfl .nil) .nil (p_ 0 rfl rfl rfl rfl) (aO.h (bF.ix [0] rfl rfl) .nil aO.z)<|fE h fun r38 w39 h=>JR.loud rfl rfl rfl (aK.callQ JH (uI U v0 v1 v2 v3 z4 r38 w39) rfl (qC [0,1,2,3,4] rfl)) rfl (fun x40=>(uQ [([6],[])] rfl)) fun x40=>cR 7 rfl rfl<|b_ (Know.one (aG.sl (bD (i:=0) (j:=1) rfl rfl bG))) fun ho41=>?_
  refine aD (Gv (r:=Value.agg #[vS (p0.1),v0,v1,Value.pointer (some ⟨b37.1,0,none⟩),x40.1]) rfl rfl rfl (by intro w;simp[Instr.build,Instr.fill,gZ,fT,eW,g_,hJ,fU,jC,mT ho41])) rfl ?_
  refine aI (aK.box (cs:=[vS (p0.1),v0,v1,vP b37.1,x40.1]) rfl rfl) rfl fun b42=>aE rfl<|aN<|aU ?_
  exact DD (r38,a36.1,a36.2) (b42,b37.1,x40.1,x40.2,b37.2.1,b37.2.2) h (.inl rfl) (Qk.r1 rfl (RV.tmp rfl)) rfl (bF.ix [0,1,2,3,4,5] rfl rfl) (aF.refl _ _)
 intro a16 b17 h
 refine aE rfl<|aN<|aM<|aM<|jS (fun a19=>tG U p0 p1 p2 p3 a16 a19=some r) (fun a19 b20=>[(2,v5),(3,vU (p3)),(11,vP b17.1),(31,vB (a19))]) (fun a19 b20=>[dD b17.1 [vS (p0.1),v0,v1,vP b17.2.1,b17.2.2.1] 117,Ar dZ.raw b17.2.2.1 b17.2.2.2.1,i_ bX b17.2.2.2.1 a16.1,dD b17.2.1 [vS (p0.1),v0,v1,v2,v3,vI (a16.2.1),b17.2.2.2.2.1] 161,Ar dZ.raw b17.2.2.2.2.1 b17.2.2.2.2.2,i_ cU b17.2.2.2.2.2 a16.2.2]) ?_ ?_
 ·refine aQ<|aA rfl<|cN rfl<|aA rfl ?_
  refine EV h rfl (fun _ h=>?_) fun _ h=>?_
  ·refine aT rfl<|aT rfl<|aT rfl<|aT rfl<|aT rfl<|aT rfl<|lD rfl<|aN ?_
   exact lW (true) () h SF rfl
  refine eQ rfl<|eQ rfl<|eQ rfl<|fE h fun r26 w27 h=>wQ rfl (aK.callQ NF (qI U b17.1 v0 v1 b17.2.1 v0 v1 v2 v3 z4 b17.2.2.2.2.1 (List.zip b17.2.2.2.2.2 a16.2.2) b17.2.2.1 (List.zip b17.2.2.2.1 a16.1) v5 z6 r26 w27) rfl (aF.cons (aG.res 0 rfl) (aF.cons (aG.fact 0 rfl) (aF.cons (aG.fact 1 rfl) (aF.cons (aG.res 3 rfl) (aF.cons (aG.fact 0 rfl) (aF.cons (aG.fact 1 rfl) (aF.cons (aG.fact 3 rfl) (aF.cons (aG.fact 4 rfl) (aF.cons (bD (i:=4) (j:=5) rfl rfl eL) (aF.cons (bD (i:=1) (j:=2) rfl rfl bG) (qC [5] rfl)))))))))))) rfl fun x28=>bT rfl (Nq rfl rfl) rfl<|bT rfl (HR rfl rfl) rfl<|jU rfl<|aN ?_
  exact lW (decide ((Br .u32 p3 r26)≠(0:Int))) () h SF rfl
 intro a19 b20 h
 refine Cb h rfl (fun _ h=>?_) fun _ h=>?_
 ·refine aS<|aE rfl<|aE rfl<|aN<|aU<|aJ<|oH (rM dZ.raw) (oH (uU cU) ?_)
  cases h
  exact kN ((mG),([]:iN)) rfl rfl (RV.tmp rfl) (RV.tmp rfl) (bF.ix [1,0] rfl rfl) aF.nil
 refine dV<|aS<|aA rfl<|aA rfl<|aA rfl<|fE h fun r22 w23 h=>aI (aK.callQ TN (zK U b17.1 v0 v1 b17.2.1 v0 v1 v2 v3 z4 b17.2.2.2.2.1 (List.zip b17.2.2.2.2.2 a16.2.2) b17.2.2.1 (List.zip b17.2.2.2.1 a16.1) v5 z6 r22 w23) rfl (aF.cons (aG.res 0 rfl) (aF.cons (aG.fact 0 rfl) (aF.cons (aG.fact 1 rfl) (aF.cons (aG.res 3 rfl) (aF.cons (aG.fact 0 rfl) (aF.cons (aG.fact 1 rfl) (aF.cons (aG.fact 3 rfl) (aF.cons (aG.fact 4 rfl) (aF.cons (bD (i:=4) (j:=5) rfl rfl eL) (aF.cons (bD (i:=1) (j:=2) rfl rfl bG) (qC [5] rfl)))))))))))) rfl fun x24=>aE rfl<|aE rfl<|aN<|aU ?_
 cases h
 exact kN (x24.1,x24.2) rfl rfl (RV.tmp rfl) (RV.tmp rfl) (bF.ix [0,1] rfl rfl) aF.nil
end
section
def mA  (a5:bJ):Option bJ:=
 some (a5)
def mB (a11:rI) (ag10:(Int×bJ)->Option bJ) (a17:bJ):Option bJ:=
 ag10 ((wI .i64 (a11.1+(1:Int))),a17)
def jJ (a25:rI) (ag24:(Int×bJ)->Option bJ) (a31:bJ):Option bJ:=
 ag24 ((wI .i64 (a25.1+(1:Int))),a31)
def fP (p0:bJ) (p1:Int) (a11:rI) (ag10:(Int×bJ)->Option bJ) (a25:rI) (ag24:(Int×bJ)->Option bJ):Option bJ:=
 if a25.1<(List.length (List.drop (Int.toNat 0) (List.take (Int.toNat (min (List.length (at' p0 a11.1):Int) (32:Int))) (at' p0 a11.1))):Int)then(ck (0<=a25.1∧a25.1<(List.length (List.drop (Int.toNat 0) (List.take (Int.toNat (min (List.length (at' p0 a11.1):Int) (32:Int))) (at' p0 a11.1))):Int)) (ck (0<=a25.1) (if(uP .u32 (HT .u32 p1 a25.1) (1:Int))=(1:Int)then(ck (0<=a11.1∧a11.1<(List.length a25.2:Int)) (ck ((List.length (at' a25.2 a11.1):Int)+(List.length ([(at' (List.drop (Int.toNat 0) (List.take (Int.toNat (min (List.length (at' p0 a11.1):Int) (32:Int))) (at' p0 a11.1))) a25.1)]):Int)<=1099511627) (ck (0<=a11.1∧a11.1<(List.length (List.set a25.2 (Int.toNat a11.1) ((at' a25.2 a11.1)++([(at' (List.drop (Int.toNat 0) (List.take (Int.toNat (min (List.length (at' p0 a11.1):Int) (32:Int))) (at' p0 a11.1))) a25.1)]))):Int)) (jJ a25 ag24 (List.set a25.2 (Int.toNat a11.1) ((at' a25.2 a11.1)++([(at' (List.drop (Int.toNat 0) (List.take (Int.toNat (min (List.length (at' p0 a11.1):Int) (32:Int))) (at' p0 a11.1))) a25.1)])))))))else(jJ a25 ag24 (a25.2)))))else(mB a11 ag10 (a25.2))
def eO (U:Nat) (p0:bJ) (p1:Int) (a11:rI) (ag10:(Int×bJ)->Option bJ):Option bJ:=
 if a11.1<(List.length p0:Int)then(ck (0<=a11.1∧a11.1<(List.length p0:Int)) (ck (0<=(0:Int)∧(0:Int)<=(min (List.length (at' p0 a11.1):Int) (32:Int))∧(min (List.length (at' p0 a11.1):Int) (32:Int))<=(List.length (at' p0 a11.1):Int)) (bU (fP p0 p1 a11 ag10) U ((0:Int),a11.2))))else(mA  (a11.2))
def dX (U:Nat) (p0:bJ) (p1:Int):Option bJ:=
 ck (0<=(List.length p0:Int)∧(List.length p0:Int)<=1099511627) (bU (eO U p0 p1) U ((0:Int),(List.replicate (Int.toNat (List.length p0:Int)) ([]:bM))))
theorem GC:aZ Tryz.prog 14:=Tryz.call14
theorem nC (U:Nat) {p0:bJ} {p1:Int} (v0:Value)  (z1:pH) (r:bJ) (h:dX U p0 p1=some r):
  bA Tryz.prog 14 #[v0,vU (p1)] [S2 bP v0 z1 p0] (fun x:AO=>x.1) (fun x l=>Ar dZ.raw x.1 x.2::i_ cU x.2 r::l) (fun _ l=>l):=by
 refine bA.of Tryz.func14 rfl Tryz.ntmps14 rfl fun c=>?_
 refine aS<|aE rfl<|aN<|aS<|aA rfl<|aD (jI rfl (aG.fact 0 rfl) rfl) rfl<|fL h fun j1 h=>oH (nG cU (Int.toNat (List.length p0:Int)))<|aI (pZ (e:=dZ.raw) (mG) rfl rfl rfl rfl j1 rfl rfl rfl) rfl fun u2=>aE rfl<|aN<|aM<|yX (B:=iN) (fun a5=>mA  a5=some r) (fun a5 b6=>[(5,u2)]) (fun a5 b6=>[Ar dZ.raw u2 b6,i_ cU b6 a5]) ?_ ?_
 ·refine aS<|aA rfl<|aD (jI rfl (aG.fact 0 rfl) rfl) rfl<|aA rfl<|aN<|aX<|gG (B:=iN) (eO U p0 p1) (fun a11 b12=>[(1,vU (p1)),(5,u2),(13,v0),(14,vI (List.length p0:Int)),(15,vI (a11.1))]) (fun a11 b12=>[Ar dZ.raw u2 b12,i_ cU b12 a11.2]) ((0:Int),(List.replicate (Int.toNat (List.length p0:Int)) ([]:bM))) (List.replicate (Int.toNat (List.length p0:Int)) (mG)) h SF (bF.refl _) ?_
  intro k13 a11 b12 h
  refine aS<|dR rfl<|aN<|aM ?_
  refine fM h rfl (fun h=>?_) fun h=>?_
  ·refine dV<|aM<|yX (B:=iN) (fun a17=>mB a11 (bU (eO U p0 p1) k13) a17=some r) (fun a17 b18=>[(1,vU (p1)),(5,u2),(13,v0),(14,vI (List.length p0:Int)),(15,vI (a11.1))]) (fun a17 b18=>[Ar dZ.raw u2 b18,i_ cU b18 a17]) ?_ ?_
   ·refine aX<|aS<|aA rfl<|fL h fun j19 h=>aD (cX rfl rfl (aG.fact 0 rfl) rfl rfl j19) rfl<|aD (dH rfl (aG.fact 0 rfl) rfl rfl j19) rfl<|aE rfl<|aE rfl<|aN<|aS<|aA rfl<|aA rfl<|aD (mV rfl (aG.el (aG.fact 0 rfl) j19.1 j19.2) rfl) rfl<|aD (Nt rfl rfl) rfl<|fL h fun j20 h=>aD (Nw rfl rfl (aG.el (aG.fact 0 rfl) j19.1 j19.2) rfl rfl j20) rfl<|aD (mV rfl (aG.part (q:=1) (aG.el (aG.fact 0 rfl) j19.1 j19.2) rfl j20) rfl) rfl<|aA rfl<|aN<|aX<|gG (B:=iN) (fP p0 p1 a11 (bU (eO U p0 p1) k13)) (fun a25 b26=>[(1,vU (p1)),(5,u2),(6,vI (a11.1)),(13,v0),(14,vI (List.length p0:Int)),(15,vI (a11.1)),(24,Tk ((at' z1 a11.1).1) (Int.toNat 0) (Int.toNat (min (List.length (at' p0 a11.1):Int) (32:Int))) 1),(25,vI (List.length (List.drop (Int.toNat 0) (List.take (Int.toNat (min (List.length (at' p0 a11.1):Int) (32:Int))) (at' p0 a11.1))):Int)),(26,vI (a25.1))]) (fun a25 b26=>[Ar dZ.raw u2 b26,i_ cU b26 a25.2]) ((0:Int),a11.2) (b12) h SF (bF.refl _) ?_
    intro k27 a25 b26 h
    refine aS<|dR rfl<|aN<|aM ?_
    refine fM h rfl (fun h=>?_) fun h=>?_
    ·refine dV<|aM<|yX (B:=iN) (fun a31=>jJ a25 (bU (fP p0 p1 a11 (bU (eO U p0 p1) k13)) k27) a31=some r) (fun a31 b32=>[(1,vU (p1)),(5,u2),(6,vI (a11.1)),(13,v0),(14,vI (List.length p0:Int)),(15,vI (a11.1)),(24,Tk ((at' z1 a11.1).1) (Int.toNat 0) (Int.toNat (min (List.length (at' p0 a11.1):Int) (32:Int))) 1),(25,vI (List.length (List.drop (Int.toNat 0) (List.take (Int.toNat (min (List.length (at' p0 a11.1):Int) (32:Int))) (at' p0 a11.1))):Int)),(26,vI (a25.1))]) (fun a31 b32=>[Ar dZ.raw u2 b32,i_ cU b32 a31]) ?_ ?_
     ·refine aX<|aS<|aA rfl<|fL h fun j33 h=>aD (bN rfl rfl (aG.part (q:=1) (aG.el (aG.fact 0 rfl) j19.1 j19.2) rfl j20) rfl rfl j33) rfl<|aD (dM rfl (aG.part (q:=1) (aG.el (aG.fact 0 rfl) j19.1 j19.2) rfl j20) rfl rfl rfl fC j33) rfl<|aE rfl<|aE rfl<|aN<|aS<|aA rfl<|aA rfl<|fL h fun j34 h=>aD (SN rfl rfl j34) rfl<|F_ rfl<|cN rfl<|aN ?_
      refine fM h rfl (fun h=>?_) fun h=>?_
      ·refine aQ<|aA rfl<|aA rfl<|aA rfl<|aA rfl<|fL h fun j36 h=>aD (cX rfl rfl (bD (i:=0) (j:=1) rfl rfl eL) rfl rfl j36) rfl<|b_ (cD 1 rfl) fun hl37=>aD (jB 0 rfl rfl hl37 rfl rfl j36) rfl<|aA rfl<|aI (eN (e:=cU) ([(at' (List.drop (Int.toNat 0) (List.take (Int.toNat (min (List.length (at' p0 a11.1):Int) (32:Int))) (at' p0 a11.1))) a25.1)]) [(0,vI (at' (List.drop (Int.toNat 0) (List.take (Int.toNat (min (List.length (at' p0 a11.1):Int) (32:Int))) (at' p0 a11.1))) a25.1))] rfl rfl rfl rfl (wA (vI (at' (List.drop (Int.toNat 0) (List.take (Int.toNat (min (List.length (at' p0 a11.1):Int) (32:Int))) (at' p0 a11.1))) a25.1)) rfl) rfl rfl rfl) rfl fun u38=>fL h fun j40 h=>aI (iR 2 eL rfl rfl rfl (cC (aG.res 0 rfl) eL) rfl rfl rfl rfl j36 j40 rfl) rfl fun u39=>fL h fun j41 h=>b_ (cD 2 rfl) fun hl42=>?_
       refine aD (fK 1 rfl rfl rfl rfl rfl j41.1 (by have q1:=j41.2;have q2:=hl42;(try simp only[List.length_set]at q1);(try simp only[List.length_set]at q2);(try simp only[List.length_set]);omega)) rfl ?_
       refine b_ (qE 2 (k:=a11.1) rfl ⟨j41.1,by first|exact j41.2|simpa using j41.2⟩) fun ho43=>?_
       refine jH 1 2 ⟨j41.1,by first|exact j41.2|simpa using j41.2⟩ rfl rfl rfl rfl rfl (by simp) ho43 rfl ?_
       refine fJ<|qB ?_
       exact dL (List.set a25.2 (Int.toNat a11.1) ((at' a25.2 a11.1)++([(at' (List.drop (Int.toNat 0) (List.take (Int.toNat (min (List.length (at' p0 a11.1):Int) (32:Int))) (at' p0 a11.1))) a25.1)]))) (List.set b26 (Int.toNat a11.1) u39) h SF (bF.ix [1,2] rfl rfl) (aF.refl _ _)
      refine e_<|qB ?_
      exact lW (a25.2) (b26) h SF rfl
     intro a31 b32 h
     unfold jJ at h
     refine aQ<|dG rfl<|aA rfl<|aN ?_
     exact Bf ((wI .i64 (a25.1+(1:Int))),a31) (b32) h SF rfl
    refine yB<|lZ<|lZ<|CI<|qB ?_
    exact lW (a25.2) (b26) h SF rfl
   intro a17 b18 h
   unfold mB at h
   refine aQ<|dG rfl<|aA rfl<|aN ?_
   exact Bf ((wI .i64 (a11.1+(1:Int))),a17) (b18) h SF rfl
  refine h_ ?_
  exact lW (a11.2) (b12) h SF rfl
 intro a5 b6 h
 unfold mA at h
 refine aS<|aA rfl<|aE rfl<|aN<|aU ?_
 cases h
 exact mX (u2,b6) rfl rfl (RV.tmp rfl) (bF.refl _) aF.nil
end
end Go.Proofs.YtlciiihigmgaiaaGreat
end
section
namespace Go.Proofs.YtlciiihigmgaiaaGreat
open Go Go.Sx
theorem ME {g:GR} (hV:VG g) (p:Bm) (c:bJ):
  bU (gK 1000 p g c) 1000 ((0:Int),(0:Int),(List.replicate (Int.toNat (List.length g.2:Int)) ([]:bM)))=mM 1000 p g c (gI g g.2.length,dY g):=by
 have h24:=hV.n24
 have hlen:=hV.len
 let f:Nat->bM:=fun v=>(List.range (row g v).length).map (DO g v)
 let Q:Nat->bJ:=fun k=>(List.range k).map f++List.replicate (g.2.length - k) []
 have hQ:∀k,k<=g.2.length->(Q k).length=g.2.length:=fun k hk=>by simp[Q];omega
 rw[show List.replicate (Int.toNat (List.length g.2:Int)) ([]:bM)=Q 0 by simp[Q]]
 refine dA (step:=gK 1000 p g c) g.2.length (fun k=>((k:Int),gI g k,Q k)) (fun k ag hk=> ?_) (fun ag=> ?_) 1000 (by omega)
 ·have hdeg:=(hV.node k hk).deg
  have hq:k<(Q k).length:=by rw[hQ k (by omega)];exact hk
  unfold gK
  dsimp only
  rw[if_pos (by omega),eM (by omega),eM (by omega)]
  let Rw:Nat->bM:=fun j=>(List.range j).map (DO g k)
  have e0:Q k=(Q k).set k (Rw 0):=by
   have:at' (Q k) (k:Int)=Rw 0:=by
    rw[eV hq];simp[Q,Rw]
   rw[<-this]
   exact(xL (Q k) (k:Int) (by simpa using hq) (by omega)).symm
  rw[show(Q k)=(Q k).set k (Rw 0)from e0]
  have hgen:∀A:bJ,A.length=g.2.length->bU (kJ 1000 g ((k:Int),gI g k,(Q k).set k (Rw 0)) ag) 1000 ((0:Int),A.set k (Rw 0))=ag (((k+1:Nat):Int),gI g (k+1),A.set k (f k)):=by
   intro A hA
   refine dA (step:=kJ 1000 g ((k:Int),gI g k,(Q k).set k (Rw 0)) ag) (K:=ag (((k+1:Nat):Int),gI g (k+1),A.set k (f k))) (row g k).length (fun j=>((j:Int),A.set k (Rw j))) (fun j ag2 hj=> ?_) (fun ag2=> ?_) 1000 (by omega)
   ·obtain⟨u,hu,hue⟩:=hV.to hk hj
    have hdu:=(hV.node u hu).deg
    have a1:at' (A.set k (Rw j)) (k:Int)=Rw j:=by rw[Ca _ _ _ _ (by omega),if_pos rfl]
    have hRl:(Rw j).length=j:=by simp[Rw]
    unfold kJ
    dsimp only
    rw[if_pos (show(j:Int)<((row g k).length:Int) by omega),eM (show 0<=(j:Int)∧(j:Int)<((row g k).length:Int) by omega),eM (by simp only[List.length_set];omega),show at' (at' g.2 (k:Int)) (j:Int)=iI (row g k) j from rfl,hue,bE (show jO 1000 _ (u:Int) (k:Int)=_ from FZ g u (k:Int) hu (by omega)),a1,eM (by rw[hRl];simp;omega),eM (by simp only[List.length_set];omega),eX (by omega),Int.toNat_natCast,List.set_set]
    have:Rw j++[vO (row g u) (k:Int)]=Rw (j+1):=by
     simp only[Rw];rw[List.range_succ,List.map_append,List.map_singleton,DO,hue,Int.toNat_natCast]
    rw[this]
   ·unfold kJ pU
    dsimp only
    rw[if_neg (show¬((row g k).length:Int)<((row g k).length:Int)from Int.lt_irrefl _),eX (by omega)]
    rfl
  have:=hgen (Q k) (hQ k (by omega))
  rw[mS f [] g.2.length k hk]at this
  exact this
 ·unfold gK
  dsimp only
  rw[if_neg (by omega)]
  simp[Q,dY,f]
theorem MF {g:GR} (hV:VG g) (p:Bm) (c:bJ) (t:Int):
  bU (kX 1000 p g c t) 1000 ((0:Int),(0:Int),(List.replicate (Int.toNat (List.length g.2:Int)) ([]:bM)))=qX 1000 p g c t (gI g g.2.length,dY g):=by
 have h24:=hV.n24
 have hlen:=hV.len
 let f:Nat->bM:=fun v=>(List.range (row g v).length).map (DO g v)
 let Q:Nat->bJ:=fun k=>(List.range k).map f++List.replicate (g.2.length - k) []
 have hQ:∀k,k<=g.2.length->(Q k).length=g.2.length:=fun k hk=>by simp[Q];omega
 rw[show List.replicate (Int.toNat (List.length g.2:Int)) ([]:bM)=Q 0 by simp[Q]]
 refine dA (step:=kX 1000 p g c t) g.2.length (fun k=>((k:Int),gI g k,Q k)) (fun k ag hk=> ?_) (fun ag=> ?_) 1000 (by omega)
 ·have hdeg:=(hV.node k hk).deg
  have hq:k<(Q k).length:=by rw[hQ k (by omega)];exact hk
  unfold kX
  dsimp only
  rw[if_pos (by omega),eM (by omega),eM (by omega)]
  let Rw:Nat->bM:=fun j=>(List.range j).map (DO g k)
  have e0:Q k=(Q k).set k (Rw 0):=by
   have:at' (Q k) (k:Int)=Rw 0:=by
    rw[eV hq];simp[Q,Rw]
   rw[<-this]
   exact(xL (Q k) (k:Int) (by simpa using hq) (by omega)).symm
  rw[show(Q k)=(Q k).set k (Rw 0)from e0]
  have hgen:∀A:bJ,A.length=g.2.length->bU (oG 1000 g ((k:Int),gI g k,(Q k).set k (Rw 0)) ag) 1000 ((0:Int),A.set k (Rw 0))=ag (((k+1:Nat):Int),gI g (k+1),A.set k (f k)):=by
   intro A hA
   refine dA (step:=oG 1000 g ((k:Int),gI g k,(Q k).set k (Rw 0)) ag) (K:=ag (((k+1:Nat):Int),gI g (k+1),A.set k (f k))) (row g k).length (fun j=>((j:Int),A.set k (Rw j))) (fun j ag2 hj=> ?_) (fun ag2=> ?_) 1000 (by omega)
   ·obtain⟨u,hu,hue⟩:=hV.to hk hj
    have hdu:=(hV.node u hu).deg
    have a1:at' (A.set k (Rw j)) (k:Int)=Rw j:=by rw[Ca _ _ _ _ (by omega),if_pos rfl]
    have hRl:(Rw j).length=j:=by simp[Rw]
    unfold oG
    dsimp only
    rw[if_pos (show(j:Int)<((row g k).length:Int) by omega),eM (show 0<=(j:Int)∧(j:Int)<((row g k).length:Int) by omega),eM (by simp only[List.length_set];omega),show at' (at' g.2 (k:Int)) (j:Int)=iI (row g k) j from rfl,hue,bE (show jO 1000 _ (u:Int) (k:Int)=_ from FZ g u (k:Int) hu (by omega)),a1,eM (by rw[hRl];simp;omega),eM (by simp only[List.length_set];omega),eX (by omega),Int.toNat_natCast,List.set_set]
    have:Rw j++[vO (row g u) (k:Int)]=Rw (j+1):=by
     simp only[Rw];rw[List.range_succ,List.map_append,List.map_singleton,DO,hue,Int.toNat_natCast]
    rw[this]
   ·unfold oG tI
    dsimp only
    rw[if_neg (show¬((row g k).length:Int)<((row g k).length:Int)from Int.lt_irrefl _),eX (by omega)]
    rfl
  have:=hgen (Q k) (hQ k (by omega))
  rw[mS f [] g.2.length k hk]at this
  exact this
 ·unfold kX
  dsimp only
  rw[if_neg (by omega)]
  simp[Q,dY,f]
section
variable {p:Bm} {g:GR} {R:List RL} {c:List (List Int)}
theorem zG (hV:VG g) (hp:yG g p.2.1) (hz:p.2.2.map iV=yS R) (hR:nR p.2.1.length R=true) (hc:Qj g c p.2.1):gC 1000 p g c=some ((yR (bW p g) R c:Nat):Int):=by
 have h24:=hV.n24
 unfold gC
 have hm:nN 1000 p g c=some true:=by
  unfold nN
  rw[bE (show jP 1000 _ _ c=_ from HZ hV hp hc)];rfl
 rw[bE (show nN 1000 _ _ c=_ from hm),if_neg (by decide),eM (by omega),ME hV p c]
 unfold mM pT sS
 rw[bE (show gB 1000 _ _=_ from EK hV hp)]
 dsimp only
 rw[bE (show dO 1000 (p,(p,g,gI g g.2.length,dY g),wL g p.2.1) c=some ((yR (bW p g) R c:Nat):Int)from DZ hV hc.shape hz hR (by simp[wL]))]
theorem CV (hV:VG g) (hp:yG g p.2.1) (hz:p.2.2.map iV=yS R) (hR:nR p.2.1.length R=true) (hc:Qj g c p.2.1) {t:Nat} (ht0:t≠0) (ht32:t<4294967296) (ht:∀v,t.testBit v=true->(yR (bW p g) R c).testBit v=true):kU 1000 p g c (t:Int)=some (uF (bW p g) p.2.1 R c t,0):=by
 have h24:=hV.n24
 have hVS:VG (bW p g).2.1:=hV
 have hz0:Ia t (yR (bW p g) R c)=0:=RX fun v=>by
  rw[Mb ht32 (Ce hVS R c)]
  cases hx:t.testBit v with
  |false=>simp
  |true=>rw[ht v hx];simp
 unfold kU
 rw[bE (show jP 1000 _ _ c=_ from HZ hV hp hc),if_neg (by decide),eM (by omega),MF hV p c (t:Int)]
 unfold qX tH xN
 rw[bE (show gB 1000 _ _=_ from EK hV hp)]
 dsimp only
 rw[if_neg (by omega),bE (show dO 1000 (p,(p,g,gI g g.2.length,dY g),wL g p.2.1) c=some ((yR (bW p g) R c:Nat):Int)from DZ hV hc.shape hz hR (by simp[wL])),NA,hz0]
 unfold tG
 rw[if_neg (by decide),bE (show iK 1000 (p,(p,g,gI g g.2.length,dY g),wL g p.2.1) c (t:Int)=some (uF (bW p g) p.2.1 R c t)from Su hV hp hc.shape hz hR ht32 (fun v hv=>by
  have h:=ht v hv
  rw[GJ,Bool.and_eq_true,decide_eq_true_eq,decide_eq_true_eq]at h
  exact h.2))]
end
def qZ (m:Nat) (l:List Int):Nat->List Int
 |0=>[]
 |k+1=>if m.testBit k=true then qZ m l k++[at' l (k:Int)]else qZ m l k
theorem IA (m:Nat) (l:List Int):∀k,(qZ m l k).length<=k
 |0=>Nat.le_refl 0
 |k+1=>by
  have:=IA m l k
  unfold qZ
  split<;>simp<;>omega
theorem XQ {a k:Nat} (hk:k<32) (ha:a<4294967296):uP .u32 (HT .u32 (a:Int) (k:Int)) 1=if a.testBit k=true then 1 else 0:=by
 split
 ·rename_i h;exact(JS hk ha).2 h
 ·rename_i h;exact(Wa hk ha).2 (by simpa using h)
theorem Kd {c:List (List Int)} (hc:c.length<=900) (hr:∀v,v<c.length->(at' c (v:Int)).length<=30) {m:Nat} (hm:m<4294967296):dX 1000 c (m:Int)=some ((List.range c.length).map fun v:Nat=>qZ m (at' c (v:Int)) (at' c (v:Int)).length):=by
 let n:=c.length
 let f:Nat->List Int:=fun v=>qZ m (at' c (v:Int)) (at' c (v:Int)).length
 let Q:Nat->List (List Int):=fun k=>(List.range k).map f++List.replicate (n - k) []
 have hQ:∀k,k<=n->(Q k).length=n:=fun k hk=>by simp[Q];omega
 unfold dX
 rw[eM (by omega),show List.replicate (Int.toNat (List.length c:Int)) ([]:List Int)=Q 0 by simp[Q,n]]
 refine dA (step:=eO 1000 c (m:Int)) n (fun k=>((k:Int),Q k)) (fun k ag hk=> ?_) (fun ag=> ?_) 1000 (by show n<1000;omega)
 ·have hk30:=hr k hk
  have hq:k<(Q k).length:=by rw[hQ k (by omega)];exact hk
  have hk:k<c.length:=hk
  unfold eO
  dsimp only
  rw[if_pos (by omega),eM (by omega),eM (by omega)]
  have htk:List.drop (Int.toNat 0) (List.take (Int.toNat (min ((at' c (k:Int)).length:Int) (32:Int))) (at' c (k:Int)))=at' c (k:Int):=by
   rw[show Int.toNat (min ((at' c (k:Int)).length:Int) (32:Int))=(at' c (k:Int)).length by omega,List.take_length];rfl
  have e0:Q k=(Q k).set k (qZ m (at' c (k:Int)) 0):=by
   have h0:at' (Q k) (k:Int)=[]:=by rw[eV hq];simp[Q]
   have:=xL (Q k) (k:Int) (by simpa using hq) (by omega)
   rw[h0]at this
   exact this.symm
  have hgen:∀A:List (List Int),A.length=n->A.set k (f k)=Q (k+1)->bU (fP c (m:Int) ((k:Int),Q k) ag) 1000 ((0:Int),A.set k (qZ m (at' c (k:Int)) 0))=ag (((k+1:Nat):Int),Q (k+1)):=by
   intro A hA hAk
   refine dA (step:=fP c (m:Int) ((k:Int),Q k) ag) (at' c (k:Int)).length (fun j=>((j:Int),A.set k (qZ m (at' c (k:Int)) j))) (fun j ag2 hj=> ?_) (fun ag2=> ?_) 1000 (by omega)
   ·have hAk:(A.set k (qZ m (at' c (k:Int)) j)).length=n:=by simp[hA]
    have hn:k<n:=hk
    have a1:at' (A.set k (qZ m (at' c (k:Int)) j)) (k:Int)=qZ m (at' c (k:Int)) j:=by rw[Ca _ _ _ _ (by omega),if_pos rfl]
    have hl:=IA m (at' c (k:Int)) j
    unfold fP jJ
    dsimp only
    rw[htk,if_pos (by omega),eM (by omega),eM (by omega),XQ (by omega) hm,eX (by omega),a1,Int.toNat_natCast]
    by_cases hb:m.testBit j=true
    ·rw[if_pos hb,if_pos rfl,eM (by omega),eM (by simp;omega),eM (by rw[List.length_set];omega),List.set_set]
     have:qZ m (at' c (k:Int)) (j+1)=qZ m (at' c (k:Int)) j++[at' (at' c (k:Int)) (j:Int)]:=by rw[qZ,if_pos hb]
     rw[this]
    ·rw[if_neg hb,if_neg (by decide)]
     have:qZ m (at' c (k:Int)) (j+1)=qZ m (at' c (k:Int)) j:=by rw[qZ,if_neg hb]
     rw[this]
   ·unfold fP mB
    dsimp only
    rw[htk,if_neg (by omega),eX (by omega)]
    rw[show A.set k (qZ m (at' c (k:Int)) (at' c (k:Int)).length)=Q (k+1)from hAk]
  have hs:=mS f [] n k hk
  rw[e0]
  have:=hgen (Q k) (hQ k (by omega)) hs
  rw[<-e0]at this ⊢
  exact this
 ·unfold eO mA
  dsimp only
  rw[if_neg (by show¬((c.length:Nat):Int)<_;omega)]
  simp[Q,f,n]
theorem CU {g:GR} {c:List (List Int)} {nv k m:Nat} (hV:VG g) (hc:tQ g nv c) (hn:nv<=30) (hm:m<4294967296) (h:∀l:List Int,l.length=nv->qZ m l nv=l.take k):dX 1000 c (m:Int)=some (lX k c):=by
 have h24:=hV.n24
 have hl:=hc.len
 rw[Kd (by omega) (fun v hv=>by rw[hc.row v (by omega)];exact hn) hm]
 congr 1
 refine List.ext_getElem (by simp[lX]) fun i h1 h2=> ?_
 have hi:i<c.length:=by simpa using h1
 have hr:=hc.row i (by omega)
 simp only[List.getElem_map,List.getElem_range,lX]
 rw[hr,h _ hr,eV hi]
end Go.Proofs.YtlciiihigmgaiaaGreat
end
section
namespace Go.Proofs.YtlciiihigmgaiaaGreat
open Go.Sx
section
def r_  (a2:Unit):Option (Bool):=
 some (true)
def pD (U:Nat) (p0:bJ) (p1:bJ) (a6:Int) (ag5:(Int)->Option (Bool)):Option (Bool):=
 if a6<(List.length p0:Int)then(ck (0<=a6∧a6<(List.length p0:Int)) (ck (0<=a6∧a6<(List.length p1:Int)) (Option.bind (oA U (at' p0 a6) (at' p1 a6)) fun r12=>(if(!r12)=true then(some (false))else(ag5 (wI .i64 (a6+(1:Int))))))))else(r_  (()))
def oB (U:Nat) (p0:bJ) (p1:bJ):Option (Bool):=
 if(List.length p0:Int)≠(List.length p1:Int)then(some (false))else(bU (pD U p0 p1) U (0:Int))
theorem NC:aZ Tryz.prog 15:=Tryz.call15
theorem BQ (U:Nat) {p0:bJ} {p1:bJ} (v0:Value)  (z1:pH)  (v2:Value)  (z3:pH) (r:Bool) (h:oB U p0 p1=some r):
  bA Tryz.prog 15 #[v0,v2] [S2 bP v0 z1 p0,S2 bP v2 z3 p1] (fun x:Unit=>vB (r)) (fun x l=>l) (fun _ l=>l):=by
 refine bA.of Tryz.func15 rfl Tryz.ntmps15 rfl fun c=>?_
 refine aS<|aE rfl<|aN<|aM<|aS<|aA rfl<|aD (jI rfl (aG.fact 0 rfl) rfl) rfl<|aA rfl<|aD (jI rfl (aG.fact 1 rfl) rfl) rfl<|pC rfl<|aN ?_
 refine fM h rfl (fun h=>?_) fun h=>?_
 ·refine aS<|aE rfl<|aN<|aU<|aJ ?_
  cases h
  exact kW rfl
 refine dV<|aM<|jS (fun a2=>r_  a2=some r) (fun a2 b3=>[]) (fun a2 b3=>[]) ?_ ?_
 ·refine aS<|aE rfl<|aN<|aX<|gG (pD U p0 p1) (fun a6 b7=>[(0,v0),(1,v2),(5,vI (a6))]) (fun a6 b7=>[]) (0:Int) () h SF (bF.refl _) ?_
  intro k8 a6 b7 h
  refine aM<|aS<|aA rfl<|aA rfl<|aD (jI rfl (aG.fact 0 rfl) rfl) rfl<|dR rfl<|aN ?_
  refine fM h rfl (fun h=>?_) fun h=>?_
  ·refine dV<|aM<|aX<|aM ?_
   refine JR.start [0,0,3,7,0,0,48,112,255,511] 8 mixedOrders (by decide +kernel) ?_
   refine JR.open (by exact rfl) ?_
   refine bL rfl<|bL rfl<|fL h fun j10 h=>bO rfl .nil (oF 0 rfl) (cX rfl rfl (aG.fact 0 rfl) rfl rfl j10) aO.z<|bO rfl .nil (oF 0 rfl) (dH rfl (aG.fact 0 rfl) rfl rfl j10) aO.z<|bL rfl<|bL rfl<|fL h fun j11 h=>bO rfl .nil (oF 1 rfl) (cX rfl rfl (aG.fact 0 rfl) rfl rfl j11) aO.z<|bO rfl .nil (oF 1 rfl) (dH rfl (aG.fact 0 rfl) rfl rfl j11) aO.z<|cR 8 rfl rfl<|fE h fun r12 w13 h=>aI (aK.callQ TO (Cz U ((at' z1 a6).1) ((at' z3 a6).1) r12 w13) rfl (aF.cons (aG.el (aG.fact 0 rfl) j10.1 j10.2) (aF.cons (aG.el (aG.fact 1 rfl) j11.1 j11.2) .nil))) rfl fun x14=>aD (DJ rfl) rfl<|aN ?_
   refine Cb h rfl (fun _ h=>?_) fun _ h=>?_
   ·refine aS<|aE rfl<|aN<|aU<|bR<|aJ<|aJ<|bR<|aJ ?_
    cases h
    exact kW rfl
   refine e_<|qB<|aQ<|aA rfl<|dG rfl<|aE rfl<|aN ?_
   exact Bf (wI .i64 (a6+(1:Int))) () h SF rfl
  refine h_ ?_
  exact lW () (()) h SF rfl
 intro a2 b3 h
 unfold r_ at h
 refine aS<|aE rfl<|aN<|aU ?_
 cases h
 exact kW rfl
end
section
def eS (U:Nat) (p0:Int):Option (ByteArray):=
 Option.bind (dC U p0 (4:Int)) fun r1=>(if r1=(0:Int)then(some (ByteArray.mk #[112,114,111,103,114,97,109,32,97,59,10,118,97,114,32,120,32,58,32,48,32,46,46,32,51,59,10,114,117,108,101,32,117,112,58,32,120,32,60,32,51,32,38,38,32,97,108,108,40,113,46,120,32,62,61,32,120,41,32,45,62,32,120,32,58,61,32,120,32,43,32,49,59,10]))else(if r1=(1:Int)then(some (ByteArray.mk #[112,114,111,103,114,97,109,32,98,59,10,118,97,114,32,120,32,58,32,48,32,46,46,32,51,59,10,118,97,114,32,121,32,58,32,48,32,46,46,32,50,59,10,114,117,108,101,32,115,101,101,58,32,121,32,33,61,32,120,32,37,32,51,32,45,62,32,121,32,58,61,32,120,32,37,32,51,59,10]))else(if r1=(2:Int)then(some (ByteArray.mk #[112,114,111,103,114,97,109,32,99,59,10,118,97,114,32,112,32,58,32,112,111,114,116,59,10,118,97,114,32,122,32,58,32,98,111,111,108,59,10,114,117,108,101,32,97,105,109,58,32,112,32,33,61,32,102,105,114,115,116,40,113,46,122,41,32,45,62,32,112,32,58,61,32,102,105,114,115,116,40,113,46,122,41,59,10,114,117,108,101,32,116,117,114,110,101,100,58,32,122,32,33,61,32,114,111,111,116,32,45,62,32,122,32,58,61,32,114,111,111,116,59,10]))else(some (ByteArray.mk #[112,114,111,103,114,97,109,32,100,59,10,118,97,114,32,119,32,58,32,98,111,111,108,59,10,114,117,108,101,32,102,108,105,112,58,32,115,111,109,101,40,113,46,119,32,61,61,32,119,41,32,45,62,32,119,32,58,61,32,33,119,59,10])))))
theorem NJ:aZ Tryz.prog 7:=Tryz.call7
theorem vQ (U:Nat) {p0:Int} (r:ByteArray) (h:eS U p0=some r):
  bA Tryz.prog 7 #[vI (p0)] [] (fun x:Unit=>vS (r)) (fun x l=>l) (fun _ l=>l):=by
 refine bA.of Tryz.func7 rfl Tryz.ntmps7 rfl fun c=>?_
 refine aS<|aE rfl<|aN<|aM<|aS<|aA rfl<|fE h fun r1 w2 h=>aI (aK.callQ yL (eR U  r1 w2) rfl .nil) rfl fun x3=>aN<|aX<|aS<|cN rfl<|aE rfl<|aN ?_
 refine fM h rfl (fun h=>?_) fun h=>?_
 ·refine aS<|aE rfl<|aN<|aU<|bR<|aJ ?_
  cases h
  exact kW rfl
 refine aS<|cN rfl<|aE rfl<|aN ?_
 refine fM h rfl (fun h=>?_) fun h=>?_
 ·refine aS<|aE rfl<|aN<|aU<|bR<|aJ ?_
  cases h
  exact kW rfl
 refine aS<|cN rfl<|aE rfl<|aN ?_
 refine fM h rfl (fun h=>?_) fun h=>?_
 ·refine aS<|aE rfl<|aN<|aU<|bR<|aJ ?_
  cases h
  exact kW rfl
 refine e_<|qB<|aS<|aE rfl<|aN<|aU ?_
 cases h
 exact kW rfl
end
end Go.Proofs.YtlciiihigmgaiaaGreat
end
section
namespace Go.Proofs.YtlciiihigmgaiaaGreat
open Go Go.Sx Go.Gx
set_option maxRecDepth 100000
def lB (fuel:Nat):Option (Bool):=some (true)
theorem DR:aZ Tryz.prog 12:=Tryz.call12
theorem NQ:X_ (tS sR gp2 4000 12 [] H0)=true:=by kernel_rfl
theorem sC (fuel:Nat) (r:Bool) (h:lB fuel=some r):
  bA Tryz.prog 12 #[] [] (fun x:Unit=>Value.bool (r)) (fun x l=>l) (fun _ l=>l):=by
 obtain rfl:=Option.some.inj h
 obtain⟨H',h1⟩:=OU NQ
 rw[nK kA]at h1
 exact GZ Um DR (fun ρ V' h=>h.bool_inv) fun T b=>yM (gs:=gl T) XS h1 (dU.start b rfl) .nil
end Go.Proofs.YtlciiihigmgaiaaGreat
end
section
namespace Go.Proofs.YtlciiihigmgaiaaGreat
open Go.Sx
noncomputable def fH  (a83:Bool):Option (Bool):=
 some (a83)
noncomputable def gV (U:Nat) (r14:Tl) (r67:bJ×Int) (a80:rI):Option (Bool):=
 Option.bind (lB U) fun r85=>(if r85=true then(if a80.1=(0:Int)then(if r67.2=(0:Int)then(Option.bind (dX U r67.1 (wI .u32 ((Bt .u32 (1:Int) (wI .u64 (List.length r14.2.1:Int))) - (1:Int)))) fun r91=>(Option.bind (oB U r91 a80.2) fun r94=>(fH  (r94))))else(fH  (false)))else(fH  (false)))else(fH  (false)))
noncomputable def fI  (a137:Bool):Option (Bool):=
 some (a137)
noncomputable def gW (U:Nat) (r14:Tl) (r121:bJ×Int) (a134:rI):Option (Bool):=
 Option.bind (lB U) fun r139=>(if r139=true then(if a134.1=(0:Int)then(if r121.2=(0:Int)then(Option.bind (dX U r121.1 (wI .u32 ((Bt .u32 (1:Int) (wI .u64 (List.length r14.2.1:Int))) - (1:Int)))) fun r145=>(Option.bind (oB U r145 a134.2) fun r148=>(fI  (r148))))else(fI  (false)))else(fI  (false)))else(fI  (false)))
noncomputable def nM (U:Nat) (p0:wM) (p1:Int) (p2:bM) (p3:Int):Option (Bool):=
 Option.bind (kR U ((p0.1,p0.2.1,p0.2.2.1,p0.2.2.2.1,p0.2.2.2.2.1,p0.2.2.2.2.2)) (7:Int)) fun r2=>(Option.bind (dC U p1 (2:Int)) fun r8=>(Option.bind (eS U (wI .i64 ((2:Int)*r8))) fun r11=>(Option.bind (cO U r11) fun r14=>Gw r14.2.2 fun z17=>(Option.bind (eS U (1:Int)) fun r22=>(Option.bind (cO U r22) fun r25=>Gw r25.2.2 fun z28=>(Option.bind (dC U p1 (2:Int)) fun r33=>(if r33=(1:Int)then(Option.bind (eS U (3:Int)) fun r37=>(Option.bind (cO U r37) fun r40=>Gw r40.2.2 fun z43=>(Option.bind (iL U r11 r37) fun r47=>Gw r47.1.2.2 fun z50=>(if r47.2≠(0:Int)then(some (false))else(ck (0<=(wI .u64 (List.length r14.2.1:Int))) (Option.bind (gD U ((r2.1,r2.2)) r47.1.2.1 p2) fun r57=>(Option.bind (gC U ((r47.1.1,r47.1.2.1,z50)) ((r2.1,r2.2)) r57) fun r60=>(if(uP .u32 r60 p3)=(0:Int)then(Option.bind (lB U) fun r64=>(some (r64)))else(Option.bind (kU U ((r47.1.1,r47.1.2.1,z50)) ((r2.1,r2.2)) r57 (uP .u32 r60 p3)) fun r67=>(Option.bind (dX U r57 (wI .u32 ((Bt .u32 (1:Int) (wI .u64 (List.length r14.2.1:Int))) - (1:Int)))) fun r70=>(Option.bind (gC U ((r14.1,r14.2.1,z17)) ((r2.1,r2.2)) r70) fun r73=>(if(uP .u32 (uP .u32 r60 p3) r73)≠(0:Int)then(Option.bind (kU U ((r14.1,r14.2.1,z17)) ((r2.1,r2.2)) r70 (uP .u32 (uP .u32 r60 p3) r73)) fun r98=>(gV U r14 r67 (r98.2,r98.1)))else(gV U r14 r67 (r47.2,r70))))))))))))))else(Option.bind (iL U r11 r22) fun r101=>Gw r101.1.2.2 fun z104=>(if r101.2≠(0:Int)then(some (false))else(ck (0<=(wI .u64 (List.length r14.2.1:Int))) (Option.bind (gD U ((r2.1,r2.2)) r101.1.2.1 p2) fun r111=>(Option.bind (gC U ((r101.1.1,r101.1.2.1,z104)) ((r2.1,r2.2)) r111) fun r114=>(if(uP .u32 r114 p3)=(0:Int)then(Option.bind (lB U) fun r118=>(some (r118)))else(Option.bind (kU U ((r101.1.1,r101.1.2.1,z104)) ((r2.1,r2.2)) r111 (uP .u32 r114 p3)) fun r121=>(Option.bind (dX U r111 (wI .u32 ((Bt .u32 (1:Int) (wI .u64 (List.length r14.2.1:Int))) - (1:Int)))) fun r124=>(Option.bind (gC U ((r14.1,r14.2.1,z17)) ((r2.1,r2.2)) r124) fun r127=>(if(uP .u32 (uP .u32 r114 p3) r127)≠(0:Int)then(Option.bind (kU U ((r14.1,r14.2.1,z17)) ((r2.1,r2.2)) r124 (uP .u32 (uP .u32 r114 p3) r127)) fun r152=>(gW U r14 r121 (r152.2,r152.1)))else(gW U r14 r121 (r101.2,r124)))))))))))))))))))
theorem zO (U:Nat) {p0:wM} {p1:Int} {p2:bM} {p3:Int} (v0:Value)  (v1:Value)  (v2:Value)  (v3:Value) (r:Bool) (h:nM U p0 p1 p2 p3=some r):
  bA Tryz.prog 3 #[Value.agg #[vI (p0.1),v0,v1,v2,vB (p0.2.2.2.2.1),vB (p0.2.2.2.2.2)],vI (p1),v3,vU (p3)] [Sl bP v0 p0.2.1,Sl bP v1 p0.2.2.1,Sl bP v2 p0.2.2.2.1,Sl bP v3 p2] (fun x:Unit=>vB (r)) (fun x l=>l) (fun _ l=>l):=by
 refine bA.of Tryz.func3 rfl Tryz.ntmps3 rfl fun c=>?_
 refine aS<|aI (aK.box (cs:=[vI (p0.1),v0,v1,v2,vB (p0.2.2.2.2.1),vB (p0.2.2.2.2.2)]) rfl rfl) rfl fun b1=>aE rfl<|aN<|aS<|dQ 0 rfl<|fE h fun r2 w3 h=>aI (aK.callQ Vv (BL U v0 v1 v2 r2 w3) rfl (qC [0,1,2] rfl)) rfl fun x4=>aI (aK.alloc (cs:=[mG,mG]) rfl rfl) rfl fun b5=>b_ (Know.one ((cC (aG.res 1 rfl) eL))) fun ho6=>b_ (Know.one (aG.sl (bD (i:=2) (j:=3) rfl rfl bG))) fun ho7=>bZ 0 (vs:=[x4.1,x4.2.1]) rfl rfl (l_ ho6 (l_ ho7 rfl)) rfl rfl rfl<|aN<|aS<|aA rfl<|fE h fun r8 w9 h=>aI (aK.callQ yL (eR U  r8 w9) rfl .nil) rfl fun x10=>aD (yI rfl rfl) rfl<|fE h fun r11 w12 h=>aI (aK.callQ NJ (vQ U  r11 w12) rfl .nil) rfl fun x13=>fE h fun r14 w15 h=>aI (aK.call DU (Da U r14 w15) rfl .nil (fun _ _=>rfl) (fun _ _=>rfl)) rfl fun⟨x16a,x16b,z17,hz18⟩=>?_
 have h:=v_ h z17 hz18
 refine aI (aK.alloc (cs:=WF) rfl rfl) rfl fun b19=>b_ (Know.one ((aG.fact 0 rfl))) fun ho20=>b_ (Know.one ((aG.fact 1 rfl))) fun ho21=>bZ 0 (vs:=[vS (r14.1),x16a,x16b]) rfl rfl (l_ rfl (l_ ho20 (l_ ho21 rfl))) rfl rfl rfl<|aN<|aS<|fE h fun r22 w23 h=>aI (aK.callQ NJ (vQ U  r22 w23) rfl .nil) rfl fun x24=>fE h fun r25 w26 h=>aI (aK.call DU (sI U r25 w26 (t0:=r11) (V0:=Value.agg #[vS r14.1,x16a,x16b])) rfl (oF 3 rfl) (fun _ _=>rfl) (fun _ _=>rfl)) rfl fun⟨x27a,x27b,z28,hz29⟩=>?_
 have h:=v_ h z28 hz29
 refine aI (aK.alloc (cs:=WF) rfl rfl) rfl fun b30=>b_ (Know.one ((aG.fact 0 rfl))) fun ho31=>b_ (Know.one ((aG.fact 1 rfl))) fun ho32=>bZ 0 (vs:=[vS (r25.1),x27a,x27b]) rfl rfl (l_ rfl (l_ ho31 (l_ ho32 rfl))) rfl rfl rfl<|aN<|aM<|aS<|aA rfl<|fE h fun r33 w34 h=>aI (aK.callQ yL (eR U  r33 w34) rfl .nil) rfl fun x35=>cN rfl<|aN ?_
 refine fM h rfl (fun h=>?_) fun h=>?_
 ·refine aQ<|fE h fun r37 w38 h=>aI (aK.callQ NJ (vQ U  r37 w38) rfl .nil) rfl fun x39=>fE h fun r40 w41 h=>aI (aK.call DU (sI U r40 w41 (t0:=r11) (V0:=Value.agg #[vS r14.1,x16a,x16b])) rfl (oF 8 rfl) (fun _ _=>rfl) (fun _ _=>rfl)) rfl fun⟨x42a,x42b,z43,hz44⟩=>?_
  have h:=v_ h z43 hz44
  refine b_ (Know.one ((aG.fact 0 rfl))) fun ho45=>b_ (Know.one ((aG.fact 1 rfl))) fun ho46=>bZ 0 (vs:=[vS (r40.1),x42a,x42b]) rfl rfl (l_ rfl (l_ ho45 (l_ ho46 rfl))) rfl rfl rfl<|aN<|aS<|dQ 1 rfl<|dQ 0 rfl<|fE h fun r47 w48 h=>aI (aK.call KH (zL U r47 w48) rfl (oF 4 rfl) (fun _ _=>rfl) (fun _ _=>rfl)) rfl fun⟨x49a,x49b,z50,hz51⟩=>?_
  have h:=v_ h z50 hz51
  refine aA rfl<|eT rfl<|eT rfl<|aI (aK.alloc (cs:=WF) rfl rfl) rfl fun b52=>b_ (Know.one ((aG.fact 0 rfl))) fun ho53=>b_ (Know.one ((aG.fact 1 rfl))) fun ho54=>bZ 0 (vs:=[vS (r47.1.1),x49a,x49b]) rfl rfl (l_ rfl (l_ ho53 (l_ ho54 rfl))) rfl rfl rfl<|aE rfl<|aN<|aM<|aS<|aA rfl<|pC rfl<|aN ?_
  refine fM h rfl (fun h=>?_) fun h=>?_
  ·refine aS<|aE rfl<|aN<|aU<|aJ ?_
   cases h
   exact wO rfl
  refine dV<|aS<|cH rfl<|gE 2 rfl<|jT (aG.fact 13 rfl) rfl<|aD (Nr rfl rfl rfl) rfl<|fL h fun j56 h=>aD (Nv rfl rfl j56) rfl<|aD (rP rfl rfl) rfl<|aE rfl<|aN<|aS<|dQ 3 rfl<|cH rfl<|gE 0 rfl<|aA rfl<|fE h fun r57 w58 h=>aI (aK.callQ NB (zQ U x4.1 x4.2.1 (List.zip x4.2.2 r2.2) x49a v3 r57 w58) rfl (aF.cons (cC (aG.res 4 rfl) eL) (aF.cons (bD (i:=5) (j:=6) rfl rfl bG) (qC [0,20] rfl)))) rfl fun x59=>aE rfl<|aN<|aS<|dQ 2 rfl<|dQ 5 rfl<|aA rfl<|fE h fun r60 w61 h=>aI (aK.callQ GA (qY U x49a x49b x4.1 x4.2.1 (List.zip x4.2.2 r2.2) x59.1 (List.zip x59.2 r57) r60 w61) rfl (aF.cons (aG.fact 0 rfl) (aF.cons (aG.fact 1 rfl) (aF.cons (aG.fact 2 rfl) (aF.cons (cC (aG.res 6 rfl) eL) (aF.cons (bD (i:=7) (j:=8) rfl rfl bG) (aF.cons (bD (i:=0) (j:=1) rfl rfl eL) .nil))))))) rfl fun x62=>aA rfl<|F_ rfl<|aE rfl<|aN<|aM<|aS<|aA rfl<|cN rfl<|aN ?_
  refine fM h rfl (fun h=>?_) fun h=>?_
  ·refine aS<|fE h fun r64 w65 h=>aI (aK.callQ DR (sC U  r64 w65) rfl .nil) rfl fun x66=>aE rfl<|aN<|aU<|aJ ?_
   cases h
   exact wO rfl
  refine dV<|aS<|dQ 2 rfl<|dQ 5 rfl<|aA rfl<|aA rfl<|fE h fun r67 w68 h=>aI (aK.callQ GB (vC U x49a x49b x4.1 x4.2.1 (List.zip x4.2.2 r2.2) x59.1 (List.zip x59.2 r57) r67 w68) rfl (aF.cons (aG.fact 0 rfl) (aF.cons (aG.fact 1 rfl) (aF.cons (aG.fact 2 rfl) (aF.cons (cC (aG.res 6 rfl) eL) (aF.cons (bD (i:=7) (j:=8) rfl rfl bG) (aF.cons (bD (i:=0) (j:=1) rfl rfl eL) .nil))))))) rfl fun x69=>aA rfl<|eT rfl<|eT rfl<|aE rfl<|aE rfl<|aN<|aS<|aA rfl<|aA rfl<|fE h fun r70 w71 h=>aI (aK.callQ GC (nC U x59.1 (List.zip x59.2 r57) r70 w71) rfl (aF.cons (bD (i:=2) (j:=3) rfl rfl eL) .nil)) rfl fun x72=>aE rfl<|aN<|aS<|aA rfl<|dQ 8 rfl<|dQ 9 rfl<|aA rfl<|fE h fun r73 w74 h=>aI (aK.callQ GA (qY U x16a x16b x4.1 x4.2.1 (List.zip x4.2.2 r2.2) x72.1 (List.zip x72.2 r70) r73 w74) rfl (aF.cons (aG.fact 13 rfl) (aF.cons (aG.fact 14 rfl) (aF.cons (aG.fact 15 rfl) (aF.cons (cC (aG.res 10 rfl) eL) (aF.cons (bD (i:=11) (j:=12) rfl rfl bG) (aF.cons (bD (i:=0) (j:=1) rfl rfl eL) .nil))))))) rfl fun x75=>F_ rfl<|aE rfl<|aN<|aS<|aA rfl<|aE rfl<|aN<|aM<|tO (B:=AO) (fun a80=>gV U r14 r67 a80=some r) (fun a80 b81=>[(13,vI (a80.1)),(14,vU (wI .u32 ((Bt .u32 (1:Int) (wI .u64 (List.length r14.2.1:Int))) - (1:Int)))),(17,x69.1),(18,vI (r67.2)),(21,b81.1)]) (fun a80 b81=>[Ar dZ.raw b81.1 b81.2,i_ cU b81.2 a80.2,Ar dZ.raw x69.1 x69.2,i_ cU x69.2 r67.1]) (fun a80 b81=>[Sl aH x49a r47.1.2.1,Sl aC x49b z50,PF (Value.agg #[vS r47.1.1,x49a,x49b]),Sl aH x42a r40.2.1,Sl aC x42b z43,PF (Value.agg #[vS r40.1,x42a,x42b]),PT r37 (Value.agg #[vS r40.1,x42a,x42b]),PP r11 r37 (Value.agg #[vS r14.1,x16a,x16b]) (Value.agg #[vS r40.1,x42a,x42b]),Sl aH x27a r25.2.1,Sl aC x27b z28,PF (Value.agg #[vS r25.1,x27a,x27b]),PT r22 (Value.agg #[vS r25.1,x27a,x27b]),PP r11 r22 (Value.agg #[vS r14.1,x16a,x16b]) (Value.agg #[vS r25.1,x27a,x27b]),Sl aH x16a r14.2.1,Sl aC x16b z17,PF (Value.agg #[vS r14.1,x16a,x16b]),PT r11 (Value.agg #[vS r14.1,x16a,x16b]),Sl bP v0 p0.2.1,Sl bP v1 p0.2.2.1,Sl bP v2 p0.2.2.2.1,Sl bP v3 p2]) ?_ ?_
  ·refine aS<|aA rfl<|pC rfl<|aN ?_
   refine fM h rfl (fun h=>?_) fun h=>?_
   ·refine aQ<|dQ 8 rfl<|dQ 9 rfl<|aA rfl<|aA rfl<|fE h fun r98 w99 h=>aI (aK.callQ GB (vC U x16a x16b x4.1 x4.2.1 (List.zip x4.2.2 r2.2) x72.1 (List.zip x72.2 r70) r98 w99) rfl (aF.cons (aG.fact 13 rfl) (aF.cons (aG.fact 14 rfl) (aF.cons (aG.fact 15 rfl) (aF.cons (cC (aG.res 10 rfl) eL) (aF.cons (bD (i:=11) (j:=12) rfl rfl bG) (aF.cons (bD (i:=0) (j:=1) rfl rfl eL) .nil))))))) rfl fun x100=>aA rfl<|eT rfl<|eT rfl<|aE rfl<|aE rfl<|aN ?_
    exact dL (r98.2,r98.1) (x100.1,x100.2) h SF (bF.ix [0,1,4,5] rfl rfl) (aF.refl _ _)
   refine dV ?_
   exact dL (r47.2,r70) (x72.1,x72.2) h SF (bF.ix [0,1,2,3] rfl rfl) (aF.refl _ _)
  intro a80 b81 h
  refine aM<|tO (B:=Unit) (fun a83=>fH  a83=some r) (fun a83 b84=>[(8,vB (a83))]) (fun a83 b84=>[]) (fun a83 b84=>[Sl aH x49a r47.1.2.1,Sl aC x49b z50,PF (Value.agg #[vS r47.1.1,x49a,x49b]),Sl aH x42a r40.2.1,Sl aC x42b z43,PF (Value.agg #[vS r40.1,x42a,x42b]),PT r37 (Value.agg #[vS r40.1,x42a,x42b]),PP r11 r37 (Value.agg #[vS r14.1,x16a,x16b]) (Value.agg #[vS r40.1,x42a,x42b]),Sl aH x27a r25.2.1,Sl aC x27b z28,PF (Value.agg #[vS r25.1,x27a,x27b]),PT r22 (Value.agg #[vS r25.1,x27a,x27b]),PP r11 r22 (Value.agg #[vS r14.1,x16a,x16b]) (Value.agg #[vS r25.1,x27a,x27b]),Sl aH x16a r14.2.1,Sl aC x16b z17,PF (Value.agg #[vS r14.1,x16a,x16b]),PT r11 (Value.agg #[vS r14.1,x16a,x16b]),Sl bP v0 p0.2.1,Sl bP v1 p0.2.2.1,Sl bP v2 p0.2.2.2.1,Sl bP v3 p2]) ?_ ?_
  ·refine aQ<|fE h fun r85 w86 h=>aI (aK.callQ DR (sC U  r85 w86) rfl .nil) rfl fun x87=>aA rfl ?_
   refine Dd (by exact rfl) (by exact rfl) (fun hp88=>?_) (fun hp88=>?_)
   ·have h:=SS hp88 h
    refine eQ rfl<|bT rfl (Fx rfl rfl) rfl<|lD rfl<|aA rfl ?_
    refine EV h rfl (fun _ h=>?_) fun _ h=>?_
    ·refine eQ rfl<|bT rfl (Fx rfl rfl) rfl<|lD rfl<|aA rfl ?_
     refine EV h rfl (fun _ h=>?_) fun _ h=>?_
     ·refine eQ rfl<|eQ rfl<|fE h fun r91 w92 h=>wQ rfl (aK.callQ GC (nC U x69.1 (List.zip x69.2 r67.1) r91 w92) rfl (aF.cons (bD (i:=2) (j:=3) rfl rfl eL) .nil)) rfl fun x93=>eQ rfl<|fE h fun r94 w95 h=>wQ rfl (aK.callQ NC (BQ U x93.1 (List.zip x93.2 r91) b81.1 (List.zip b81.2 a80.2) r94 w95) rfl (aF.cons (bD (i:=0) (j:=1) rfl rfl eL) (aF.cons (bD (i:=2) (j:=3) rfl rfl eL) .nil))) rfl fun x96=>lD rfl<|aE rfl<|aN ?_
      exact dL (r94) () h SF .nil (aF.refl _ _)
     refine aT rfl<|aT rfl<|aT rfl<|aT rfl<|aT rfl<|jU rfl<|aE rfl<|aN ?_
     exact dL (false) () h SF .nil (aF.refl _ _)
    refine aT rfl<|aT rfl<|jU rfl<|aA rfl<|aT rfl<|aT rfl<|aT rfl<|aT rfl<|aT rfl<|jU rfl<|aE rfl<|aN ?_
    exact dL (false) () h SF .nil (aF.refl _ _)
   have h:=RD hp88 h
   refine aT rfl<|aT rfl<|jU rfl<|aA rfl<|aT rfl<|aT rfl<|jU rfl<|aA rfl<|aT rfl<|aT rfl<|aT rfl<|aT rfl<|aT rfl<|jU rfl<|aE rfl<|aN ?_
   exact dL (false) () h SF .nil (aF.refl _ _)
  intro a83 b84 h
  unfold fH at h
  refine aU ?_
  cases h
  exact kW rfl
 refine dV<|aS<|dQ 1 rfl<|dQ 0 rfl<|fE h fun r101 w102 h=>aI (aK.call KH (zL U r101 w102) rfl (oF 4 rfl) (fun _ _=>rfl) (fun _ _=>rfl)) rfl fun⟨x103a,x103b,z104,hz105⟩=>?_
 have h:=v_ h z104 hz105
 refine aA rfl<|eT rfl<|eT rfl<|aI (aK.alloc (cs:=WF) rfl rfl) rfl fun b106=>b_ (Know.one ((aG.fact 0 rfl))) fun ho107=>b_ (Know.one ((aG.fact 1 rfl))) fun ho108=>bZ 0 (vs:=[vS (r101.1.1),x103a,x103b]) rfl rfl (l_ rfl (l_ ho107 (l_ ho108 rfl))) rfl rfl rfl<|aE rfl<|aN<|aM<|aS<|aA rfl<|pC rfl<|aN ?_
 refine fM h rfl (fun h=>?_) fun h=>?_
 ·refine aS<|aE rfl<|aN<|aU<|aJ ?_
  cases h
  exact wO rfl
 refine dV<|aS<|cH rfl<|gE 2 rfl<|jT (aG.fact 8 rfl) rfl<|aD (Nr rfl rfl rfl) rfl<|fL h fun j110 h=>aD (Nv rfl rfl j110) rfl<|aD (rP rfl rfl) rfl<|aE rfl<|aN<|aS<|dQ 3 rfl<|cH rfl<|gE 0 rfl<|aA rfl<|fE h fun r111 w112 h=>aI (aK.callQ NB (zQ U x4.1 x4.2.1 (List.zip x4.2.2 r2.2) x103a v3 r111 w112) rfl (aF.cons (cC (aG.res 4 rfl) eL) (aF.cons (bD (i:=5) (j:=6) rfl rfl bG) (qC [0,15] rfl)))) rfl fun x113=>aE rfl<|aN<|aS<|dQ 2 rfl<|dQ 5 rfl<|aA rfl<|fE h fun r114 w115 h=>aI (aK.callQ GA (qY U x103a x103b x4.1 x4.2.1 (List.zip x4.2.2 r2.2) x113.1 (List.zip x113.2 r111) r114 w115) rfl (aF.cons (aG.fact 0 rfl) (aF.cons (aG.fact 1 rfl) (aF.cons (aG.fact 2 rfl) (aF.cons (cC (aG.res 6 rfl) eL) (aF.cons (bD (i:=7) (j:=8) rfl rfl bG) (aF.cons (bD (i:=0) (j:=1) rfl rfl eL) .nil))))))) rfl fun x116=>aA rfl<|F_ rfl<|aE rfl<|aN<|aM<|aS<|aA rfl<|cN rfl<|aN ?_
 refine fM h rfl (fun h=>?_) fun h=>?_
 ·refine aS<|fE h fun r118 w119 h=>aI (aK.callQ DR (sC U  r118 w119) rfl .nil) rfl fun x120=>aE rfl<|aN<|aU<|aJ ?_
  cases h
  exact wO rfl
 refine dV<|aS<|dQ 2 rfl<|dQ 5 rfl<|aA rfl<|aA rfl<|fE h fun r121 w122 h=>aI (aK.callQ GB (vC U x103a x103b x4.1 x4.2.1 (List.zip x4.2.2 r2.2) x113.1 (List.zip x113.2 r111) r121 w122) rfl (aF.cons (aG.fact 0 rfl) (aF.cons (aG.fact 1 rfl) (aF.cons (aG.fact 2 rfl) (aF.cons (cC (aG.res 6 rfl) eL) (aF.cons (bD (i:=7) (j:=8) rfl rfl bG) (aF.cons (bD (i:=0) (j:=1) rfl rfl eL) .nil))))))) rfl fun x123=>aA rfl<|eT rfl<|eT rfl<|aE rfl<|aE rfl<|aN<|aS<|aA rfl<|aA rfl<|fE h fun r124 w125 h=>aI (aK.callQ GC (nC U x113.1 (List.zip x113.2 r111) r124 w125) rfl (aF.cons (bD (i:=2) (j:=3) rfl rfl eL) .nil)) rfl fun x126=>aE rfl<|aN<|aS<|aA rfl<|dQ 8 rfl<|dQ 9 rfl<|aA rfl<|fE h fun r127 w128 h=>aI (aK.callQ GA (qY U x16a x16b x4.1 x4.2.1 (List.zip x4.2.2 r2.2) x126.1 (List.zip x126.2 r124) r127 w128) rfl (aF.cons (aG.fact 8 rfl) (aF.cons (aG.fact 9 rfl) (aF.cons (aG.fact 10 rfl) (aF.cons (cC (aG.res 10 rfl) eL) (aF.cons (bD (i:=11) (j:=12) rfl rfl bG) (aF.cons (bD (i:=0) (j:=1) rfl rfl eL) .nil))))))) rfl fun x129=>F_ rfl<|aE rfl<|aN<|aS<|aA rfl<|aE rfl<|aN<|aM<|tO (B:=AO) (fun a134=>gW U r14 r121 a134=some r) (fun a134 b135=>[(13,vI (a134.1)),(14,vU (wI .u32 ((Bt .u32 (1:Int) (wI .u64 (List.length r14.2.1:Int))) - (1:Int)))),(17,x123.1),(18,vI (r121.2)),(21,b135.1)]) (fun a134 b135=>[Ar dZ.raw b135.1 b135.2,i_ cU b135.2 a134.2,Ar dZ.raw x123.1 x123.2,i_ cU x123.2 r121.1]) (fun a134 b135=>[Sl aH x103a r101.1.2.1,Sl aC x103b z104,PF (Value.agg #[vS r101.1.1,x103a,x103b]),Sl aH x27a r25.2.1,Sl aC x27b z28,PF (Value.agg #[vS r25.1,x27a,x27b]),PT r22 (Value.agg #[vS r25.1,x27a,x27b]),PP r11 r22 (Value.agg #[vS r14.1,x16a,x16b]) (Value.agg #[vS r25.1,x27a,x27b]),Sl aH x16a r14.2.1,Sl aC x16b z17,PF (Value.agg #[vS r14.1,x16a,x16b]),PT r11 (Value.agg #[vS r14.1,x16a,x16b]),Sl bP v0 p0.2.1,Sl bP v1 p0.2.2.1,Sl bP v2 p0.2.2.2.1,Sl bP v3 p2]) ?_ ?_
 ·refine aS<|aA rfl<|pC rfl<|aN ?_
  refine fM h rfl (fun h=>?_) fun h=>?_
  ·refine aQ<|dQ 8 rfl<|dQ 9 rfl<|aA rfl<|aA rfl<|fE h fun r152 w153 h=>aI (aK.callQ GB (vC U x16a x16b x4.1 x4.2.1 (List.zip x4.2.2 r2.2) x126.1 (List.zip x126.2 r124) r152 w153) rfl (aF.cons (aG.fact 8 rfl) (aF.cons (aG.fact 9 rfl) (aF.cons (aG.fact 10 rfl) (aF.cons (cC (aG.res 10 rfl) eL) (aF.cons (bD (i:=11) (j:=12) rfl rfl bG) (aF.cons (bD (i:=0) (j:=1) rfl rfl eL) .nil))))))) rfl fun x154=>aA rfl<|eT rfl<|eT rfl<|aE rfl<|aE rfl<|aN ?_
   exact dL (r152.2,r152.1) (x154.1,x154.2) h SF (bF.ix [0,1,4,5] rfl rfl) (aF.refl _ _)
  refine dV ?_
  exact dL (r101.2,r124) (x126.1,x126.2) h SF (bF.ix [0,1,2,3] rfl rfl) (aF.refl _ _)
 intro a134 b135 h
 refine aM<|tO (B:=Unit) (fun a137=>fI  a137=some r) (fun a137 b138=>[(8,vB (a137))]) (fun a137 b138=>[]) (fun a137 b138=>[Sl aH x103a r101.1.2.1,Sl aC x103b z104,PF (Value.agg #[vS r101.1.1,x103a,x103b]),Sl aH x27a r25.2.1,Sl aC x27b z28,PF (Value.agg #[vS r25.1,x27a,x27b]),PT r22 (Value.agg #[vS r25.1,x27a,x27b]),PP r11 r22 (Value.agg #[vS r14.1,x16a,x16b]) (Value.agg #[vS r25.1,x27a,x27b]),Sl aH x16a r14.2.1,Sl aC x16b z17,PF (Value.agg #[vS r14.1,x16a,x16b]),PT r11 (Value.agg #[vS r14.1,x16a,x16b]),Sl bP v0 p0.2.1,Sl bP v1 p0.2.2.1,Sl bP v2 p0.2.2.2.1,Sl bP v3 p2]) ?_ ?_
 ·refine aQ<|fE h fun r139 w140 h=>aI (aK.callQ DR (sC U  r139 w140) rfl .nil) rfl fun x141=>aA rfl ?_
  refine Dd (by exact rfl) (by exact rfl) (fun hp142=>?_) (fun hp142=>?_)
  ·have h:=SS hp142 h
   refine eQ rfl<|bT rfl (Fx rfl rfl) rfl<|lD rfl<|aA rfl ?_
   refine EV h rfl (fun _ h=>?_) fun _ h=>?_
   ·refine eQ rfl<|bT rfl (Fx rfl rfl) rfl<|lD rfl<|aA rfl ?_
    refine EV h rfl (fun _ h=>?_) fun _ h=>?_
    ·refine eQ rfl<|eQ rfl<|fE h fun r145 w146 h=>wQ rfl (aK.callQ GC (nC U x123.1 (List.zip x123.2 r121.1) r145 w146) rfl (aF.cons (bD (i:=2) (j:=3) rfl rfl eL) .nil)) rfl fun x147=>eQ rfl<|fE h fun r148 w149 h=>wQ rfl (aK.callQ NC (BQ U x147.1 (List.zip x147.2 r145) b135.1 (List.zip b135.2 a134.2) r148 w149) rfl (aF.cons (bD (i:=0) (j:=1) rfl rfl eL) (aF.cons (bD (i:=2) (j:=3) rfl rfl eL) .nil))) rfl fun x150=>lD rfl<|aE rfl<|aN ?_
     exact dL (r148) () h SF .nil (aF.refl _ _)
    refine aT rfl<|aT rfl<|aT rfl<|aT rfl<|aT rfl<|jU rfl<|aE rfl<|aN ?_
    exact dL (false) () h SF .nil (aF.refl _ _)
   refine aT rfl<|aT rfl<|jU rfl<|aA rfl<|aT rfl<|aT rfl<|aT rfl<|aT rfl<|aT rfl<|jU rfl<|aE rfl<|aN ?_
   exact dL (false) () h SF .nil (aF.refl _ _)
  have h:=RD hp142 h
  refine aT rfl<|aT rfl<|jU rfl<|aA rfl<|aT rfl<|aT rfl<|jU rfl<|aA rfl<|aT rfl<|aT rfl<|aT rfl<|aT rfl<|aT rfl<|jU rfl<|aE rfl<|aN ?_
  exact dL (false) () h SF .nil (aF.refl _ _)
 intro a137 b138 h
 unfold fI at h
 refine aU ?_
 cases h
 exact kW rfl
end Go.Proofs.YtlciiihigmgaiaaGreat
end
section
namespace Go.Proofs.YtlciiihigmgaiaaGreat
open Go Go.Sx
theorem UW:eS 1000 0=some oT:=by unfold eS;rw[bE (jG 0 4 (by omega) (by omega))];rfl
theorem PI:eS 1000 1=some oU:=by unfold eS;rw[bE (jG 1 4 (by omega) (by omega))];rfl
theorem UX:eS 1000 2=some oV:=by unfold eS;rw[bE (jG 2 4 (by omega) (by omega))];rfl
theorem UY:eS 1000 3=some oW:=by unfold eS;rw[bE (jG 3 4 (by omega) (by omega))];rfl
theorem Us:iL 1000 oT oU=some ((vM,Ct,An),0):=by
 unfold iL
 exact if_pos ⟨rfl,rfl⟩
theorem Ut:iL 1000 oV oW=some ((vN,Cu,Ao),0):=by
 unfold iL
 rw[if_neg (by decide +kernel)]
 exact if_pos ⟨rfl,rfl⟩
theorem Sr (c:bJ) (h:c.length<=900) (hr:∀v:Nat,v<c.length->(at' c (v:Int)).length<=30):oB 1000 c c=some true:=by
 unfold oB
 rw[if_neg (by simp)]
 refine dA (step:=pD 1000 c c) c.length (fun k=>(k:Int)) (fun k ag hk=> ?_) (fun ag=> ?_) 1000 (by omega)
 ·unfold pD
  rw[if_pos (by omega),eM (by omega),eM (by omega),bE (Fa _ (hr k hk)),if_neg (by decide),eX (by omega)]
 ·unfold pD r_
  rw[if_neg (by omega)]
theorem Ki {S:x_} {vars:List AH} {R:List RL} {c:bJ}:uF S vars R c 0=c:=by
 unfold uF
 refine List.ext_getElem (by simp) fun i h1 h2=> ?_
 simp[eV h2]
section
variable {pa pp:Bm} {g:GR} {RA RB:List RL} {m mask:Nat} {c:List (List Int)}
theorem DK (hV:VG g) (hpa:zT pa.2.1=true) (hpp:zT pp.2.1=true) (hza:pa.2.2.map iV=yS RA) (hzp:pp.2.2.map iV=yS (RA++RB)) (hRa:nR pa.2.1.length RA=true) (hRp:nR pp.2.1.length (RA++RB)=true) (hlow:JZ m RA RB=true)
  (hm:pa.2.1.length=m) (hml:m<=pp.2.1.length) (hvs:∀x:Nat,x<m->at' pp.2.1 (x:Int)=at' pa.2.1 (x:Int)) (hmask:mask<4294967296) (hpr:∀l:List Int,l.length=pp.2.1.length->qZ mask l pp.2.1.length=l.take m) (hc:Qj g c pp.2.1) (wish:Nat):
  gC 1000 pp g c=some ((yR (bW pp g) (RA++RB) c:Nat):Int)∧dX 1000 c (mask:Int)=some (lX m c)∧gC 1000 pa g (lX m c)=some ((yR (bW pa g) RA (lX m c):Nat):Int)∧
  (yR (bW pp g) (RA++RB) c &&& wish≠0->∃d want,kU 1000 pp g c ((yR (bW pp g) (RA++RB) c &&& wish:Nat):Int)=some (d,0)∧dX 1000 d (mask:Int)=some want∧oB 1000 want want=some true∧
   (yR (bW pp g) (RA++RB) c &&& wish &&& yR (bW pa g) RA (lX m c)≠0->kU 1000 pa g (lX m c) ((yR (bW pp g) (RA++RB) c &&& wish &&& yR (bW pa g) RA (lX m c):Nat):Int)=some (want,0))∧(yR (bW pp g) (RA++RB) c &&& wish &&& yR (bW pa g) RA (lX m c)=0->want=lX m c)):=by
 have h24:=hV.n24
 have hl:=hc.len
 have h20:=(wN (g:=g) hpp).len
 have hlowc:Qj g (lX m c) pa.2.1:=Pt hc hm hml hvs
 have hE:yR (bW pp g) (RA++RB) c<4294967296:=Ce (S:=bW pp g) hV _ c
 refine⟨zG hV (wN hpp) hzp hRp hc,CU hV hc.shape (by omega) hmask hpr,zG hV (wN hpa) hza hRa hlowc,fun hs=> ?_⟩
 have hset:∀v,(yR (bW pp g) (RA++RB) c &&& wish).testBit v=true->(yR (bW pp g) (RA++RB) c).testBit v=true:=fun v hv=>by
  rw[Nat.testBit_and,Bool.and_eq_true]at hv
  exact hv.1
 have hsl:=PH (p:=pp) (q:=pa) (vars:=pp.2.1) (vars':=pa.2.1) hV hc.shape hml hvs (Uz hlow) (UA hlow) (t:=yR (bW pp g) (RA++RB) c &&& wish) fun v hv=>by
  have h:=hset v hv
  rw[GJ,Bool.and_eq_true,decide_eq_true_eq,decide_eq_true_eq]at h
  exact h
 have hds:tQ g pp.2.1.length (uF (bW pp g) pp.2.1 (RA++RB) c (yR (bW pp g) (RA++RB) c &&& wish)):=hc.shape.step
 refine⟨_,lX m _,CV hV (wN hpp) hzp hRp hc hs (DL hE) hset,CU hV hds (by omega) hmask hpr,?_,fun hp=> ?_,fun hp=> ?_⟩
 ·have hdl:=hds.len
  refine Sr _ (by simp[lX];omega) fun v hv=> ?_
  have hv:v<g.2.length:=by simpa [lX,hdl]using hv
  rw[Ak (by omega),List.length_take,hds.row v hv]
  omega
 ·rw[hsl]
  refine CV hV (wN hpa) hza hRa hlowc hp (DL (DL hE)) fun v hv=> ?_
  rw[Nat.testBit_and,Bool.and_eq_true]at hv
  exact hv.2
 ·rw[hsl,hp,Ki]
end
theorem SX:wI .u32 ((Bt .u32 (1:Int) (wI .u64 (List.length y_:Int))) - (1:Int))=((1:Nat):Int):=by decide +kernel
theorem SY:wI .u32 ((Bt .u32 (1:Int) (wI .u64 (List.length zA:Int))) - (1:Int))=((3:Nat):Int):=by decide +kernel
theorem VZ:∀l:List Int,l.length=2->qZ 1 l 2=l.take 1:=fun l h=>by
 match l,h with
 | [a,b],_=>rw[qZ,qZ,if_neg (by decide),if_pos (by decide)];rfl
theorem V_:∀l:List Int,l.length=3->qZ 3 l 3=l.take 2:=fun l h=>by
 match l,h with
 | [a,b,c],_=>rw[qZ,qZ,qZ,if_neg (by decide),if_pos (by decide),if_pos (by decide)];rfl
theorem vs0:∀x:Nat,x<1->at' Fi (x:Int)=at' Ks (x:Int):=fun x hx=>by
 obtain rfl:x=0:=by omega
 rfl
theorem vs1:∀x:Nat,x<2->at' Fj (x:Int)=at' Kr (x:Int):=fun x hx=>by
 rcases(show x=0∨x=1 by omega)with rfl|rfl<;>rfl
theorem JE (x:Js) (i:Int) (raw:List Int) (p3:Int) (h0:0<=p3) (h1:p3<4294967296):nM 1000 x i raw p3=some true:=by
 obtain⟨wish,rfl⟩:∃d:Nat,p3=d:=⟨p3.toNat,by omega⟩
 have hw:wish<4294967296:=by omega
 obtain⟨g,hg,hVM,hn⟩:=TE x 7 (by omega) (by omega)
 have hV:VG g:=hVM.vg
 have h24:=hV.n24
 have hwi:=jG i 2 (by omega) (by omega)
 have hi:i%2=0∨i%2=1:=by omega
 unfold nM
 rw[show kR 1000 (x.1,x.2.1,x.2.2.1,x.2.2.2.1,x.2.2.2.2.1,x.2.2.2.2.2) 7=some g from hg,bE rfl,bE hwi]
 rcases hi with hi|hi
 ·rw[hi,show wI .i64 ((2:Int)*0)=0 from rfl,bE UW,bE (Ph 1000)]
  refine wX fun za hza=> ?_
  rw[bE PI,bE (IB 1000)]
  refine wX fun zb hzb=> ?_
  rw[bE hwi,hi,if_neg (by decide),bE Us]
  refine wX fun zp hzp=> ?_
  have hza:za.map iV=yS RU:=hza
  have hzp:zp.map iV=yS (RU++RS):=hzp
  obtain⟨c,hc,hcR⟩:=FD hV Fi raw (by decide) (LC okS)
  have hl:=hcR.len
  obtain⟨a1,a2,a3,a4⟩:=DK (pa:=(vK,Ks,za)) (pp:=(vM,Fi,zp)) (m:=1) (mask:=1) hV okU okS hza hzp So Sm XX rfl (show 1<=Fi.length by decide) vs0 (by omega) VZ hcR wish
  have hE:yR (bW (vM,Fi,zp) g) (RU++RS) c<4294967296:=Ce (S:=bW (vM,Fi,zp) g) hV _ c
  have hA:yR (bW (vK,Ks,za) g) RU (lX 1 c)<4294967296:=Ce (S:=bW (vK,Ks,za) g) hV _ _
  dsimp only
  rw[if_neg (by decide),eM (by decide +kernel),SX]
  refine(bE (show gD 1000 (g.1,g.2) Fi raw=some c from hc)).trans ?_
  refine(bE a1).trans ?_
  rw[KB hE hw]
  by_cases hs:yR (bW (vM,Fi,zp) g) (RU++RS) c &&& wish=0
  ·rw[hs,if_pos (by rfl)];rfl
  obtain⟨d,want,b1,b2,b3,b4,b5⟩:=a4 hs
  rw[if_neg (by omega)]
  refine(bE b1).trans ?_
  rw[bE a2]
  refine(bE a3).trans ?_
  rw[KB (DL hE) hA]
  have fin:∀w,w=want->gW 1000 (vK,y_,xH) (d,0) (0,w)=some true:=fun w hw=>by
   subst hw
   unfold gW
   dsimp only
   rw[bE (show lB 1000=some true from rfl),if_pos rfl,if_pos rfl,if_pos rfl,SX,bE b2,bE b3]
   rfl
  by_cases hp:yR (bW (vM,Fi,zp) g) (RU++RS) c &&& wish &&& yR (bW (vK,Ks,za) g) RU (lX 1 c)=0
  ·rw[hp,if_neg (by simp)]
   exact fin _ (b5 hp).symm
  ·rw[if_pos (by omega)]
   refine(bE (b4 hp)).trans ?_
   exact fin _ rfl
 ·rw[hi,show wI .i64 ((2:Int)*1)=2 from rfl,bE UX,bE (Pj 1000)]
  refine wX fun za hza=> ?_
  rw[bE PI,bE (IB 1000)]
  refine wX fun zb hzb=> ?_
  rw[bE hwi,hi,if_pos rfl,bE UY,bE (Pk 1000)]
  refine wX fun zd hzd=> ?_
  rw[bE Ut]
  refine wX fun zp hzp=> ?_
  have hza:za.map iV=yS RP:=hza
  have hzp:zp.map iV=yS (RP++RW):=hzp
  obtain⟨c,hc,hcR⟩:=FD hV Fj raw (by decide) (LC okW)
  have hl:=hcR.len
  obtain⟨a1,a2,a3,a4⟩:=DK (pa:=(vL,Kr,za)) (pp:=(vN,Fj,zp)) (m:=2) (mask:=3) hV okP okW hza hzp Sk Sp XY rfl (show 2<=Fj.length by decide) vs1 (by omega) V_ hcR wish
  have hE:yR (bW (vN,Fj,zp) g) (RP++RW) c<4294967296:=Ce (S:=bW (vN,Fj,zp) g) hV _ c
  have hA:yR (bW (vL,Kr,za) g) RP (lX 2 c)<4294967296:=Ce (S:=bW (vL,Kr,za) g) hV _ _
  dsimp only
  rw[if_neg (by decide),eM (by decide +kernel),SY]
  refine(bE (show gD 1000 (g.1,g.2) Fj raw=some c from hc)).trans ?_
  refine(bE a1).trans ?_
  rw[KB hE hw]
  by_cases hs:yR (bW (vN,Fj,zp) g) (RP++RW) c &&& wish=0
  ·rw[hs,if_pos (by rfl)];rfl
  obtain⟨d,want,b1,b2,b3,b4,b5⟩:=a4 hs
  rw[if_neg (by omega)]
  refine(bE b1).trans ?_
  rw[bE a2]
  refine(bE a3).trans ?_
  rw[KB (DL hE) hA]
  have fin:∀w,w=want->gV 1000 (vL,zA,xI) (d,0) (0,w)=some true:=fun w hw=>by
   subst hw
   unfold gV
   dsimp only
   rw[bE (show lB 1000=some true from rfl),if_pos rfl,if_pos rfl,if_pos rfl,SY,bE b2,bE b3]
   rfl
  by_cases hp:yR (bW (vN,Fj,zp) g) (RP++RW) c &&& wish &&& yR (bW (vL,Kr,za) g) RP (lX 2 c)=0
  ·rw[hp,if_neg (by simp)]
   exact fin _ (b5 hp).symm
  ·rw[if_pos (by omega)]
   refine(bE (b4 hp)).trans ?_
   exact fin _ rfl
end Go.Proofs.YtlciiihigmgaiaaGreat
end
section
namespace Go.Sx
open Go.RowKit Go.ChangeShapes Go.WideShapes Go.ChangeAt Go.Proofs Go.Joins Go.Deep
section
variable {H:Type} {enc:TypeId×Value->H} {P:Program} {w:World} {base:Nat} {spare:Nat->Bool} {held:Bool}
theorem EZ {α:Type} (l:List α) (d:α):l=(List.range l.length).map fun i=>l.getD i d:=by
 apply List.ext_getElem?
 intro i
 by_cases h:i<l.length
 ·simp[h]
 ·simp[h]
theorem OV {r:Reach} {b0:Nat} {t:TypeId} {fs:Array Field} {v:Value} {d:DataW H} {p:List MemPlace} (hs:P.underlying t=some (.struct fs)) (hone:oneCellFields P fs=true) (hC:P.cellsOf t=fs.size)
  (hv:Value.okWide P w r b0 t v) (h:DataW.Trod enc P w base spare held t v d p):
  ∃(V:Nat->Value) (Y:Nat->DataW H×List MemPlace) (n:Nat),v = .agg ((List.range fs.size).map V).toArray∧∀(i:Nat) (f:Field),fs[i]? = some f->DataW.trod enc P w base spare held n f.type [V i]=some (Y i):=by
 obtain⟨cs,rfl,hsz⟩:=okWide_struct hs hv
 obtain⟨fuel,hf⟩:=h
 obtain⟨xs,n,_,_,_,hlen,hg⟩:=DataW.trod_struct hs hf
 refine⟨fun i=>cs.toList.getD i undef,fun i=>xs.getD i (.nil,[]),n,?_,fun i f hi=> ?_⟩
 ·congr 1
  apply Array.toList_inj.1
  show cs.toList=(List.range fs.size).map fun i=>cs.toList.getD i undef
  have h2:fs.size=cs.toList.length:=by rw[<-hC,<-hsz];rfl
  rw[h2]
  exact EZ cs.toList undef
 ·have hlt:i<fs.size:=(Array.getElem?_eq_some_iff.1 hi).1
  obtain⟨o,k⟩:=hone_of hone i f hi
  have g:=hg i f hi
  have hcl:(Value.cells (.agg cs)).toList=cs.toList:=rfl
  have hl:i<cs.toList.length:=by rw[Array.length_toList];omega
  rw[o,k,hcl,take1_drop _ _ undef hl]at g
  rw[g]
  have hx:i<xs.length:=by omega
  simp[hx]
theorem Ov {k:IntKind} {e:TypeId} (he:P.underlying e=some (.int k)) {n:Nat} {v:Value} {x:DataW H×List MemPlace} (h:DataW.trod enc P w base spare held n e [v]=some x):∃y:Int,v = .int k y:=by
 obtain⟨y,hy,_,_⟩:=DataW.trod_int he h
 exact⟨y,by simpa using hy⟩
theorem FS {e:TypeId} (he:P.underlying e=some .bool) {n:Nat} {v:Value} {x:DataW H×List MemPlace} (h:DataW.trod enc P w base spare held n e [v]=some x):∃y:Bool,v = .bool y:=by
 obtain⟨y,hy,_⟩:=DataW.trod_bool he h
 exact⟨y,by simpa using hy⟩
theorem Qh {n:Int} (h:(Lit.int .u32 n).wf=true):0<=n∧n<4294967296:=by
 simp only[Lit.wf,Bool.and_eq_true,decide_eq_true_eq]at h
 have e1:IntKind.u32.min=0:=by decide
 have e2:IntKind.u32.max=4294967295:=by decide
 omega
end
end Go.Sx
end
