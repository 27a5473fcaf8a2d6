/- Models and proofs. Conditions: none. -/
import Derived.Test.YtlciiihigmgaiaaGreatZCTu7
import Derived.Test.YtlciiihigmgaiaaGreatZCTu6
import Derived.Test.YtlciiihigmgaiaaGreatZCTu2
import Derived.Test.YtlciiihigmgaiaaGreatZCTu1
import Derived.OpenShut
set_option linter.unusedVariables false
set_option linter.unusedSimpArgs false
set_option maxHeartbeats 4000000
set_option maxRecDepth 20000
section
namespace Go.Proofs.YtlciiihigmgaiaaGreat
open Go Go.Sx
section
theorem Oo (f:Nat) (k:Int) (b:gC) (x:Int):rR f k b x=some (qP k b x):=by
 unfold rR pY qP
 by_cases h1:b.1<=x
 ·by_cases h2:x<=b.2
  ·simp only[h1,h2,and_self,if_true,decide_true]
  ·simp only[h1,h2,and_false,if_true,if_false,decide_false,Bool.false_eq_true]
   split
   ·rfl
   ·split<;>rfl
 ·simp only[h1,false_and,if_false,Bool.false_eq_true]
  split
  ·rfl
  ·split<;>rfl
theorem Qe {S:Bm} {vars:List Cz} {c:bP} {v:Nat} (l:List (Nat×E)) (st:bW):(l.foldl (Nm S vars c v) st).length=st.length:=by
 induction l generalizing st with
 |nil=>rfl
 |cons s l ih=>rw[List.foldl_cons,ih];simp[Nm]
section
variable {p:uA} {g:GR} {gr:Int} {R:List RL} {c:List (List Int)} {v:Nat}
theorem LC (hV:VG g) (hp:yA g p.2.1) (hc:wG g p.2.1.length c) (hv:v<g.2.length) (hz:p.2.2.map kS=Br R) (hR:qS p.2.1.length R=true) {i:Nat} (hi:i<R.length):
  fN 1000 (p,(p,g,gr,d_ g),wD g p.2.1) c (v:Int) (i:Int)=some (pR (p,g,gr,d_ g) p.2.1 R c v (i:Int)):=by
 have h24:=hV.n24
 have hcl:=hc.len
 have hrow:=hc.row v hv
 have hvl:=hp.len
 have hl:=Cb hz
 have hpa:=LM hz hi
 obtain⟨-,hs20,hsets⟩:=LS hR hi
 have htab:(wD g p.2.1).length=g.2.length:=by simp[wD]
 have htv:at' (wD g p.2.1) (v:Int)=AU g p.2.1 v:=xR _ hv
 have hrt:(AU g p.2.1 v).length=p.2.1.length:=by simp[AU]
 have e2:(at' p.2.2 (i:Int)).2.2.2.map (fun s=>(s.1,s.2.2))=(at' R (i:Int)).2.map fun s=>((s.1:Int),s.2.ts):=congrArg Prod.snd hpa
 have hsl:(at' p.2.2 (i:Int)).2.2.2.length=(at' R (i:Int)).2.length:=by simpa using congrArg List.length e2
 unfold fN
 dsimp only
 rw[eB (by omega),eB (by simp;omega),eB (by omega),List.nil_append]
 unfold pR
 let sets:=(at' R (i:Int)).2
 have:=dR (step:=iK 1000 (p,(p,g,gr,d_ g),wD g p.2.1) c (v:Int) (i:Int)) (K:=some (sets.foldl (Nm (p,g,gr,d_ g) p.2.1 c v) (at' c (v:Int)))) sets.length (fun k=>((k:Int),(sets.take k).foldl (Nm (p,g,gr,d_ g) p.2.1 c v) (at' c (v:Int)))) (fun k ag hk=>by
  have hk2:k<(at' p.2.2 (i:Int)).2.2.2.length:=by rw[hsl];exact hk
  have ek:((at' (at' p.2.2 (i:Int)).2.2.2 (k:Int)).1,(at' (at' p.2.2 (i:Int)).2.2.2 (k:Int)).2.2)=(((at' sets (k:Int)).1:Int),(at' sets (k:Int)).2.ts):=by
   have:=congrArg (fun q=>q[k]?) e2
   simp only[List.getElem?_map,List.getElem?_eq_getElem hk2,List.getElem?_eq_getElem (show k<(at' R (i:Int)).2.length from hk),Option.map_some,Option.some.injEq]at this
   rw[gD hk2,gD hk];exact this
  have ek1:=congrArg Prod.fst ek
  have ek2:=congrArg Prod.snd ek
  dsimp only at ek1 ek2
  obtain⟨hs1,hs2⟩:=hsets (at' sets (k:Int)) (by rw[gD hk];exact List.getElem_mem hk)
  have hstl:((sets.take k).foldl (Nm (p,g,gr,d_ g) p.2.1 c v) (at' c (v:Int))).length=p.2.1.length:=by rw[Qe,hrow]
  have hcell:at' (AU g p.2.1 v) ((at' sets (k:Int)).1:Int)=tG g p.2.1 v (at' sets (k:Int)).1:=xR _ hs1
  have hsk:sets.length<=20:=hs20
  unfold iK
  dsimp only
  rw[if_pos (by omega),eB (by omega),ek1,ek2,bR (show e_ 1000 _ c (v:Int) _=_ from Jw (S:=(p,g,gr,d_ g)) rfl hV hc hv hs2),eB (by omega),eB (by omega),htv,eB (by omega),hcell,bR (Oo 1000 _ _ _),eB (by omega),fG (by omega),Int.toNat_natCast,AK hk,List.foldl_append]
  rfl) (fun ag=>by
  unfold iK kJ
  dsimp only
  rw[if_neg (by show¬(sets.length:Int)<_;rw[hsl];exact Int.lt_irrefl _),List.take_length]) 1000 (by show(at' R (i:Int)).2.length<1000;omega)
 exact this
theorem SP (hV:VG g) (hp:yA g p.2.1) (hc:wG g p.2.1.length c) (hz:p.2.2.map kS=Br R) (hR:qS p.2.1.length R=true) {t:Nat} (ht32:t<4294967296) (ht:∀v,t.testBit v=true->0<=oJ (p,g,gr,d_ g) R c v):
  jF 1000 (p,(p,g,gr,d_ g),wD g p.2.1) c (t:Int)=some (rA (p,g,gr,d_ g) p.2.1 R c t):=by
 have h24:=hV.n24
 have hcl:=hc.len
 have hvl:=hp.len
 unfold jF
 rw[bR (RO c (by omega) (fun v hv=>by rw[hc.row v (by omega)];omega))]
 let f:Nat->List Int:=fun v=>if t.testBit v=true then pR (p,g,gr,d_ g) p.2.1 R c v (oJ (p,g,gr,d_ g) R c v)else at' c (v:Int)
 let Q:Nat->List (List Int):=fun k=>(List.range k).map f++c.drop k
 have hQ:∀k,k<=c.length->(Q k).length=c.length:=fun k hk=>by simp[Q];omega
 have hset:∀k,k<c.length->(Q k).set k (f k)=Q (k+1):=fun k hk=>by
  show((List.range k).map f++c.drop k).set k (f k)=(List.range (k+1)).map f++c.drop (k+1)
  rw[List.set_append_right _ _ (by simp),List.length_map,List.length_range,Nat.sub_self,List.drop_eq_getElem_cons hk,List.set_cons_zero,List.range_succ,List.map_append,List.map_singleton,List.append_assoc]
  rfl
 have hkeep:∀k,k<c.length->f k=at' c (k:Int)->Q k=Q (k+1):=fun k hk hf=>by
  show(List.range k).map f++c.drop k=(List.range (k+1)).map f++c.drop (k+1)
  rw[List.range_succ,List.drop_eq_getElem_cons hk,List.map_append,List.map_singleton,hf,gD hk]
  simp
 rw[show c=Q 0 by simp[Q]]
 refine dR (step:=fW 1000 (p,(p,g,gr,d_ g),wD g p.2.1) (Q 0) (t:Int)) (K:=some (rA (p,g,gr,d_ g) p.2.1 R (Q 0) t)) c.length (fun k=>((k:Int),Q k)) (fun k ag hk=> ?_) (fun ag=> ?_) 1000 (by omega)
 ·rw[show Q 0=c by simp[Q]]
  unfold fW iM
  dsimp only
  rw[if_pos (by omega),eB (by omega),fG (by omega)]
  by_cases hb:t.testBit k=true
  ·obtain⟨i,hi,hil,_⟩:=(PZ (p,g,gr,d_ g) R c k).resolve_left (fun e=>by have:=ht k hb;omega)
   rw[if_pos ((Hl (by omega) ht32).2 hb),bR (show dD 1000 _ c (k:Int)=_ from HF hV hc (by omega) hz hR _),hi,bR (show fN 1000 _ c (k:Int) (i:Int)=_ from LC hV hp hc (by omega) hz hR hil),eB (by rw[hQ k (by omega)];omega),Int.toNat_natCast]
   have:pR (p,g,gr,d_ g) p.2.1 R c k (i:Int)=f k:=by simp only[f];rw[if_pos hb,hi]
   rw[this,hset k hk]
  ·rw[if_neg (fun q=>hb ((Hl (by omega) ht32).1 q)),hkeep k hk (by simp only[f];rw[if_neg hb])]
 ·rw[show Q 0=c by simp[Q]]
  unfold fW kL
  dsimp only
  rw[if_neg (by omega)]
  simp[Q,rA,f]
theorem Gv {S:Bm} {vars:List Cz} {t:Nat}:(rA S vars R c t).length=c.length:=by simp[rA]
theorem Qj {S:Bm} {vars:List Cz} {t:Nat} (hv:v<c.length):at' (rA S vars R c t) (v:Int)=if t.testBit v=true then pR S vars R c v (oJ S R c v)else at' c (v:Int):=xR _ hv
end
end
section
def bV (p:uA) (g:GR):Bm:=(p,g,fQ g g.2.length,d_ g)
end
section
theorem yE (S:Bm) (R:List RL) (c:bP) (v:Nat):(JE S R c).testBit v=(decide (v<S.2.1.2.length)&&decide (0<=oJ S R c v)):=Gn _ v _
theorem Kq {S:Bm} (hV:VG S.2.1) (R:List RL) (c:bP):JE S R c<4294967296:=LA _ (by have:=hV.n24;omega)
end
section
def E.sh (ρ:Int->Int):E->E
 |lf o a=> .lf o (if o=5∨o=12 then ρ a else a)
 |un o x=> .un o (x.sh ρ)
 |ag o x=> .ag o (x.sh ρ)
 |bi o x y=> .bi o (x.sh ρ) (y.sh ρ)
 |ite x y z=> .ite (x.sh ρ) (y.sh ρ) (z.sh ρ)
theorem wE:∀e:E,e.sh id=e
 |.lf o a=>by simp[E.sh]
 |.un o x=>by rw[E.sh,wE x]
 |.ag o x=>by rw[E.sh,wE x]
 |.bi o x y=>by rw[E.sh,wE x,wE y]
 |.ite x y z=>by rw[E.sh,wE x,wE y,wE z]
def NR (g:GR) (nv:Nat) (ρ:Int->Int) (c d:bP):Prop:=∀u:Nat,u<g.2.length->∀a:Nat,a<nv->at' (at' c (u:Int)) (ρ (a:Int))=at' (at' d (u:Int)) (a:Int)
section
variable {p q:uA} {g:GR} {c d:List (List Int)} {v nv:Nat} {ρ:Int->Int}
theorem zU (hV:VG g) (hv:v<g.2.length) (h:NR g nv ρ c d):∀(e:E) (b:Bool) (pt:Int),e.wf nv b=true->JU b (row g v).length pt->(e.sh ρ).den (Pd (bV p g,c,(v:Int),[])) (row g v).length pt=e.den (Pd (bV q g,d,(v:Int),[])) (row g v).length pt
 | .lf o a, b, pt, hw, hp => by
  simp only[E.wf,Bool.and_eq_true,Bool.or_eq_true,decide_eq_true_eq]at hw
  obtain⟨⟨⟨w1,w2⟩,w3⟩,w4⟩:=hw
  simp only[E.sh,E.den]
  by_cases h5:o=5
  ·subst h5
   obtain⟨a1,a2⟩:0<=a∧a<(nv:Int):=w4.resolve_left (by decide)
   obtain⟨k,rfl⟩:∃k:Nat,a=k:=⟨a.toNat,by omega⟩
   rw[if_pos (.inl rfl)]
   exact h v hv k (by omega)
  ·by_cases h12:o=12
   ·subst h12
    obtain⟨a1,a2⟩:0<=a∧a<(nv:Int):=w4.resolve_left (by decide)
    obtain⟨k,rfl⟩:∃k:Nat,a=k:=⟨a.toNat,by omega⟩
    have hb:b=true:=w3.resolve_right (by decide)
    obtain⟨i,rfl,hi⟩:=hp hb
    obtain⟨u,hu,hue⟩:=hV.to hv hi
    have hue:(at' (at' g.2 (v:Int)) (i:Int)).1=(u:Int):=hue
    rw[if_pos (.inr rfl)]
    show at' (at' c ((at' (at' g.2 (v:Int)) (i:Int)).1)) (ρ (k:Int))=at' (at' d ((at' (at' g.2 (v:Int)) (i:Int)).1)) (k:Int)
    rw[hue]
    exact h u hu k (by omega)
   ·rw[if_neg (by omega)]
    unfold Pd
    simp only[if_neg h5,if_neg h12]
    rfl
 | .un o x,b,pt,hw,hp=>by
  simp only[E.wf,Bool.and_eq_true]at hw
  simp only[E.sh,E.den]
  rw[zU hV hv h x b pt hw.2 hp]
 | .ag o x,b,pt,hw,hp=>by
  simp only[E.wf,Bool.and_eq_true]at hw
  simp only[E.sh,E.den]
  congr 1
  refine List.map_congr_left fun i hi=> ?_
  exact zU hV hv h x true i hw.2 fun _=>⟨i,rfl,List.mem_range.1 hi⟩
 | .bi o x y,b,pt,hw,hp=>by
  simp only[E.wf,Bool.and_eq_true]at hw
  simp only[E.sh,E.den]
  rw[zU hV hv h x b pt hw.1.2 hp,zU hV hv h y b pt hw.2 hp]
 | .ite x y z,b,pt,hw,hp=>by
  simp only[E.wf,Bool.and_eq_true]at hw
  simp only[E.sh,E.den]
  rw[zU hV hv h x b pt hw.1.1 hp,zU hV hv h y b pt hw.1.2 hp,zU hV hv h z b pt hw.2 hp]
theorem ED (hV:VG g) (hv:v<g.2.length) (h:NR g nv ρ c d) {e:E} (he:e.wf nv false=true):iO (bV p g) c v (e.sh ρ)=iO (bV q g) d v e:=
 zU hV hv h e false (-1) he fun hb=>by cases hb
theorem Gd (hV:VG g) (hv:v<g.2.length) (h:NR g nv id c d) {e:E} (he:e.wf nv false=true):iO (bV p g) c v e=iO (bV q g) d v e:=by
 have:=ED (p:=p) (q:=q) hV hv h he
 rwa[wE]at this
end
theorem qX (x:Int) (l:List Int):gR (x::l)=if nz x=true then 0 else if gR l<0 then -1 else gR l+1:=by
 unfold gR
 rw[List.findIdx?_cons]
 cases h:nz x with
 |true=>simp
 |false=>
  cases h2:l.findIdx? nz with
  |none=>simp
  |some i=>simp<;>omega
section
variable {p q:uA} {g:GR} {c d:List (List Int)} {v nv m:Nat} {ρ:Int->Int} {k:Nat->Nat} {R RA RB:List RL} {S:Bm} {vars vars':List Cz}
def oI (m:Nat) (c:List (List Int)):List (List Int):=c.map (List.take m)
theorem Eb (hv:v<c.length):at' (oI m c) (v:Int)=(at' c (v:Int)).take m:=by
 rw[gD (by simpa [oI]using hv),gD hv]
 simp[oI]
theorem Lb {l:List Int} {a:Nat} (h:a<m) (hl:m<=l.length):at' (l.take m) (a:Int)=at' l (a:Int):=by
 rw[gD (by simp;omega),gD (by omega)]
 simp
theorem Gu (hc:wG g nv c) (hm:m<=nv):NR g m id c (oI m c):=fun u hu a ha=>by
 have hl:=hc.len
 have hr:=hc.row u hu
 rw[Eb (by omega),Lb ha (by omega)];rfl
theorem PV (hc:JV g c vars) (hm:vars'.length=m) (hml:m<=vars.length) (hv:∀x:Nat,x<m->at' vars (x:Int)=at' vars' (x:Int)):JV g (oI m c) vars':=by
 have hl:=hc.len
 refine⟨by simpa [oI]using hl,fun v hv2=> ?_,fun v hv2 x hx=> ?_⟩
 ·have:=hc.row v hv2
  rw[Eb (by omega),List.length_take];omega
 ·have hr:=hc.row v hv2
  have hk:=hc.ok v hv2 x (by omega)
  rw[<-hv x (by omega)]
  show lo g (at' vars (x:Int)) v<=at' (at' (oI m c) (v:Int)) (x:Int)∧at' (at' (oI m c) (v:Int)) (x:Int)<=hi g (at' vars (x:Int)) v
  rw[Eb (by omega),Lb (by omega) (by omega)]
  exact hk
end
end
section
def Tl:E:= .bi 41 (.bi 37 (.lf 5 0) (.lf 1 3)) (.ag 20 (.bi 40 (.lf 12 0) (.lf 5 0)))
def QL:E:= .bi 33 (.lf 5 0) (.lf 1 1)
def Sc:E:= .ag 21 (.bi 35 (.lf 12 0) (.lf 5 0))
def OB:E:= .un 19 (.lf 5 0)
def RU:List RL:=[(Tl,[(0,QL)])]
def RF:List RL:=[(Sc,[(0,OB)])]
def s1 (a:Int):Int:=a+1
def RT:List RL:=[(.bi 41 (.un 19 (.lf 5 2)) Tl,[(0,QL),(2,.lf 2 0)]),(.bi 41 (.lf 5 2) (Sc.sh s1),[(1,OB.sh s1),(2,.lf 3 0)]),(Tl,[(0,QL)]),(Sc.sh s1,[(1,OB.sh s1)])]
theorem LW:qS 1 RU=true:=by decide +kernel
theorem LU:qS 1 RF=true:=by decide +kernel
theorem LV:qS 3 RT=true:=by decide +kernel
def AI (c:bP):bP:=c.map fun r=>[at' r 1]
section
variable {p q r:uA} {g:GR} {c:List (List Int)} {v:Nat}
theorem HJ (hv:v<c.length):at' (AI c) (v:Int)=[at' (at' c (v:Int)) 1]:=by
 rw[gD (by simpa [AI]using hv),gD hv]
 simp[AI]
theorem Ji (hc:wG g 3 c):NR g 1 s1 c (AI c):=fun u hu a ha=>by
 have hl:=hc.len
 obtain rfl:a=0:=by omega
 rw[HJ (by omega)];rfl
def EX (q:uA) (g:GR) (c:List (List Int)) (v:Nat):Bool:=nz (iO (bV q g) (oI 1 c) v Tl)
def BH (q:uA) (g:GR) (c:List (List Int)) (v:Nat):Bool:=nz (iO (bV q g) (AI c) v Sc)
theorem Qb (q:uA):oJ (bV q g) RU (oI 1 c) v=if EX q g c v=true then 0 else -1:=by
 unfold oJ RU EX
 rw[List.map_cons,List.map_nil,qX]
 rfl
theorem P_ (q:uA):oJ (bV q g) RF (AI c) v=if BH q g c v=true then 0 else -1:=by
 unfold oJ RF BH
 rw[List.map_cons,List.map_nil,qX]
 rfl
theorem Yb:iO (bV p g) c v (.bi 41 (.un 19 (.lf 5 2)) Tl)=Lc (decide (Lc (decide (at' (at' c (v:Int)) 2=0))≠0)&&decide (iO (bV p g) c v Tl≠0)):=rfl
theorem Yc:iO (bV p g) c v (.bi 41 (.lf 5 2) (Sc.sh s1))=Lc (decide (at' (at' c (v:Int)) 2≠0)&&decide (iO (bV p g) c v (Sc.sh s1)≠0)):=rfl
theorem KF (b:Bool):nz (Lc b)=b:=by cases b<;>rfl
theorem IL (x:Int):decide (x≠0)=nz x:=by
 unfold nz
 by_cases h:x=0<;>simp[h]
theorem Qa (p qa qb:uA) (hV:VG g) (hc:wG g 3 c) (hv:v<g.2.length):oJ (bV p g) RT c v=if at' (at' c (v:Int)) 2=0∧EX qa g c v=true then 0 else if at' (at' c (v:Int)) 2≠0∧BH qb g c v=true then 1 else if EX qa g c v=true then 2 else if BH qb g c v=true then 3 else -1:=by
 have e1:iO (bV p g) c v Tl=iO (bV qa g) (oI 1 c) v Tl:=Gd hV hv (Gu (nv:=3) hc (by omega)) (by decide +kernel)
 have e2:iO (bV p g) c v (Sc.sh s1)=iO (bV qb g) (AI c) v Sc:=ED hV hv (Ji hc) (by decide +kernel)
 unfold oJ RT
 simp only[List.map_cons,List.map_nil]
 rw[qX,qX,qX,qX,Yb,Yc,KF,KF,e1,e2,IL,IL,IL,IL]
 show(if(nz (Lc (decide (at' (at' c (v:Int)) 2=0)))&&EX qa g c v)=true then(0:Int)else _)=_
 rw[KF]
 have hn:nz (at' (at' c (v:Int)) 2)=decide (at' (at' c (v:Int)) 2≠0):=(IL _).symm
 show(if(decide (at' (at' c (v:Int)) 2=0)&&EX qa g c v)=true then(0:Int)else if(if(nz (at' (at' c (v:Int)) 2)&&BH qb g c v)=true then(0:Int)else if(if EX qa g c v=true then(0:Int)else if(if BH qb g c v=true then(0:Int)else if gR []<0 then -1 else gR []+1)<0 then -1 else(if BH qb g c v=true then(0:Int)else if gR []<0 then -1 else gR []+1)+1)<0 then -1 else(if EX qa g c v=true then(0:Int)else if(if BH qb g c v=true then(0:Int)else if gR []<0 then -1 else gR []+1)<0 then -1 else(if BH qb g c v=true then(0:Int)else if gR []<0 then -1 else gR []+1)+1)+1)<0 then -1 else(if(nz (at' (at' c (v:Int)) 2)&&BH qb g c v)=true then(0:Int)else if(if EX qa g c v=true then(0:Int)else if(if BH qb g c v=true then(0:Int)else if gR []<0 then -1 else gR []+1)<0 then -1 else(if BH qb g c v=true then(0:Int)else if gR []<0 then -1 else gR []+1)+1)<0 then -1 else(if EX qa g c v=true then(0:Int)else if(if BH qb g c v=true then(0:Int)else if gR []<0 then -1 else gR []+1)<0 then -1 else(if BH qb g c v=true then(0:Int)else if gR []<0 then -1 else gR []+1)+1)+1)+1)=_
 rw[hn,show gR [] = -1 from rfl]
 cases EX qa g c v<;>cases BH qb g c v<;>by_cases h:at' (at' c (v:Int)) 2=0<;>simp[h]
def Fu:List Cz:=[(ByteArray.mk #[120],1,0,3,0,0)]
def DG:List Cz:=[(ByteArray.mk #[119],2,0,0,0,0)]
def sT:List Cz:=Fu++DG++[(ByteArray.mk #[116,117,114,110],2,0,0,0,0)]
theorem Wx (l:List Int) (h:l.length=3):∃a b d,l=[a,b,d]:=by
 match l,h with
 | [a,b,d],_=>exact⟨a,b,d,rfl⟩
theorem Nn (qa qb:uA) (hV:VG g) (hc:JV g c sT) (hv:v<g.2.length) (hon:EX qa g c v=true∨BH qb g c v=true):
  ∃x y t:Int,at' c (v:Int)=[x,y,t]∧(t=0∨t=1)∧
   (EX qa g c v=true∧(t=0∨BH qb g c v=false)->∃x' t',pR (bV p g) sT RT c v (oJ (bV p g) RT c v)=[x',y,t']∧pR (bV qa g) Fu RU (oI 1 c) v 0=[x']∧(t'≠t↔t=0))∧
   (¬(EX qa g c v=true∧(t=0∨BH qb g c v=false))->∃y' t',pR (bV p g) sT RT c v (oJ (bV p g) RT c v)=[x,y',t']∧pR (bV qb g) DG RF (AI c) v 0=[y']∧(t'≠t↔t=1)):=by
 have hs:wG g 3 c:=hc.shape
 have hl:=hc.len
 obtain⟨x,y,t,hr⟩:=Wx _ (hs.row v hv)
 have ht:0<=t∧t<=1:=by
  have:=hc.ok v hv 2 (by decide)
  have hval:val c v 2=t:=by show at' (at' c (v:Int)) 2=t;rw[hr];rfl
  rw[hval]at this
  exact this
 have ha:at' (at' c (v:Int)) 2=t:=by rw[hr];rfl
 have hone:at' (oI 1 c) (v:Int)=[x]:=by rw[Eb (by omega),hr];rfl
 have htwo:at' (AI c) (v:Int)=[y]:=by rw[HJ (by omega),hr];rfl
 have e1:iO (bV p g) c v QL=iO (bV qa g) (oI 1 c) v QL:=Gd hV hv (Gu (nv:=3) hs (by omega)) (by decide +kernel)
 have e2:iO (bV p g) c v (OB.sh s1)=iO (bV qb g) (AI c) v OB:=ED hV hv (Ji hs) (by decide +kernel)
 have mU:pR (bV qa g) Fu RU (oI 1 c) v 0=[qP 1 (tG g Fu v 0) (iO (bV qa g) (oI 1 c) v QL)]:=by
  show(at' (oI 1 c) (v:Int)).set 0 _=_
  rw[hone];rfl
 have mF:pR (bV qb g) DG RF (AI c) v 0=[qP 2 (tG g DG v 0) (iO (bV qb g) (AI c) v OB)]:=by
  show(at' (AI c) (v:Int)).set 0 _=_
  rw[htwo];rfl
 have m0:pR (bV p g) sT RT c v 0=[qP 1 (tG g Fu v 0) (iO (bV p g) c v QL),y,1]:=by
  show((at' c (v:Int)).set 0 (qP 1 (tG g Fu v 0) (iO (bV p g) c v QL))).set 2 (qP 2 (0,1) 1)=_
  rw[hr];rfl
 have m1:pR (bV p g) sT RT c v 1=[x,qP 2 (tG g DG v 0) (iO (bV p g) c v (OB.sh s1)),0]:=by
  show((at' c (v:Int)).set 1 (qP 2 (tG g DG v 0) (iO (bV p g) c v (OB.sh s1)))).set 2 (qP 2 (0,1) 0)=_
  rw[hr];rfl
 have m2:pR (bV p g) sT RT c v 2=[qP 1 (tG g Fu v 0) (iO (bV p g) c v QL),y,t]:=by
  show(at' c (v:Int)).set 0 (qP 1 (tG g Fu v 0) (iO (bV p g) c v QL))=_
  rw[hr];rfl
 have m3:pR (bV p g) sT RT c v 3=[x,qP 2 (tG g DG v 0) (iO (bV p g) c v (OB.sh s1)),t]:=by
  show(at' c (v:Int)).set 1 (qP 2 (tG g DG v 0) (iO (bV p g) c v (OB.sh s1)))=_
  rw[hr];rfl
 refine⟨x,y,t,hr,by omega,fun h=> ?_,fun h=> ?_⟩
 ·obtain⟨hA,hB⟩:=h
  rw[Qa p qa qb hV hs hv,ha]
  by_cases h0:t=0
  ·rw[if_pos ⟨h0,hA⟩,m0,mU,e1]
   exact⟨_,1,rfl,rfl,by omega⟩
  ·have hB:=hB.resolve_left h0
   rw[if_neg (fun q=>h0 q.1),if_neg (fun q=>by rw[hB]at q;exact absurd q.2 (by decide)),if_pos hA,m2,mU,e1]
   exact⟨_,t,rfl,rfl,by omega⟩
 ·rw[Qa p qa qb hV hs hv,ha]
  by_cases h0:t=0
  ·have hA:EX qa g c v=false:=by
    cases hx:EX qa g c v with
    |false=>rfl
    |true=>exact absurd ⟨hx,.inl h0⟩ h
   have hB:BH qb g c v=true:=hon.resolve_left (by rw[hA];decide)
   rw[if_neg (fun q=>by rw[hA]at q;exact absurd q.2 (by decide)),if_neg (fun q=>q.1 h0),if_neg (by rw[hA];decide),if_pos hB,m3,mF,e2]
   exact⟨_,t,rfl,rfl,by omega⟩
  ·have hB:BH qb g c v=true:=by
    cases hx:BH qb g c v with
    |true=>rfl
    |false=> 
     rcases hon with q|q
     ·exact absurd ⟨q,.inr hx⟩ h
     ·rw[hx]at q;cases q
   rw[if_neg (fun q=>h0 q.1),if_pos ⟨h0,hB⟩,m1,mF,e2]
   exact⟨_,0,rfl,rfl,by omega⟩
end
end
section
def Dy (vars:List Cz):Bool:=decide (vars.length<=20)&&vars.all fun x=>(decide (x.2.1=1)||decide (x.2.1=2)||decide (x.2.1=3))&&decide (x.2.2.2.2.1=0)&&decide (x.2.2.2.2.2=0)&&decide (-1000<=x.2.2.1)&&decide (x.2.2.1<=x.2.2.2.1)&&decide (x.2.2.2.1<=1000)
theorem Cw {vars:List Cz} (h:Dy vars=true) {x:Nat} (hx:x<vars.length):((at' vars (x:Int)).2.1=1∨(at' vars (x:Int)).2.1=2∨(at' vars (x:Int)).2.1=3)∧(at' vars (x:Int)).2.2.2.2.1=0∧(at' vars (x:Int)).2.2.2.2.2=0 ∧ -1000<=(at' vars (x:Int)).2.2.1∧(at' vars (x:Int)).2.2.1<=(at' vars (x:Int)).2.2.2.1∧(at' vars (x:Int)).2.2.2.1<=1000:=by
 simp only[Dy,Bool.and_eq_true,List.all_eq_true,decide_eq_true_eq,Bool.or_eq_true]at h
 have:=h.2 (at' vars (x:Int)) (by rw[gD hx];exact List.getElem_mem hx)
 obtain⟨⟨⟨⟨⟨a,b⟩,c⟩,d⟩,e⟩,f⟩:=this
 exact⟨by rcases a with(a|a)|a<;>simp[a],b,c,d,e,f⟩
theorem uS {g:GR} {vars:List Cz} (h:Dy vars=true):yA g vars:=by
 refine⟨?_,fun x hx=> ?_,fun x hx=>(Cw h hx).1,fun x hx hk=> ?_⟩
 ·simp only[Dy,Bool.and_eq_true,decide_eq_true_eq]at h
  exact h.1
 ·obtain⟨_,a,b,c,d,e⟩:=Cw h hx
  unfold xG
  omega
 ·obtain⟨_,a,b,c,d,e⟩:=Cw h hx
  unfold lo hi
  rw[hk,a,b,if_neg (by decide),if_neg (by decide),if_neg (by decide),if_neg (by decide),Int.zero_mul,Int.zero_mul]
  omega
theorem Tc {vars:List Cz} (h:Dy vars=true):∀x,x<vars.length->xG (at' vars (x:Int)) ∧ -100000<=(at' vars (x:Int)).2.2.1∧(at' vars (x:Int)).2.2.1<=(at' vars (x:Int)).2.2.2.1:=fun x hx=>by
 obtain⟨_,a,b,c,d,e⟩:=Cw h hx
 unfold xG
 omega
def RS:List RL:=[(.bi 36 (.lf 5 1) (.bi 32 (.lf 5 0) (.lf 1 3)),[(1,.bi 32 (.lf 5 0) (.lf 1 3))])]
def sh2 (a:Int):Int:=a+2
def RW:List RL:=[(Sc.sh sh2,[(2,OB.sh sh2)])]
theorem okU:Dy Fu=true:=by decide
theorem Wn:Dy DG=true:=by decide
theorem UX:Dy sT=true:=by decide
end
end Go.Proofs.YtlciiihigmgaiaaGreat
end
section
namespace Go.Proofs.YtlciiihigmgaiaaGreat
open Go.Sx
section
def oD (U:Nat) (p0:qT) (p1:fR) (p2:bP):Option (Bool):=
 Option.bind (gU U ((p0.1,p0.2.1,p0.2.2)) ((p1.1,p1.2)) p2) fun r3=>(some (decide (r3=(0:Int))))
theorem Uh:a_ Tryz.prog 32:=Tryz.call32
theorem Fh (U:Nat) {p0:qT} {p1:fR} {p2:bP} (v0:Value)  (v1:Value)  (v2:Value)  (v3:Value)  (z4:oZ)  (v5:Value)  (z6:qU) (r:Bool) (h:oD U p0 p1 p2=some r):
  bJ Tryz.prog 32 #[Value.agg #[vS (p0.1),v0,v1],Value.agg #[v2,v3],v5] [Sl aD v0 p0.2.1,Sl aB v1 p0.2.2,PF (Value.agg #[vS p0.1,v0,v1]),Sl bT v2 p1.1,S2 bM v3 z4 p1.2,S2 bT v5 z6 p2] (fun x:Unit=>vB (r)) (fun x l=>l) (fun _ l=>l):=by
 refine bJ.of Tryz.func32 rfl Tryz.ntmps32 rfl fun c=>?_
 refine aX<|aK (aN.box (cs:=[vS (p0.1),v0,v1]) rfl rfl) rfl fun b1=>aK (aN.box (cs:=[v2,v3]) rfl rfl) rfl fun b2=>aF rfl<|aP<|aX<|fH 1 rfl<|fH 0 rfl<|aA rfl<|gK h fun r3 w4 h=>aK (aN.callQ Kl (vW U v0 v1 v2 v3 z4 v5 z6 r3 w4) rfl (pJ [0,1,2,3,4,5] rfl)) rfl fun x5=>dL rfl<|aF rfl<|aP<|aW ?_
 cases h
 exact xC rfl
end
section
def tU (U:Nat) (p0:qT) (p1:fR) (p2:bP) (a16:eT×Int×bP):Option (Int):=
 Option.bind (eK U ((((p0.1,p0.2.1,p0.2.2)),((((p0.1,p0.2.1,p0.2.2)),((p1.1,p1.2)),a16.2.1,a16.2.2)),a16.1)) p2) fun r18=>(some (r18))
def qJ (U:Nat) (p0:qT) (p1:fR) (p2:bP) (a28:rC):Option (Int):=
 Option.bind (fO U ((p0.1,p0.2.1,p0.2.2)) ((p1.1,p1.2))) fun r30=>(tU U p0 p1 p2 (r30,a28.1,a28.2))
def nE (U:Nat) (p0:qT) (p1:fR) (p2:bP) (a44:rC):Option (Int):=
 qJ U p0 p1 p2 (a44.1,a44.2)
def qK (p1:fR) (a51:Cv) (ag50:Cu->Option (Int)) (a57:bP):Option (Int):=
 ag50 ((wI .i64 (a51.1+(1:Int))),(max a51.2.1 (at' p1.1 a51.1)),a57)
def kY (U:Nat) (p1:fR) (a51:Cv) (ag50:Cu->Option (Int)) (a65:rC) (ag64:Al->Option (Int)):Option (Int):=
 if a65.1<(List.length (at' p1.2 a51.1):Int)then(ck (0<=a65.1∧a65.1<(List.length (at' p1.2 a51.1):Int)) (ck (0<=a51.1∧a51.1<(List.length a65.2:Int)) (Option.bind (gT U ((p1.1,p1.2)) ((at' (at' p1.2 a51.1) a65.1).1) a51.1) fun r74=>(ck ((List.length (at' a65.2 a51.1):Int)+(List.length ([r74]):Int)<=1099511627) (ck (0<=a51.1∧a51.1<(List.length (List.set a65.2 (Int.toNat a51.1) ((at' a65.2 a51.1)++[r74])):Int)) (ag64 ((wI .i64 (a65.1+(1:Int))),(List.set a65.2 (Int.toNat a51.1) ((at' a65.2 a51.1)++[r74])))))))))else(qK p1 a51 ag50 (a65.2))
def iB (U:Nat) (p0:qT) (p1:fR) (p2:bP) (a51:Cv) (ag50:Cu->Option (Int)):Option (Int):=
 if a51.1<(List.length p1.2:Int)then(ck (0<=a51.1∧a51.1<(List.length p1.2:Int)) (ck (0<=a51.1∧a51.1<(List.length p1.1:Int)) (bZ (kY U p1 a51 ag50) U ((0:Int),a51.2.2))))else(nE U p0 p1 p2 (a51.2.1,a51.2.2))
def gV (U:Nat) (p0:qT) (p1:fR) (p2:bP):Option (Int):=
 Option.bind (oD U ((p0.1,p0.2.1,p0.2.2)) ((p1.1,p1.2)) p2) fun r3=>(if(!r3)=true then(some (0:Int))else(ck (0<=(List.length p1.2:Int)∧(List.length p1.2:Int)<=1099511627) (bZ (iB U p0 p1 p2) U ((0:Int),(0:Int),(List.replicate (Int.toNat (List.length p1.2:Int)) ([]:bW))))))
theorem Ki:a_ Tryz.prog 11:=Tryz.call11
theorem vX (U:Nat) {p0:qT} {p1:fR} {p2:bP} (v0:Value)  (v1:Value)  (v2:Value)  (v3:Value)  (z4:oZ)  (v5:Value)  (z6:qU) (r:Int) (h:gV U p0 p1 p2=some r):
  bJ Tryz.prog 11 #[Value.agg #[vS (p0.1),v0,v1],Value.agg #[v2,v3],v5] [Sl aD v0 p0.2.1,Sl aB v1 p0.2.2,PF (Value.agg #[vS p0.1,v0,v1]),Sl bT v2 p1.1,S2 bM v3 z4 p1.2,S2 bT v5 z6 p2] (fun x:Unit=>vU (r)) (fun x l=>l) (fun _ l=>l):=by
 refine bJ.of Tryz.func11 rfl Tryz.ntmps11 rfl fun c=>?_
 refine aX<|aK (aN.box (cs:=[vS (p0.1),v0,v1]) rfl rfl) rfl fun b1=>aK (aN.box (cs:=[v2,v3]) rfl rfl) rfl fun b2=>aF rfl<|aP<|aM<|aX<|fH 1 rfl<|fH 0 rfl<|aA rfl<|gK h fun r3 w4 h=>aK (aN.callQ Uh (Fh U v0 v1 v2 v3 z4 v5 z6 r3 w4) rfl (pJ [0,1,2,3,4,5] rfl)) rfl fun x5=>aE (yZ rfl) rfl<|aP ?_
 refine AQ h rfl (fun _ h=>?_) fun _ h=>?_
 ·refine aX<|aF rfl<|aP<|aW<|aL ?_
  cases h
  exact xC rfl
 refine eL<|aX<|fH 1 rfl<|fH 0 rfl<|GM (A:=eT×Int×bP) (B:=Ql) (vs:=[Value.agg #[vS (p0.1),v0,v1],Value.agg #[v2,v3]]) (fun a16=>tU U p0 p1 p2 a16=some r) (fun a16 b17=>vP b17.1) (fun a16 b17=>[cR b17.1 [vS (p0.1),v0,v1,vP b17.2.1,b17.2.2.1] 117,Ar dH.raw b17.2.2.1 b17.2.2.2.1,fI bX b17.2.2.2.1 a16.1,cR b17.2.1 [vS (p0.1),v0,v1,v2,v3,vI (a16.2.1),b17.2.2.2.2.1] 161,Ar dH.raw b17.2.2.2.2.1 b17.2.2.2.2.2,fI cB b17.2.2.2.2.2 a16.2.2]) (fun a16 b17=>[Sl aD v0 p0.2.1,Sl aB v1 p0.2.2,PF (Value.agg #[vS p0.1,v0,v1]),Sl bT v2 p1.1,S2 bM v3 z4 p1.2,S2 bT v5 z6 p2]) (yW.fn (show a_ Tryz.prog 33 from Tryz.call33) rfl) Tryz.func33 rfl Tryz.ntmps33 rfl rfl ?_ ?_
 ·refine aX<|aK (aN.box (cs:=[vS (p0.1),v0,v1]) rfl rfl) rfl fun b21=>aK (aN.box (cs:=[v2,v3]) rfl rfl) rfl fun b22=>aF rfl<|aP<|aM ?_
  refine JR.start [0,0,0,6,0,0,62,127,255,511] 7 mixedOrders (by decide +kernel) ?_
  refine JR.open (by exact rfl) ?_
  refine g_ 1 rfl<|g_ 1 rfl<|g_ 0 rfl<|GN (A:=rC) (B:=Nat×Value×List Value) (vs:=[Value.agg #[vS (p0.1),v0,v1],Value.agg #[v2,v3]]) (fun a28=>qJ U p0 p1 p2 a28=some r) (fun a28 b29=>vP b29.1) (fun a28 b29=>[cR b29.1 [vS (p0.1),v0,v1,v2,v3,vI (a28.1),b29.2.1] 161,Ar dH.raw b29.2.1 b29.2.2,fI cB b29.2.2 a28.2,cR b22 [v2,v3] 28,cR b21 [vS (p0.1),v0,v1] 33]) (fun a28 b29=>[Sl aD v0 p0.2.1,Sl aB v1 p0.2.2,PF (Value.agg #[vS p0.1,v0,v1]),Sl bT v2 p1.1,S2 bM v3 z4 p1.2,S2 bT v5 z6 p2]) rfl rfl rfl (yW.fn (show a_ Tryz.prog 62 from Tryz.call62) rfl) Tryz.func62 rfl Tryz.ntmps62 rfl rfl (fun _ _=>(tM [([4],[])] rfl)) ?_ ?_
  ·refine aX<|aK (aN.box (cs:=[vS (p0.1),v0,v1]) rfl rfl) rfl fun b35=>aK (aN.box (cs:=[v2,v3]) rfl rfl) rfl fun b36=>aF rfl<|aP<|aM ?_
   refine JR.start [0,0,0,4,12,28,63,127,255] 6 mixedOrders (by decide +kernel) ?_
   refine JR.open (by exact rfl) ?_
   refine g_ 1 rfl<|g_ 0 rfl<|c_ rfl<|jN 0 rfl<|bY rfl .nil (q_ 4 rfl) (jB rfl (aG.fact 0 rfl) rfl) aI.z<|eM h fun j37 h=>JR.stp (mR cB (Int.toNat (List.length p1.2:Int)))<|JR.loud rfl rfl rfl (nX (e:=dH.raw) (lQ) rfl rfl rfl rfl j37 rfl rfl rfl) rfl (fun u38=>(tM [([2],[]),([3],[])] rfl)) fun u38=>cD 6 rfl rfl<|cH (Know.one (aG.sl (bG (i:=0) (j:=1) rfl rfl cU))) fun ho39=>?_
   refine aE (CI (r:=Value.agg #[vS (p0.1),v0,v1,v2,v3,vI (0:Int),u38]) rfl rfl rfl (by intro w;simp[Instr.build,Instr.fill,gE,fJ,eO,gF,gG,fK,iS,kX ho39])) rfl ?_
   refine aK (aN.box (cs:=[vS (p0.1),v0,v1,v2,v3,vI (0:Int),u38]) rfl rfl) rfl fun b40=>aF rfl<|aP<|aM<|yM (B:=eG) (fun a44=>nE U p0 p1 p2 a44=some r) (fun a44 b45=>[(5,vP b40)]) (fun a44 b45=>[cR b40 [vS (p0.1),v0,v1,v2,v3,vI (a44.1),u38] 161,Ar dH.raw u38 b45,fI cB b45 a44.2,cR b22 [v2,v3] 28,cR b21 [vS (p0.1),v0,v1] 33]) ?_ ?_
   ·refine aX<|cV rfl<|iF 3 rfl<|aE (jB rfl (aG.fact 4 rfl) rfl) rfl<|aA rfl<|aP<|aY<|hJ (B:=eG) (iB U p0 p1 p2) (fun a51 b52=>[(3,vP b36),(5,vP b40),(19,v3),(20,vI (List.length p1.2:Int)),(21,vI (a51.1))]) (fun a51 b52=>[cR b40 [vS (p0.1),v0,v1,v2,v3,vI (a51.2.1),u38] 161,Ar dH.raw u38 b52,fI cB b52 a51.2.2,cR b36 [v2,v3] 28,cR b22 [v2,v3] 28,cR b21 [vS (p0.1),v0,v1] 33]) ((0:Int),(0:Int),(List.replicate (Int.toNat (List.length p1.2:Int)) ([]:bW))) (List.replicate (Int.toNat (List.length p1.2:Int)) (lQ)) h SF (aT.ix [0,1,2,3,5,6] rfl rfl) ?_
    intro k53 a51 b52 h
    refine aX<|eD rfl<|aP<|aM ?_
    refine gP h rfl (fun h=>?_) fun h=>?_
    ·refine eL<|aM<|yM (B:=eG) (fun a57=>qK p1 a51 (bZ (iB U p0 p1 p2) k53) a57=some r) (fun a57 b58=>[(3,vP b36),(5,vP b40),(19,v3),(20,vI (List.length p1.2:Int)),(21,vI (a51.1))]) (fun a57 b58=>[cR b40 [vS (p0.1),v0,v1,v2,v3,vI (max a51.2.1 (at' p1.1 a51.1)),u38] 161,Ar dH.raw u38 b58,fI cB b58 a57,cR b36 [v2,v3] 28,cR b22 [v2,v3] 28,cR b21 [vS (p0.1),v0,v1] 33]) ?_ ?_
     ·refine aY<|aX<|aA rfl<|eM h fun j59 h=>aE (dK rfl rfl (aG.fact 4 rfl) rfl rfl j59) rfl<|aE (eI rfl (aG.fact 4 rfl) rfl rfl j59) rfl<|aF rfl<|aF rfl<|aP<|aM ?_
      refine JR.start [0,0,2,6,14,0,32,0,224,480,1022,2047,4095,8191] 11 mixedOrders (by decide +kernel) ?_
      refine JR.open (by exact rfl) ?_
      refine bL rfl<|bL rfl<|mP rfl (bO rfl)<|c_ rfl<|jN 0 rfl<|c_ rfl<|jN 3 rfl<|bL rfl<|eM h fun j60 h=>bY rfl .nil (q_ 3 rfl) (bQ rfl rfl (aG.fact 0 rfl) rfl rfl j60) aI.z<|bY rfl .nil (q_ 3 rfl) (cF rfl (aG.fact 0 rfl) rfl rfl rfl dJ j60) aI.z<|mP rfl (En rfl rfl)<|cD 11 rfl rfl<|aE (bO rfl) rfl<|cV rfl<|zJ 0 rfl rfl rfl rfl rfl rfl<|aP<|aX<|aA rfl<|aE (kQ rfl (aG.el (aG.fact 4 rfl) j59.1 j59.2) rfl) rfl<|aA rfl<|aP<|aY<|hJ (B:=eG) (kY U p1 a51 (bZ (iB U p0 p1 p2) k53)) (fun a65 b66=>[(3,vP b36),(5,vP b40),(6,vI (a51.1)),(19,v3),(20,vI (List.length p1.2:Int)),(21,vI (a51.1)),(39,(at' z4 a51.1).1),(40,vI (List.length (at' p1.2 a51.1):Int)),(41,vI (a65.1))]) (fun a65 b66=>[cR b40 [vS (p0.1),v0,v1,v2,v3,vI (max a51.2.1 (at' p1.1 a51.1)),u38] 161,Ar dH.raw u38 b66,fI cB b66 a65.2,cR b36 [v2,v3] 28,cR b22 [v2,v3] 28,cR b21 [vS (p0.1),v0,v1] 33]) ((0:Int),a51.2.2) (b52) h SF (aT.refl _) ?_
      intro k67 a65 b66 h
      refine aX<|eD rfl<|aP<|aM ?_
      refine gP h rfl (fun h=>?_) fun h=>?_
      ·refine eL<|aM<|aY<|aX<|eM h fun j69 h=>aE (bQ rfl rfl (aG.el (aG.fact 4 rfl) j59.1 j59.2) rfl rfl j69) rfl<|aE (iR (cs:=[vI ((at' (at' p1.2 a51.1) a65.1).1),vI ((at' (at' p1.2 a51.1) a65.1).2)]) rfl (aG.el (aG.fact 4 rfl) j59.1 j59.2) bN rfl rfl rfl rfl j69) rfl<|aK (aN.alloc (cs:=Qu) rfl rfl) rfl fun b70=>cL 0 (vs:=[vI ((at' (at' p1.2 a51.1) a65.1).1),vI ((at' (at' p1.2 a51.1) a65.1).2)]) rfl rfl rfl rfl rfl rfl<|aP ?_
       refine JR.start [0,1,3,7,0,0,32,96,224,0,992,2016,0,0,8192,0,61440,126976,262112,524287,1048575] 19 mixedOrders (by decide +kernel) ?_
       refine JR.open (by exact rfl) ?_
       refine bL rfl<|mP rfl (bO rfl)<|c_ rfl<|jN 1 rfl<|bL rfl<|bL rfl<|mP rfl (bO rfl)<|c_ rfl<|jN 1 rfl<|bL rfl<|eM h fun j71 h=>bU (bF 3 rfl) fun hl72=>?_
       refine bY rfl (aT.cons 2 rfl .nil) .nil (dC 0 rfl rfl rfl rfl rfl j71.1 (by have q1:=j71.2;have q2:=hl72;(try simp only[List.length_set]at q1);(try simp only[List.length_set]at q2);(try simp only[List.length_set]);omega)) aI.z ?_
       refine bU (bF 3 rfl) fun hl73=>bY rfl (aT.cons 2 rfl .nil) .nil (dA 0 rfl rfl hl73 rfl rfl j71) aI.z<|g_ 4 rfl<|c_ rfl<|jN 0 rfl<|bL rfl<|gK h fun r74 w75 h=>JR.loud rfl rfl rfl (aN.callQ Ha (vV U v2 v3 z4 r74 w75) rfl (pJ [3,4] rfl)) rfl (fun x76=>(tM [([2],[]),([2],[]),([1],[]),([1],[])] rfl)) fun x76=>JR.loud rfl rfl rfl (eW (e:=cB) ([r74]) [(0,vI (r74))] rfl rfl rfl rfl (u_ (vI (r74)) rfl) rfl rfl rfl) rfl (fun u77=>(tM [([3],[]),([3],[]),([2],[]),([2],[])] rfl)) fun u77=>eM h fun j79 h=>JR.loud rfl rfl rfl (gY 4 cU rfl rfl rfl (cI (aG.res 0 rfl) cU) rfl rfl rfl rfl j71 j79 rfl) rfl (fun u78=>(tM [([2],[])] rfl)) fun u78=>cD 19 rfl rfl<|eM h fun j80 h=>cH (bF 4 rfl) fun hl81=>?_
       refine aE (dC 3 rfl rfl rfl rfl rfl j80.1 (by have q1:=j80.2;have q2:=hl81;(try simp only[List.length_set]at q1);(try simp only[List.length_set]at q2);(try simp only[List.length_set]);omega)) rfl ?_
       refine cH (nW 4 (k:=a51.1) rfl ⟨j80.1,by first|exact j80.2|simpa using j80.2⟩) fun ho82=>?_
       refine jK 3 4 ⟨j80.1,by first|exact j80.2|simpa using j80.2⟩ rfl rfl rfl rfl rfl (by simp) ho82 rfl ?_
       refine fU<|qB<|aS<|eC rfl<|aA rfl<|aP ?_
       exact lZ ((wI .i64 (a65.1+(1:Int))),(List.set a65.2 (Int.toNat a51.1) ((at' a65.2 a51.1)++[r74]))) (List.set b66 (Int.toNat a51.1) u78) h SF (aT.ix [2,3,4,5,6,7] rfl rfl) (aH.refl _ _)
      refine wT<|kH<|kH<|AY<|qB ?_
      exact jO (a65.2) (b66) h SF rfl
     intro a57 b58 h
     unfold qK at h
     refine aS<|eC rfl<|aA rfl<|aP ?_
     exact BF ((wI .i64 (a51.1+(1:Int))),(max a51.2.1 (at' p1.1 a51.1)),a57) (b58) h SF rfl
    refine iV ?_
    exact dZ (a51.2.1,a51.2.2) (b52) h SF (aT.ix [0,1,2,4,5] rfl rfl) (aH.refl _ _)
   intro a44 b45 h
   unfold nE at h
   refine aX<|aA rfl<|aF rfl<|aP<|aW ?_
   exact Bj (a44.1,a44.2) (b40,u38,b45) h (.inl rfl) (Nu.r1 rfl (RV.tmp rfl)) rfl (aT.refl _) (aH.refl _ _)
  intro a28 b29 h
  unfold qJ at h
  refine bY rfl (aT.cons 4 rfl .nil) .nil (jX 0 rfl rfl rfl rfl) (aI.h (aT.ix [1] rfl rfl) .nil aI.z)<|bY rfl (aT.cons 3 rfl .nil) .nil (jX 0 rfl rfl rfl rfl) (aI.h (aT.ix [0] rfl rfl) .nil aI.z)<|gK h fun r30 w31 h=>JR.loud rfl rfl rfl (aN.callQ Hc (rX U v0 v1 v2 v3 z4 r30 w31) rfl (pJ [0,1,2,3,4] rfl)) rfl (fun x32=>(tM [([6],[])] rfl)) fun x32=>cD 7 rfl rfl<|cH (Know.one (aG.sl (bG (i:=0) (j:=1) rfl rfl bN))) fun ho33=>?_
  refine aE (CI (r:=Value.agg #[vS (p0.1),v0,v1,Value.pointer (some ⟨b29.1,0,none⟩),x32.1]) rfl rfl rfl (by intro w;simp[Instr.build,Instr.fill,gE,fJ,eO,gF,gG,fK,iS,kX ho33])) rfl ?_
  refine aK (aN.box (cs:=[vS (p0.1),v0,v1,vP b29.1,x32.1]) rfl rfl) rfl fun b34=>aF rfl<|aP<|aW ?_
  exact Bj (r30,a28.1,a28.2) (b34,b29.1,x32.1,x32.2,b29.2.1,b29.2.2) h (.inl rfl) (Nu.r1 rfl (RV.tmp rfl)) rfl (aT.ix [0,1,2,3,4,5] rfl rfl) (aH.refl _ _)
 intro a16 b17 h
 refine aA rfl<|gK h fun r18 w19 h=>aK (aN.callQ Oi (rB U b17.1 v0 v1 b17.2.1 v0 v1 v2 v3 z4 b17.2.2.2.2.1 (List.zip b17.2.2.2.2.2 a16.2.2) b17.2.2.1 (List.zip b17.2.2.2.1 a16.1) v5 z6 r18 w19) rfl (aH.cons (aG.res 0 rfl) (aH.cons (aG.fact 0 rfl) (aH.cons (aG.fact 1 rfl) (aH.cons (aG.res 3 rfl) (aH.cons (aG.fact 0 rfl) (aH.cons (aG.fact 1 rfl) (aH.cons (aG.fact 3 rfl) (aH.cons (aG.fact 4 rfl) (aH.cons (bG (i:=4) (j:=5) rfl rfl cU) (aH.cons (bG (i:=1) (j:=2) rfl rfl bN) (pJ [5] rfl)))))))))))) rfl fun x20=>aF rfl<|aP<|aW ?_
 cases h
 exact xC rfl
end
section
def uN (U:Nat) (p0:qT) (p1:fR) (p2:bP) (p3:Int) (a16:eT×Int×bP) (a19:Bool):Option v_:=
 if a19=true then(some (([]:bP),(11:Int)))else(Option.bind (jF U ((((p0.1,p0.2.1,p0.2.2)),((((p0.1,p0.2.1,p0.2.2)),((p1.1,p1.2)),a16.2.1,a16.2.2)),a16.1)) p2 p3) fun r22=>(some (r22,(0:Int))))
def yS (U:Nat) (p0:qT) (p1:fR) (p2:bP) (p3:Int) (a16:eT×Int×bP):Option v_:=
 if p3=(0:Int)then(uN U p0 p1 p2 p3 a16 (true))else(Option.bind (eK U ((((p0.1,p0.2.1,p0.2.2)),((((p0.1,p0.2.1,p0.2.2)),((p1.1,p1.2)),a16.2.1,a16.2.2)),a16.1)) p2) fun r26=>(uN U p0 p1 p2 p3 a16 (decide ((BQ .u32 p3 r26)≠(0:Int)))))
def uO (U:Nat) (p0:qT) (p1:fR) (p2:bP) (p3:Int) (a36:rC):Option v_:=
 Option.bind (fO U ((p0.1,p0.2.1,p0.2.2)) ((p1.1,p1.2))) fun r38=>(yS U p0 p1 p2 p3 (r38,a36.1,a36.2))
def rW (U:Nat) (p0:qT) (p1:fR) (p2:bP) (p3:Int) (a52:rC):Option v_:=
 uO U p0 p1 p2 p3 (a52.1,a52.2)
def uP (p1:fR) (a59:Cv) (ag58:Cu->Option v_) (a65:bP):Option v_:=
 ag58 ((wI .i64 (a59.1+(1:Int))),(max a59.2.1 (at' p1.1 a59.1)),a65)
def oY (U:Nat) (p1:fR) (a59:Cv) (ag58:Cu->Option v_) (a73:rC) (ag72:Al->Option v_):Option v_:=
 if a73.1<(List.length (at' p1.2 a59.1):Int)then(ck (0<=a73.1∧a73.1<(List.length (at' p1.2 a59.1):Int)) (ck (0<=a59.1∧a59.1<(List.length a73.2:Int)) (Option.bind (gT U ((p1.1,p1.2)) ((at' (at' p1.2 a59.1) a73.1).1) a59.1) fun r82=>(ck ((List.length (at' a73.2 a59.1):Int)+(List.length ([r82]):Int)<=1099511627) (ck (0<=a59.1∧a59.1<(List.length (List.set a73.2 (Int.toNat a59.1) ((at' a73.2 a59.1)++[r82])):Int)) (ag72 ((wI .i64 (a73.1+(1:Int))),(List.set a73.2 (Int.toNat a59.1) ((at' a73.2 a59.1)++[r82])))))))))else(uP p1 a59 ag58 (a73.2))
def lJ (U:Nat) (p0:qT) (p1:fR) (p2:bP) (p3:Int) (a59:Cv) (ag58:Cu->Option v_):Option v_:=
 if a59.1<(List.length p1.2:Int)then(ck (0<=a59.1∧a59.1<(List.length p1.2:Int)) (ck (0<=a59.1∧a59.1<(List.length p1.1:Int)) (bZ (oY U p1 a59 ag58) U ((0:Int),a59.2.2))))else(rW U p0 p1 p2 p3 (a59.2.1,a59.2.2))
def tJ (U:Nat) (p0:qT) (p1:fR) (p2:bP) (p3:Int):Option v_:=
 Option.bind (gU U ((p0.1,p0.2.1,p0.2.2)) ((p1.1,p1.2)) p2) fun r3=>(if r3≠(0:Int)then(some (([]:bP),r3))else(ck (0<=(List.length p1.2:Int)∧(List.length p1.2:Int)<=1099511627) (bZ (lJ U p0 p1 p2 p3) U ((0:Int),(0:Int),(List.replicate (Int.toNat (List.length p1.2:Int)) ([]:bW))))))
theorem Uf:a_ Tryz.prog 13:=Tryz.call13
theorem Jl (U:Nat) {p0:qT} {p1:fR} {p2:bP} {p3:Int} (v0:Value)  (v1:Value)  (v2:Value)  (v3:Value)  (z4:oZ)  (v5:Value)  (z6:qU) (r:bP×Int) (h:tJ U p0 p1 p2 p3=some r):
  bJ Tryz.prog 13 #[Value.agg #[vS (p0.1),v0,v1],Value.agg #[v2,v3],v5,vU (p3)] [Sl aD v0 p0.2.1,Sl aB v1 p0.2.2,PF (Value.agg #[vS p0.1,v0,v1]),Sl bT v2 p1.1,S2 bM v3 z4 p1.2,S2 bT v5 z6 p2] (fun x:Dx=>Value.tuple #[x.1,vI (r.2)]) (fun x l=>Ar dH.raw x.1 x.2::fI cB x.2 r.1::l) (fun _ l=>l):=by
 refine bJ.of Tryz.func13 rfl Tryz.ntmps13 rfl fun c=>?_
 refine aX<|aK (aN.box (cs:=[vS (p0.1),v0,v1]) rfl rfl) rfl fun b1=>aK (aN.box (cs:=[v2,v3]) rfl rfl) rfl fun b2=>aF rfl<|aF rfl<|aP<|aM<|aX<|fH 1 rfl<|fH 0 rfl<|aA rfl<|gK h fun r3 w4 h=>aK (aN.callQ Kl (vW U v0 v1 v2 v3 z4 v5 z6 r3 w4) rfl (pJ [0,1,2,3,4,5] rfl)) rfl fun x5=>aF rfl<|aP<|aX<|aA rfl<|sD rfl<|aP ?_
 refine gP h rfl (fun h=>?_) fun h=>?_
 ·refine aX<|aA rfl<|aF rfl<|aF rfl<|aP<|aW<|aL<|m_ (nJ dH.raw) (m_ (wH cB) ?_)
  cases h
  exact iY ((lQ),([]:eG)) rfl rfl (RV.tmp rfl) (RV.tmp rfl) (aT.ix [1,0] rfl rfl) aH.nil
 refine eL<|aX<|fH 1 rfl<|fH 0 rfl<|GM (A:=eT×Int×bP) (B:=Ql) (vs:=[Value.agg #[vS (p0.1),v0,v1],Value.agg #[v2,v3]]) (fun a16=>yS U p0 p1 p2 p3 a16=some r) (fun a16 b17=>vP b17.1) (fun a16 b17=>[cR b17.1 [vS (p0.1),v0,v1,vP b17.2.1,b17.2.2.1] 117,Ar dH.raw b17.2.2.1 b17.2.2.2.1,fI bX b17.2.2.2.1 a16.1,cR b17.2.1 [vS (p0.1),v0,v1,v2,v3,vI (a16.2.1),b17.2.2.2.2.1] 161,Ar dH.raw b17.2.2.2.2.1 b17.2.2.2.2.2,fI cB b17.2.2.2.2.2 a16.2.2]) (fun a16 b17=>[Sl aD v0 p0.2.1,Sl aB v1 p0.2.2,PF (Value.agg #[vS p0.1,v0,v1]),Sl bT v2 p1.1,S2 bM v3 z4 p1.2,S2 bT v5 z6 p2]) (yW.fn (show a_ Tryz.prog 33 from Tryz.call33) rfl) Tryz.func33 rfl Tryz.ntmps33 rfl rfl ?_ ?_
 ·refine aX<|aK (aN.box (cs:=[vS (p0.1),v0,v1]) rfl rfl) rfl fun b29=>aK (aN.box (cs:=[v2,v3]) rfl rfl) rfl fun b30=>aF rfl<|aP<|aM ?_
  refine JR.start [0,0,0,6,0,0,62,127,255,511] 7 mixedOrders (by decide +kernel) ?_
  refine JR.open (by exact rfl) ?_
  refine g_ 1 rfl<|g_ 1 rfl<|g_ 0 rfl<|GN (A:=rC) (B:=Nat×Value×List Value) (vs:=[Value.agg #[vS (p0.1),v0,v1],Value.agg #[v2,v3]]) (fun a36=>uO U p0 p1 p2 p3 a36=some r) (fun a36 b37=>vP b37.1) (fun a36 b37=>[cR b37.1 [vS (p0.1),v0,v1,v2,v3,vI (a36.1),b37.2.1] 161,Ar dH.raw b37.2.1 b37.2.2,fI cB b37.2.2 a36.2,cR b30 [v2,v3] 28,cR b29 [vS (p0.1),v0,v1] 33]) (fun a36 b37=>[Sl aD v0 p0.2.1,Sl aB v1 p0.2.2,PF (Value.agg #[vS p0.1,v0,v1]),Sl bT v2 p1.1,S2 bM v3 z4 p1.2,S2 bT v5 z6 p2]) rfl rfl rfl (yW.fn (show a_ Tryz.prog 62 from Tryz.call62) rfl) Tryz.func62 rfl Tryz.ntmps62 rfl rfl (fun _ _=>(tM [([4],[])] rfl)) ?_ ?_
  ·refine aX<|aK (aN.box (cs:=[vS (p0.1),v0,v1]) rfl rfl) rfl fun b43=>aK (aN.box (cs:=[v2,v3]) rfl rfl) rfl fun b44=>aF rfl<|aP<|aM ?_
   refine JR.start [0,0,0,4,12,28,63,127,255] 6 mixedOrders (by decide +kernel) ?_
   refine JR.open (by exact rfl) ?_
   refine g_ 1 rfl<|g_ 0 rfl<|c_ rfl<|jN 0 rfl<|bY rfl .nil (q_ 4 rfl) (jB rfl (aG.fact 0 rfl) rfl) aI.z<|eM h fun j45 h=>JR.stp (mR cB (Int.toNat (List.length p1.2:Int)))<|JR.loud rfl rfl rfl (nX (e:=dH.raw) (lQ) rfl rfl rfl rfl j45 rfl rfl rfl) rfl (fun u46=>(tM [([2],[]),([3],[])] rfl)) fun u46=>cD 6 rfl rfl<|cH (Know.one (aG.sl (bG (i:=0) (j:=1) rfl rfl cU))) fun ho47=>?_
   refine aE (CI (r:=Value.agg #[vS (p0.1),v0,v1,v2,v3,vI (0:Int),u46]) rfl rfl rfl (by intro w;simp[Instr.build,Instr.fill,gE,fJ,eO,gF,gG,fK,iS,kX ho47])) rfl ?_
   refine aK (aN.box (cs:=[vS (p0.1),v0,v1,v2,v3,vI (0:Int),u46]) rfl rfl) rfl fun b48=>aF rfl<|aP<|aM<|yM (B:=eG) (fun a52=>rW U p0 p1 p2 p3 a52=some r) (fun a52 b53=>[(5,vP b48)]) (fun a52 b53=>[cR b48 [vS (p0.1),v0,v1,v2,v3,vI (a52.1),u46] 161,Ar dH.raw u46 b53,fI cB b53 a52.2,cR b30 [v2,v3] 28,cR b29 [vS (p0.1),v0,v1] 33]) ?_ ?_
   ·refine aX<|cV rfl<|iF 3 rfl<|aE (jB rfl (aG.fact 4 rfl) rfl) rfl<|aA rfl<|aP<|aY<|hJ (B:=eG) (lJ U p0 p1 p2 p3) (fun a59 b60=>[(3,vP b44),(5,vP b48),(19,v3),(20,vI (List.length p1.2:Int)),(21,vI (a59.1))]) (fun a59 b60=>[cR b48 [vS (p0.1),v0,v1,v2,v3,vI (a59.2.1),u46] 161,Ar dH.raw u46 b60,fI cB b60 a59.2.2,cR b44 [v2,v3] 28,cR b30 [v2,v3] 28,cR b29 [vS (p0.1),v0,v1] 33]) ((0:Int),(0:Int),(List.replicate (Int.toNat (List.length p1.2:Int)) ([]:bW))) (List.replicate (Int.toNat (List.length p1.2:Int)) (lQ)) h SF (aT.ix [0,1,2,3,5,6] rfl rfl) ?_
    intro k61 a59 b60 h
    refine aX<|eD rfl<|aP<|aM ?_
    refine gP h rfl (fun h=>?_) fun h=>?_
    ·refine eL<|aM<|yM (B:=eG) (fun a65=>uP p1 a59 (bZ (lJ U p0 p1 p2 p3) k61) a65=some r) (fun a65 b66=>[(3,vP b44),(5,vP b48),(19,v3),(20,vI (List.length p1.2:Int)),(21,vI (a59.1))]) (fun a65 b66=>[cR b48 [vS (p0.1),v0,v1,v2,v3,vI (max a59.2.1 (at' p1.1 a59.1)),u46] 161,Ar dH.raw u46 b66,fI cB b66 a65,cR b44 [v2,v3] 28,cR b30 [v2,v3] 28,cR b29 [vS (p0.1),v0,v1] 33]) ?_ ?_
     ·refine aY<|aX<|aA rfl<|eM h fun j67 h=>aE (dK rfl rfl (aG.fact 4 rfl) rfl rfl j67) rfl<|aE (eI rfl (aG.fact 4 rfl) rfl rfl j67) rfl<|aF rfl<|aF rfl<|aP<|aM ?_
      refine JR.start [0,0,2,6,14,0,32,0,224,480,1022,2047,4095,8191] 11 mixedOrders (by decide +kernel) ?_
      refine JR.open (by exact rfl) ?_
      refine bL rfl<|bL rfl<|mP rfl (bO rfl)<|c_ rfl<|jN 0 rfl<|c_ rfl<|jN 3 rfl<|bL rfl<|eM h fun j68 h=>bY rfl .nil (q_ 3 rfl) (bQ rfl rfl (aG.fact 0 rfl) rfl rfl j68) aI.z<|bY rfl .nil (q_ 3 rfl) (cF rfl (aG.fact 0 rfl) rfl rfl rfl dJ j68) aI.z<|mP rfl (En rfl rfl)<|cD 11 rfl rfl<|aE (bO rfl) rfl<|cV rfl<|zJ 0 rfl rfl rfl rfl rfl rfl<|aP<|aX<|aA rfl<|aE (kQ rfl (aG.el (aG.fact 4 rfl) j67.1 j67.2) rfl) rfl<|aA rfl<|aP<|aY<|hJ (B:=eG) (oY U p1 a59 (bZ (lJ U p0 p1 p2 p3) k61)) (fun a73 b74=>[(3,vP b44),(5,vP b48),(6,vI (a59.1)),(19,v3),(20,vI (List.length p1.2:Int)),(21,vI (a59.1)),(39,(at' z4 a59.1).1),(40,vI (List.length (at' p1.2 a59.1):Int)),(41,vI (a73.1))]) (fun a73 b74=>[cR b48 [vS (p0.1),v0,v1,v2,v3,vI (max a59.2.1 (at' p1.1 a59.1)),u46] 161,Ar dH.raw u46 b74,fI cB b74 a73.2,cR b44 [v2,v3] 28,cR b30 [v2,v3] 28,cR b29 [vS (p0.1),v0,v1] 33]) ((0:Int),a59.2.2) (b60) h SF (aT.refl _) ?_
      intro k75 a73 b74 h
      refine aX<|eD rfl<|aP<|aM ?_
      refine gP h rfl (fun h=>?_) fun h=>?_
      ·refine eL<|aM<|aY<|aX<|eM h fun j77 h=>aE (bQ rfl rfl (aG.el (aG.fact 4 rfl) j67.1 j67.2) rfl rfl j77) rfl<|aE (iR (cs:=[vI ((at' (at' p1.2 a59.1) a73.1).1),vI ((at' (at' p1.2 a59.1) a73.1).2)]) rfl (aG.el (aG.fact 4 rfl) j67.1 j67.2) bN rfl rfl rfl rfl j77) rfl<|aK (aN.alloc (cs:=Qu) rfl rfl) rfl fun b78=>cL 0 (vs:=[vI ((at' (at' p1.2 a59.1) a73.1).1),vI ((at' (at' p1.2 a59.1) a73.1).2)]) rfl rfl rfl rfl rfl rfl<|aP ?_
       refine JR.start [0,1,3,7,0,0,32,96,224,0,992,2016,0,0,8192,0,61440,126976,262112,524287,1048575] 19 mixedOrders (by decide +kernel) ?_
       refine JR.open (by exact rfl) ?_
       refine bL rfl<|mP rfl (bO rfl)<|c_ rfl<|jN 1 rfl<|bL rfl<|bL rfl<|mP rfl (bO rfl)<|c_ rfl<|jN 1 rfl<|bL rfl<|eM h fun j79 h=>bU (bF 3 rfl) fun hl80=>?_
       refine bY rfl (aT.cons 2 rfl .nil) .nil (dC 0 rfl rfl rfl rfl rfl j79.1 (by have q1:=j79.2;have q2:=hl80;(try simp only[List.length_set]at q1);(try simp only[List.length_set]at q2);(try simp only[List.length_set]);omega)) aI.z ?_
       refine bU (bF 3 rfl) fun hl81=>bY rfl (aT.cons 2 rfl .nil) .nil (dA 0 rfl rfl hl81 rfl rfl j79) aI.z<|g_ 4 rfl<|c_ rfl<|jN 0 rfl<|bL rfl<|gK h fun r82 w83 h=>JR.loud rfl rfl rfl (aN.callQ Ha (vV U v2 v3 z4 r82 w83) rfl (pJ [3,4] rfl)) rfl (fun x84=>(tM [([2],[]),([2],[]),([1],[]),([1],[])] rfl)) fun x84=>JR.loud rfl rfl rfl (eW (e:=cB) ([r82]) [(0,vI (r82))] rfl rfl rfl rfl (u_ (vI (r82)) rfl) rfl rfl rfl) rfl (fun u85=>(tM [([3],[]),([3],[]),([2],[]),([2],[])] rfl)) fun u85=>eM h fun j87 h=>JR.loud rfl rfl rfl (gY 4 cU rfl rfl rfl (cI (aG.res 0 rfl) cU) rfl rfl rfl rfl j79 j87 rfl) rfl (fun u86=>(tM [([2],[])] rfl)) fun u86=>cD 19 rfl rfl<|eM h fun j88 h=>cH (bF 4 rfl) fun hl89=>?_
       refine aE (dC 3 rfl rfl rfl rfl rfl j88.1 (by have q1:=j88.2;have q2:=hl89;(try simp only[List.length_set]at q1);(try simp only[List.length_set]at q2);(try simp only[List.length_set]);omega)) rfl ?_
       refine cH (nW 4 (k:=a59.1) rfl ⟨j88.1,by first|exact j88.2|simpa using j88.2⟩) fun ho90=>?_
       refine jK 3 4 ⟨j88.1,by first|exact j88.2|simpa using j88.2⟩ rfl rfl rfl rfl rfl (by simp) ho90 rfl ?_
       refine fU<|qB<|aS<|eC rfl<|aA rfl<|aP ?_
       exact lZ ((wI .i64 (a73.1+(1:Int))),(List.set a73.2 (Int.toNat a59.1) ((at' a73.2 a59.1)++[r82]))) (List.set b74 (Int.toNat a59.1) u86) h SF (aT.ix [2,3,4,5,6,7] rfl rfl) (aH.refl _ _)
      refine wT<|kH<|kH<|AY<|qB ?_
      exact jO (a73.2) (b74) h SF rfl
     intro a65 b66 h
     unfold uP at h
     refine aS<|eC rfl<|aA rfl<|aP ?_
     exact BF ((wI .i64 (a59.1+(1:Int))),(max a59.2.1 (at' p1.1 a59.1)),a65) (b66) h SF rfl
    refine iV ?_
    exact dZ (a59.2.1,a59.2.2) (b60) h SF (aT.ix [0,1,2,4,5] rfl rfl) (aH.refl _ _)
   intro a52 b53 h
   unfold rW at h
   refine aX<|aA rfl<|aF rfl<|aP<|aW ?_
   exact Bj (a52.1,a52.2) (b48,u46,b53) h (.inl rfl) (Nu.r1 rfl (RV.tmp rfl)) rfl (aT.refl _) (aH.refl _ _)
  intro a36 b37 h
  unfold uO at h
  refine bY rfl (aT.cons 4 rfl .nil) .nil (jX 0 rfl rfl rfl rfl) (aI.h (aT.ix [1] rfl rfl) .nil aI.z)<|bY rfl (aT.cons 3 rfl .nil) .nil (jX 0 rfl rfl rfl rfl) (aI.h (aT.ix [0] rfl rfl) .nil aI.z)<|gK h fun r38 w39 h=>JR.loud rfl rfl rfl (aN.callQ Hc (rX U v0 v1 v2 v3 z4 r38 w39) rfl (pJ [0,1,2,3,4] rfl)) rfl (fun x40=>(tM [([6],[])] rfl)) fun x40=>cD 7 rfl rfl<|cH (Know.one (aG.sl (bG (i:=0) (j:=1) rfl rfl bN))) fun ho41=>?_
  refine aE (CI (r:=Value.agg #[vS (p0.1),v0,v1,Value.pointer (some ⟨b37.1,0,none⟩),x40.1]) rfl rfl rfl (by intro w;simp[Instr.build,Instr.fill,gE,fJ,eO,gF,gG,fK,iS,kX ho41])) rfl ?_
  refine aK (aN.box (cs:=[vS (p0.1),v0,v1,vP b37.1,x40.1]) rfl rfl) rfl fun b42=>aF rfl<|aP<|aW ?_
  exact Bj (r38,a36.1,a36.2) (b42,b37.1,x40.1,x40.2,b37.2.1,b37.2.2) h (.inl rfl) (Nu.r1 rfl (RV.tmp rfl)) rfl (aT.ix [0,1,2,3,4,5] rfl rfl) (aH.refl _ _)
 intro a16 b17 h
 refine aF rfl<|aP<|aM<|aM<|kF (fun a19=>uN U p0 p1 p2 p3 a16 a19=some r) (fun a19 b20=>[(2,v5),(3,vU (p3)),(11,vP b17.1),(31,vB (a19))]) (fun a19 b20=>[cR b17.1 [vS (p0.1),v0,v1,vP b17.2.1,b17.2.2.1] 117,Ar dH.raw b17.2.2.1 b17.2.2.2.1,fI bX b17.2.2.2.1 a16.1,cR b17.2.1 [vS (p0.1),v0,v1,v2,v3,vI (a16.2.1),b17.2.2.2.2.1] 161,Ar dH.raw b17.2.2.2.2.1 b17.2.2.2.2.2,fI cB b17.2.2.2.2.2 a16.2.2]) ?_ ?_
 ·refine aS<|aA rfl<|dL rfl<|aA rfl ?_
  refine Dz h rfl (fun _ h=>?_) fun _ h=>?_
  ·refine aQ rfl<|aQ rfl<|aQ rfl<|aQ rfl<|aQ rfl<|aQ rfl<|iW rfl<|aP ?_
   exact jO (true) () h SF rfl
  refine dQ rfl<|dQ rfl<|dQ rfl<|gK h fun r26 w27 h=>DK rfl (aN.callQ Oi (rB U b17.1 v0 v1 b17.2.1 v0 v1 v2 v3 z4 b17.2.2.2.2.1 (List.zip b17.2.2.2.2.2 a16.2.2) b17.2.2.1 (List.zip b17.2.2.2.1 a16.1) v5 z6 r26 w27) rfl (aH.cons (aG.res 0 rfl) (aH.cons (aG.fact 0 rfl) (aH.cons (aG.fact 1 rfl) (aH.cons (aG.res 3 rfl) (aH.cons (aG.fact 0 rfl) (aH.cons (aG.fact 1 rfl) (aH.cons (aG.fact 3 rfl) (aH.cons (aG.fact 4 rfl) (aH.cons (bG (i:=4) (j:=5) rfl rfl cU) (aH.cons (bG (i:=1) (j:=2) rfl rfl bN) (pJ [5] rfl)))))))))))) rfl fun x28=>aR rfl (NT rfl rfl) rfl<|aR rfl (tF rfl rfl) rfl<|h_ rfl<|aP ?_
  exact jO (decide ((BQ .u32 p3 r26)≠(0:Int))) () h SF rfl
 intro a19 b20 h
 refine AQ h rfl (fun _ h=>?_) fun _ h=>?_
 ·refine aX<|aF rfl<|aF rfl<|aP<|aW<|aL<|m_ (nJ dH.raw) (m_ (wH cB) ?_)
  cases h
  exact iY ((lQ),([]:eG)) rfl rfl (RV.tmp rfl) (RV.tmp rfl) (aT.ix [1,0] rfl rfl) aH.nil
 refine eL<|aX<|aA rfl<|aA rfl<|aA rfl<|gK h fun r22 w23 h=>aK (aN.callQ Ui (Ae U b17.1 v0 v1 b17.2.1 v0 v1 v2 v3 z4 b17.2.2.2.2.1 (List.zip b17.2.2.2.2.2 a16.2.2) b17.2.2.1 (List.zip b17.2.2.2.1 a16.1) v5 z6 r22 w23) rfl (aH.cons (aG.res 0 rfl) (aH.cons (aG.fact 0 rfl) (aH.cons (aG.fact 1 rfl) (aH.cons (aG.res 3 rfl) (aH.cons (aG.fact 0 rfl) (aH.cons (aG.fact 1 rfl) (aH.cons (aG.fact 3 rfl) (aH.cons (aG.fact 4 rfl) (aH.cons (bG (i:=4) (j:=5) rfl rfl cU) (aH.cons (bG (i:=1) (j:=2) rfl rfl bN) (pJ [5] rfl)))))))))))) rfl fun x24=>aF rfl<|aF rfl<|aP<|aW ?_
 cases h
 exact iY (x24.1,x24.2) rfl rfl (RV.tmp rfl) (RV.tmp rfl) (aT.ix [0,1] rfl rfl) aH.nil
end
section
def yR (U:Nat) (p0:qT) (p1:fR) (p2:bP) (p3:Int) (a20:eT×Int×bP):Option wS:=
 Option.bind (dD U ((((p0.1,p0.2.1,p0.2.2)),((((p0.1,p0.2.1,p0.2.2)),((p1.1,p1.2)),a20.2.1,a20.2.2)),a20.1)) p2 p3) fun r22=>(if r22<(0:Int)then(some (([]:bW),(11:Int)))else(Option.bind (fN U ((((p0.1,p0.2.1,p0.2.2)),((((p0.1,p0.2.1,p0.2.2)),((p1.1,p1.2)),a20.2.1,a20.2.2)),a20.1)) p2 p3 r22) fun r26=>(some (r26,(0:Int)))))
def uL (U:Nat) (p0:qT) (p1:fR) (p2:bP) (p3:Int) (a36:rC):Option wS:=
 Option.bind (fO U ((p0.1,p0.2.1,p0.2.2)) ((p1.1,p1.2))) fun r38=>(yR U p0 p1 p2 p3 (r38,a36.1,a36.2))
def rV (U:Nat) (p0:qT) (p1:fR) (p2:bP) (p3:Int) (a52:rC):Option wS:=
 uL U p0 p1 p2 p3 (a52.1,a52.2)
def uM (p1:fR) (a59:Cv) (ag58:Cu->Option wS) (a65:bP):Option wS:=
 ag58 ((wI .i64 (a59.1+(1:Int))),(max a59.2.1 (at' p1.1 a59.1)),a65)
def oW (U:Nat) (p1:fR) (a59:Cv) (ag58:Cu->Option wS) (a73:rC) (ag72:Al->Option wS):Option wS:=
 if a73.1<(List.length (at' p1.2 a59.1):Int)then(ck (0<=a73.1∧a73.1<(List.length (at' p1.2 a59.1):Int)) (ck (0<=a59.1∧a59.1<(List.length a73.2:Int)) (Option.bind (gT U ((p1.1,p1.2)) ((at' (at' p1.2 a59.1) a73.1).1) a59.1) fun r82=>(ck ((List.length (at' a73.2 a59.1):Int)+(List.length ([r82]):Int)<=1099511627) (ck (0<=a59.1∧a59.1<(List.length (List.set a73.2 (Int.toNat a59.1) ((at' a73.2 a59.1)++[r82])):Int)) (ag72 ((wI .i64 (a73.1+(1:Int))),(List.set a73.2 (Int.toNat a59.1) ((at' a73.2 a59.1)++[r82])))))))))else(uM p1 a59 ag58 (a73.2))
def lI (U:Nat) (p0:qT) (p1:fR) (p2:bP) (p3:Int) (a59:Cv) (ag58:Cu->Option wS):Option wS:=
 if a59.1<(List.length p1.2:Int)then(ck (0<=a59.1∧a59.1<(List.length p1.2:Int)) (ck (0<=a59.1∧a59.1<(List.length p1.1:Int)) (bZ (oW U p1 a59 ag58) U ((0:Int),a59.2.2))))else(rV U p0 p1 p2 p3 (a59.2.1,a59.2.2))
def uK (U:Nat) (p0:qT) (p1:fR) (p2:bP) (p3:Int) (a8:Bool):Option wS:=
 if a8=true then(some (([]:bW),(2:Int)))else(ck (0<=(List.length p1.2:Int)∧(List.length p1.2:Int)<=1099511627) (bZ (lI U p0 p1 p2 p3) U ((0:Int),(0:Int),(List.replicate (Int.toNat (List.length p1.2:Int)) ([]:bW)))))
def oE (U:Nat) (p0:qT) (p1:fR) (p2:bP) (p3:Int):Option wS:=
 Option.bind (gU U ((p0.1,p0.2.1,p0.2.2)) ((p1.1,p1.2)) p2) fun r3=>(if r3≠(0:Int)then(some (([]:bW),r3))else(if p3<(0:Int)then(uK U p0 p1 p2 p3 (true))else(uK U p0 p1 p2 p3 (decide ((List.length p2:Int)<=p3)))))
theorem Of:a_ Tryz.prog 18:=Tryz.call18
theorem Dt (U:Nat) {p0:qT} {p1:fR} {p2:bP} {p3:Int} (v0:Value)  (v1:Value)  (v2:Value)  (v3:Value)  (z4:oZ)  (v5:Value)  (z6:qU) (r:bW×Int) (h:oE U p0 p1 p2 p3=some r):
  bJ Tryz.prog 18 #[Value.agg #[vS (p0.1),v0,v1],Value.agg #[v2,v3],v5,vI (p3)] [Sl aD v0 p0.2.1,Sl aB v1 p0.2.2,PF (Value.agg #[vS p0.1,v0,v1]),Sl bT v2 p1.1,S2 bM v3 z4 p1.2,S2 bT v5 z6 p2] (fun x:Value=>Value.tuple #[x,vI (r.2)]) (fun x l=>Ar cB x r.1::l) (fun _ l=>l):=by
 refine bJ.of Tryz.func18 rfl Tryz.ntmps18 rfl fun c=>?_
 refine aX<|aK (aN.box (cs:=[vS (p0.1),v0,v1]) rfl rfl) rfl fun b1=>aK (aN.box (cs:=[v2,v3]) rfl rfl) rfl fun b2=>aF rfl<|aF rfl<|aP<|aM<|aX<|fH 1 rfl<|fH 0 rfl<|aA rfl<|gK h fun r3 w4 h=>aK (aN.callQ Kl (vW U v0 v1 v2 v3 z4 v5 z6 r3 w4) rfl (pJ [0,1,2,3,4,5] rfl)) rfl fun x5=>aF rfl<|aP<|aX<|aA rfl<|sD rfl<|aP ?_
 refine gP h rfl (fun h=>?_) fun h=>?_
 ·refine aX<|aA rfl<|aF rfl<|aF rfl<|aP<|aW<|aL<|m_ (nJ cB) ?_
  cases h
  exact iY (lQ) rfl rfl (RV.tmp rfl) (RV.tmp rfl) (aT.ix [0] rfl rfl) aH.nil
 refine eL<|aM<|aM<|kF (fun a8=>uK U p0 p1 p2 p3 a8=some r) (fun a8 b9=>[(2,v5),(3,vI (p3)),(4,vP b1),(5,vP b2),(27,vB (a8))]) (fun a8 b9=>[cR b2 [v2,v3] 28,cR b1 [vS (p0.1),v0,v1] 33]) ?_ ?_
 ·refine aS<|aA rfl<|eD rfl<|aA rfl ?_
  refine Dz h rfl (fun _ h=>?_) fun _ h=>?_
  ·refine aQ rfl<|aQ rfl<|aQ rfl<|aQ rfl<|iW rfl<|aP ?_
   exact jO (true) () h SF rfl
  refine dQ rfl<|dQ rfl<|aR rfl (jB rfl (aG.fact 5 rfl) rfl) rfl<|aR rfl (Dj rfl rfl) rfl<|h_ rfl<|aP ?_
  exact jO (decide ((List.length p2:Int)<=p3)) () h SF rfl
 intro a8 b9 h
 refine AQ h rfl (fun _ h=>?_) fun _ h=>?_
 ·refine aX<|aF rfl<|aF rfl<|aP<|aW<|aL<|m_ (nJ cB) ?_
  cases h
  exact iY (lQ) rfl rfl (RV.tmp rfl) (RV.tmp rfl) (aT.ix [0] rfl rfl) aH.nil
 refine eL<|aX<|fH 1 rfl<|fH 0 rfl<|GM (A:=eT×Int×bP) (B:=Ql) (vs:=[Value.agg #[vS (p0.1),v0,v1],Value.agg #[v2,v3]]) (fun a20=>yR U p0 p1 p2 p3 a20=some r) (fun a20 b21=>vP b21.1) (fun a20 b21=>[cR b21.1 [vS (p0.1),v0,v1,vP b21.2.1,b21.2.2.1] 117,Ar dH.raw b21.2.2.1 b21.2.2.2.1,fI bX b21.2.2.2.1 a20.1,cR b21.2.1 [vS (p0.1),v0,v1,v2,v3,vI (a20.2.1),b21.2.2.2.2.1] 161,Ar dH.raw b21.2.2.2.2.1 b21.2.2.2.2.2,fI cB b21.2.2.2.2.2 a20.2.2]) (fun a20 b21=>[Sl aD v0 p0.2.1,Sl aB v1 p0.2.2,PF (Value.agg #[vS p0.1,v0,v1]),Sl bT v2 p1.1,S2 bM v3 z4 p1.2,S2 bT v5 z6 p2]) (yW.fn (show a_ Tryz.prog 33 from Tryz.call33) rfl) Tryz.func33 rfl Tryz.ntmps33 rfl rfl ?_ ?_
 ·refine aX<|aK (aN.box (cs:=[vS (p0.1),v0,v1]) rfl rfl) rfl fun b29=>aK (aN.box (cs:=[v2,v3]) rfl rfl) rfl fun b30=>aF rfl<|aP<|aM ?_
  refine JR.start [0,0,0,6,0,0,62,127,255,511] 7 mixedOrders (by decide +kernel) ?_
  refine JR.open (by exact rfl) ?_
  refine g_ 1 rfl<|g_ 1 rfl<|g_ 0 rfl<|GN (A:=rC) (B:=Nat×Value×List Value) (vs:=[Value.agg #[vS (p0.1),v0,v1],Value.agg #[v2,v3]]) (fun a36=>uL U p0 p1 p2 p3 a36=some r) (fun a36 b37=>vP b37.1) (fun a36 b37=>[cR b37.1 [vS (p0.1),v0,v1,v2,v3,vI (a36.1),b37.2.1] 161,Ar dH.raw b37.2.1 b37.2.2,fI cB b37.2.2 a36.2,cR b30 [v2,v3] 28,cR b29 [vS (p0.1),v0,v1] 33]) (fun a36 b37=>[Sl aD v0 p0.2.1,Sl aB v1 p0.2.2,PF (Value.agg #[vS p0.1,v0,v1]),Sl bT v2 p1.1,S2 bM v3 z4 p1.2,S2 bT v5 z6 p2]) rfl rfl rfl (yW.fn (show a_ Tryz.prog 62 from Tryz.call62) rfl) Tryz.func62 rfl Tryz.ntmps62 rfl rfl (fun _ _=>(tM [([4],[])] rfl)) ?_ ?_
  ·refine aX<|aK (aN.box (cs:=[vS (p0.1),v0,v1]) rfl rfl) rfl fun b43=>aK (aN.box (cs:=[v2,v3]) rfl rfl) rfl fun b44=>aF rfl<|aP<|aM ?_
   refine JR.start [0,0,0,4,12,28,63,127,255] 6 mixedOrders (by decide +kernel) ?_
   refine JR.open (by exact rfl) ?_
   refine g_ 1 rfl<|g_ 0 rfl<|c_ rfl<|jN 0 rfl<|bY rfl .nil (q_ 4 rfl) (jB rfl (aG.fact 0 rfl) rfl) aI.z<|eM h fun j45 h=>JR.stp (mR cB (Int.toNat (List.length p1.2:Int)))<|JR.loud rfl rfl rfl (nX (e:=dH.raw) (lQ) rfl rfl rfl rfl j45 rfl rfl rfl) rfl (fun u46=>(tM [([2],[]),([3],[])] rfl)) fun u46=>cD 6 rfl rfl<|cH (Know.one (aG.sl (bG (i:=0) (j:=1) rfl rfl cU))) fun ho47=>?_
   refine aE (CI (r:=Value.agg #[vS (p0.1),v0,v1,v2,v3,vI (0:Int),u46]) rfl rfl rfl (by intro w;simp[Instr.build,Instr.fill,gE,fJ,eO,gF,gG,fK,iS,kX ho47])) rfl ?_
   refine aK (aN.box (cs:=[vS (p0.1),v0,v1,v2,v3,vI (0:Int),u46]) rfl rfl) rfl fun b48=>aF rfl<|aP<|aM<|yM (B:=eG) (fun a52=>rV U p0 p1 p2 p3 a52=some r) (fun a52 b53=>[(5,vP b48)]) (fun a52 b53=>[cR b48 [vS (p0.1),v0,v1,v2,v3,vI (a52.1),u46] 161,Ar dH.raw u46 b53,fI cB b53 a52.2,cR b30 [v2,v3] 28,cR b29 [vS (p0.1),v0,v1] 33]) ?_ ?_
   ·refine aX<|cV rfl<|iF 3 rfl<|aE (jB rfl (aG.fact 4 rfl) rfl) rfl<|aA rfl<|aP<|aY<|hJ (B:=eG) (lI U p0 p1 p2 p3) (fun a59 b60=>[(3,vP b44),(5,vP b48),(19,v3),(20,vI (List.length p1.2:Int)),(21,vI (a59.1))]) (fun a59 b60=>[cR b48 [vS (p0.1),v0,v1,v2,v3,vI (a59.2.1),u46] 161,Ar dH.raw u46 b60,fI cB b60 a59.2.2,cR b44 [v2,v3] 28,cR b30 [v2,v3] 28,cR b29 [vS (p0.1),v0,v1] 33]) ((0:Int),(0:Int),(List.replicate (Int.toNat (List.length p1.2:Int)) ([]:bW))) (List.replicate (Int.toNat (List.length p1.2:Int)) (lQ)) h SF (aT.ix [0,1,2,3,5,6] rfl rfl) ?_
    intro k61 a59 b60 h
    refine aX<|eD rfl<|aP<|aM ?_
    refine gP h rfl (fun h=>?_) fun h=>?_
    ·refine eL<|aM<|yM (B:=eG) (fun a65=>uM p1 a59 (bZ (lI U p0 p1 p2 p3) k61) a65=some r) (fun a65 b66=>[(3,vP b44),(5,vP b48),(19,v3),(20,vI (List.length p1.2:Int)),(21,vI (a59.1))]) (fun a65 b66=>[cR b48 [vS (p0.1),v0,v1,v2,v3,vI (max a59.2.1 (at' p1.1 a59.1)),u46] 161,Ar dH.raw u46 b66,fI cB b66 a65,cR b44 [v2,v3] 28,cR b30 [v2,v3] 28,cR b29 [vS (p0.1),v0,v1] 33]) ?_ ?_
     ·refine aY<|aX<|aA rfl<|eM h fun j67 h=>aE (dK rfl rfl (aG.fact 4 rfl) rfl rfl j67) rfl<|aE (eI rfl (aG.fact 4 rfl) rfl rfl j67) rfl<|aF rfl<|aF rfl<|aP<|aM ?_
      refine JR.start [0,0,2,6,14,0,32,0,224,480,1022,2047,4095,8191] 11 mixedOrders (by decide +kernel) ?_
      refine JR.open (by exact rfl) ?_
      refine bL rfl<|bL rfl<|mP rfl (bO rfl)<|c_ rfl<|jN 0 rfl<|c_ rfl<|jN 3 rfl<|bL rfl<|eM h fun j68 h=>bY rfl .nil (q_ 3 rfl) (bQ rfl rfl (aG.fact 0 rfl) rfl rfl j68) aI.z<|bY rfl .nil (q_ 3 rfl) (cF rfl (aG.fact 0 rfl) rfl rfl rfl dJ j68) aI.z<|mP rfl (En rfl rfl)<|cD 11 rfl rfl<|aE (bO rfl) rfl<|cV rfl<|zJ 0 rfl rfl rfl rfl rfl rfl<|aP<|aX<|aA rfl<|aE (kQ rfl (aG.el (aG.fact 4 rfl) j67.1 j67.2) rfl) rfl<|aA rfl<|aP<|aY<|hJ (B:=eG) (oW U p1 a59 (bZ (lI U p0 p1 p2 p3) k61)) (fun a73 b74=>[(3,vP b44),(5,vP b48),(6,vI (a59.1)),(19,v3),(20,vI (List.length p1.2:Int)),(21,vI (a59.1)),(39,(at' z4 a59.1).1),(40,vI (List.length (at' p1.2 a59.1):Int)),(41,vI (a73.1))]) (fun a73 b74=>[cR b48 [vS (p0.1),v0,v1,v2,v3,vI (max a59.2.1 (at' p1.1 a59.1)),u46] 161,Ar dH.raw u46 b74,fI cB b74 a73.2,cR b44 [v2,v3] 28,cR b30 [v2,v3] 28,cR b29 [vS (p0.1),v0,v1] 33]) ((0:Int),a59.2.2) (b60) h SF (aT.refl _) ?_
      intro k75 a73 b74 h
      refine aX<|eD rfl<|aP<|aM ?_
      refine gP h rfl (fun h=>?_) fun h=>?_
      ·refine eL<|aM<|aY<|aX<|eM h fun j77 h=>aE (bQ rfl rfl (aG.el (aG.fact 4 rfl) j67.1 j67.2) rfl rfl j77) rfl<|aE (iR (cs:=[vI ((at' (at' p1.2 a59.1) a73.1).1),vI ((at' (at' p1.2 a59.1) a73.1).2)]) rfl (aG.el (aG.fact 4 rfl) j67.1 j67.2) bN rfl rfl rfl rfl j77) rfl<|aK (aN.alloc (cs:=Qu) rfl rfl) rfl fun b78=>cL 0 (vs:=[vI ((at' (at' p1.2 a59.1) a73.1).1),vI ((at' (at' p1.2 a59.1) a73.1).2)]) rfl rfl rfl rfl rfl rfl<|aP ?_
       refine JR.start [0,1,3,7,0,0,32,96,224,0,992,2016,0,0,8192,0,61440,126976,262112,524287,1048575] 19 mixedOrders (by decide +kernel) ?_
       refine JR.open (by exact rfl) ?_
       refine bL rfl<|mP rfl (bO rfl)<|c_ rfl<|jN 1 rfl<|bL rfl<|bL rfl<|mP rfl (bO rfl)<|c_ rfl<|jN 1 rfl<|bL rfl<|eM h fun j79 h=>bU (bF 3 rfl) fun hl80=>?_
       refine bY rfl (aT.cons 2 rfl .nil) .nil (dC 0 rfl rfl rfl rfl rfl j79.1 (by have q1:=j79.2;have q2:=hl80;(try simp only[List.length_set]at q1);(try simp only[List.length_set]at q2);(try simp only[List.length_set]);omega)) aI.z ?_
       refine bU (bF 3 rfl) fun hl81=>bY rfl (aT.cons 2 rfl .nil) .nil (dA 0 rfl rfl hl81 rfl rfl j79) aI.z<|g_ 4 rfl<|c_ rfl<|jN 0 rfl<|bL rfl<|gK h fun r82 w83 h=>JR.loud rfl rfl rfl (aN.callQ Ha (vV U v2 v3 z4 r82 w83) rfl (pJ [3,4] rfl)) rfl (fun x84=>(tM [([2],[]),([2],[]),([1],[]),([1],[])] rfl)) fun x84=>JR.loud rfl rfl rfl (eW (e:=cB) ([r82]) [(0,vI (r82))] rfl rfl rfl rfl (u_ (vI (r82)) rfl) rfl rfl rfl) rfl (fun u85=>(tM [([3],[]),([3],[]),([2],[]),([2],[])] rfl)) fun u85=>eM h fun j87 h=>JR.loud rfl rfl rfl (gY 4 cU rfl rfl rfl (cI (aG.res 0 rfl) cU) rfl rfl rfl rfl j79 j87 rfl) rfl (fun u86=>(tM [([2],[])] rfl)) fun u86=>cD 19 rfl rfl<|eM h fun j88 h=>cH (bF 4 rfl) fun hl89=>?_
       refine aE (dC 3 rfl rfl rfl rfl rfl j88.1 (by have q1:=j88.2;have q2:=hl89;(try simp only[List.length_set]at q1);(try simp only[List.length_set]at q2);(try simp only[List.length_set]);omega)) rfl ?_
       refine cH (nW 4 (k:=a59.1) rfl ⟨j88.1,by first|exact j88.2|simpa using j88.2⟩) fun ho90=>?_
       refine jK 3 4 ⟨j88.1,by first|exact j88.2|simpa using j88.2⟩ rfl rfl rfl rfl rfl (by simp) ho90 rfl ?_
       refine fU<|qB<|aS<|eC rfl<|aA rfl<|aP ?_
       exact lZ ((wI .i64 (a73.1+(1:Int))),(List.set a73.2 (Int.toNat a59.1) ((at' a73.2 a59.1)++[r82]))) (List.set b74 (Int.toNat a59.1) u86) h SF (aT.ix [2,3,4,5,6,7] rfl rfl) (aH.refl _ _)
      refine wT<|kH<|kH<|AY<|qB ?_
      exact jO (a73.2) (b74) h SF rfl
     intro a65 b66 h
     unfold uM at h
     refine aS<|eC rfl<|aA rfl<|aP ?_
     exact BF ((wI .i64 (a59.1+(1:Int))),(max a59.2.1 (at' p1.1 a59.1)),a65) (b66) h SF rfl
    refine iV ?_
    exact dZ (a59.2.1,a59.2.2) (b60) h SF (aT.ix [0,1,2,4,5] rfl rfl) (aH.refl _ _)
   intro a52 b53 h
   unfold rV at h
   refine aX<|aA rfl<|aF rfl<|aP<|aW ?_
   exact Bj (a52.1,a52.2) (b48,u46,b53) h (.inl rfl) (Nu.r1 rfl (RV.tmp rfl)) rfl (aT.refl _) (aH.refl _ _)
  intro a36 b37 h
  unfold uL at h
  refine bY rfl (aT.cons 4 rfl .nil) .nil (jX 0 rfl rfl rfl rfl) (aI.h (aT.ix [1] rfl rfl) .nil aI.z)<|bY rfl (aT.cons 3 rfl .nil) .nil (jX 0 rfl rfl rfl rfl) (aI.h (aT.ix [0] rfl rfl) .nil aI.z)<|gK h fun r38 w39 h=>JR.loud rfl rfl rfl (aN.callQ Hc (rX U v0 v1 v2 v3 z4 r38 w39) rfl (pJ [0,1,2,3,4] rfl)) rfl (fun x40=>(tM [([6],[])] rfl)) fun x40=>cD 7 rfl rfl<|cH (Know.one (aG.sl (bG (i:=0) (j:=1) rfl rfl bN))) fun ho41=>?_
  refine aE (CI (r:=Value.agg #[vS (p0.1),v0,v1,Value.pointer (some ⟨b37.1,0,none⟩),x40.1]) rfl rfl rfl (by intro w;simp[Instr.build,Instr.fill,gE,fJ,eO,gF,gG,fK,iS,kX ho41])) rfl ?_
  refine aK (aN.box (cs:=[vS (p0.1),v0,v1,vP b37.1,x40.1]) rfl rfl) rfl fun b42=>aF rfl<|aP<|aW ?_
  exact Bj (r38,a36.1,a36.2) (b42,b37.1,x40.1,x40.2,b37.2.1,b37.2.2) h (.inl rfl) (Nu.r1 rfl (RV.tmp rfl)) rfl (aT.ix [0,1,2,3,4,5] rfl rfl) (aH.refl _ _)
 intro a20 b21 h
 refine aF rfl<|aP<|aX<|aA rfl<|aA rfl<|aA rfl<|gK h fun r22 w23 h=>aK (aN.callQ Km (oK U b21.1 v0 v1 b21.2.1 v0 v1 v2 v3 z4 b21.2.2.2.2.1 (List.zip b21.2.2.2.2.2 a20.2.2) b21.2.2.1 (List.zip b21.2.2.2.1 a20.1) v5 z6 r22 w23) rfl (aH.cons (aG.res 0 rfl) (aH.cons (aG.fact 0 rfl) (aH.cons (aG.fact 1 rfl) (aH.cons (aG.res 3 rfl) (aH.cons (aG.fact 0 rfl) (aH.cons (aG.fact 1 rfl) (aH.cons (aG.fact 3 rfl) (aH.cons (aG.fact 4 rfl) (aH.cons (bG (i:=4) (j:=5) rfl rfl cU) (aH.cons (bG (i:=1) (j:=2) rfl rfl bN) (pJ [5] rfl)))))))))))) rfl fun x24=>aF rfl<|aP<|aM<|aX<|aA rfl<|eD rfl<|aP ?_
 refine gP h rfl (fun h=>?_) fun h=>?_
 ·refine aX<|aF rfl<|aF rfl<|aP<|aW<|aL<|m_ (nJ cB) ?_
  cases h
  exact iY (lQ) rfl rfl (RV.tmp rfl) (RV.tmp rfl) (aT.ix [0] rfl rfl) aH.nil
 refine eL<|aX<|aA rfl<|aA rfl<|aA rfl<|aA rfl<|gK h fun r26 w27 h=>aK (aN.callQ Oj (tK U b21.1 v0 v1 b21.2.1 v0 v1 v2 v3 z4 b21.2.2.2.2.1 (List.zip b21.2.2.2.2.2 a20.2.2) b21.2.2.1 (List.zip b21.2.2.2.1 a20.1) v5 z6 r26 w27) rfl (aH.cons (aG.res 0 rfl) (aH.cons (aG.fact 0 rfl) (aH.cons (aG.fact 1 rfl) (aH.cons (aG.res 3 rfl) (aH.cons (aG.fact 0 rfl) (aH.cons (aG.fact 1 rfl) (aH.cons (aG.fact 3 rfl) (aH.cons (aG.fact 4 rfl) (aH.cons (bG (i:=4) (j:=5) rfl rfl cU) (aH.cons (bG (i:=1) (j:=2) rfl rfl bN) (pJ [5] rfl)))))))))))) rfl fun x28=>aF rfl<|aF rfl<|aP<|aW ?_
 cases h
 exact iY (x28) rfl rfl (RV.tmp rfl) (RV.tmp rfl) (aT.ix [0] rfl rfl) aH.nil
end
section
def mT  (a5:bP):Option bP:=
 some (a5)
def mV (a11:rC) (ag10:Al->Option bP) (a17:bP):Option bP:=
 ag10 ((wI .i64 (a11.1+(1:Int))),a17)
def jY (a25:rC) (ag24:Al->Option bP) (a31:bP):Option bP:=
 ag24 ((wI .i64 (a25.1+(1:Int))),a31)
def gH (p0:bP) (p1:Int) (a11:rC) (ag10:Al->Option bP) (a25:rC) (ag24:Al->Option bP):Option bP:=
 if a25.1<(List.length (List.drop (Int.toNat 0) (List.take (Int.toNat (min (List.length (at' p0 a11.1):Int) (32:Int))) (at' p0 a11.1))):Int)then(ck (0<=a25.1∧a25.1<(List.length (List.drop (Int.toNat 0) (List.take (Int.toNat (min (List.length (at' p0 a11.1):Int) (32:Int))) (at' p0 a11.1))):Int)) (ck (0<=a25.1) (if(uV .u32 (FC .u32 p1 a25.1) (1:Int))=(1:Int)then(ck (0<=a11.1∧a11.1<(List.length a25.2:Int)) (ck ((List.length (at' a25.2 a11.1):Int)+(List.length ([(at' (List.drop (Int.toNat 0) (List.take (Int.toNat (min (List.length (at' p0 a11.1):Int) (32:Int))) (at' p0 a11.1))) a25.1)]):Int)<=1099511627) (ck (0<=a11.1∧a11.1<(List.length (List.set a25.2 (Int.toNat a11.1) ((at' a25.2 a11.1)++([(at' (List.drop (Int.toNat 0) (List.take (Int.toNat (min (List.length (at' p0 a11.1):Int) (32:Int))) (at' p0 a11.1))) a25.1)]))):Int)) (jY a25 ag24 (List.set a25.2 (Int.toNat a11.1) ((at' a25.2 a11.1)++([(at' (List.drop (Int.toNat 0) (List.take (Int.toNat (min (List.length (at' p0 a11.1):Int) (32:Int))) (at' p0 a11.1))) a25.1)])))))))else(jY a25 ag24 (a25.2)))))else(mV a11 ag10 (a25.2))
def fL (U:Nat) (p0:bP) (p1:Int) (a11:rC) (ag10:Al->Option bP):Option bP:=
 if a11.1<(List.length p0:Int)then(ck (0<=a11.1∧a11.1<(List.length p0:Int)) (ck (0<=(0:Int)∧(0:Int)<=(min (List.length (at' p0 a11.1):Int) (32:Int))∧(min (List.length (at' p0 a11.1):Int) (32:Int))<=(List.length (at' p0 a11.1):Int)) (bZ (gH p0 p1 a11 ag10) U ((0:Int),a11.2))))else(mT  (a11.2))
def fD (U:Nat) (p0:bP) (p1:Int):Option bP:=
 ck (0<=(List.length p0:Int)∧(List.length p0:Int)<=1099511627) (bZ (fL U p0 p1) U ((0:Int),(List.replicate (Int.toNat (List.length p0:Int)) ([]:bW))))
theorem Od:a_ Tryz.prog 14:=Tryz.call14
theorem wQ (U:Nat) {p0:bP} {p1:Int} (v0:Value)  (z1:qU) (r:bP) (h:fD U p0 p1=some r):
  bJ Tryz.prog 14 #[v0,vU (p1)] [S2 bT v0 z1 p0] (fun x:Dx=>x.1) (fun x l=>Ar dH.raw x.1 x.2::fI cB x.2 r::l) (fun _ l=>l):=by
 refine bJ.of Tryz.func14 rfl Tryz.ntmps14 rfl fun c=>?_
 refine aX<|aF rfl<|aP<|aX<|aA rfl<|aE (jB rfl (aG.fact 0 rfl) rfl) rfl<|eM h fun j1 h=>m_ (mR cB (Int.toNat (List.length p0:Int)))<|aK (nX (e:=dH.raw) (lQ) rfl rfl rfl rfl j1 rfl rfl rfl) rfl fun u2=>aF rfl<|aP<|aM<|yM (B:=eG) (fun a5=>mT  a5=some r) (fun a5 b6=>[(5,u2)]) (fun a5 b6=>[Ar dH.raw u2 b6,fI cB b6 a5]) ?_ ?_
 ·refine aX<|aA rfl<|aE (jB rfl (aG.fact 0 rfl) rfl) rfl<|aA rfl<|aP<|aY<|hJ (B:=eG) (fL U p0 p1) (fun a11 b12=>[(1,vU (p1)),(5,u2),(13,v0),(14,vI (List.length p0:Int)),(15,vI (a11.1))]) (fun a11 b12=>[Ar dH.raw u2 b12,fI cB b12 a11.2]) ((0:Int),(List.replicate (Int.toNat (List.length p0:Int)) ([]:bW))) (List.replicate (Int.toNat (List.length p0:Int)) (lQ)) h SF (aT.refl _) ?_
  intro k13 a11 b12 h
  refine aX<|eD rfl<|aP<|aM ?_
  refine gP h rfl (fun h=>?_) fun h=>?_
  ·refine eL<|aM<|yM (B:=eG) (fun a17=>mV a11 (bZ (fL U p0 p1) k13) a17=some r) (fun a17 b18=>[(1,vU (p1)),(5,u2),(13,v0),(14,vI (List.length p0:Int)),(15,vI (a11.1))]) (fun a17 b18=>[Ar dH.raw u2 b18,fI cB b18 a17]) ?_ ?_
   ·refine aY<|aX<|aA rfl<|eM h fun j19 h=>aE (dK rfl rfl (aG.fact 0 rfl) rfl rfl j19) rfl<|aE (eI rfl (aG.fact 0 rfl) rfl rfl j19) rfl<|aF rfl<|aF rfl<|aP<|aX<|aA rfl<|aA rfl<|aE (kQ rfl (aG.el (aG.fact 0 rfl) j19.1 j19.2) rfl) rfl<|aE (NV rfl rfl) rfl<|eM h fun j20 h=>aE (NZ rfl rfl (aG.el (aG.fact 0 rfl) j19.1 j19.2) rfl rfl j20) rfl<|aE (kQ rfl (aG.part (q:=1) (aG.el (aG.fact 0 rfl) j19.1 j19.2) rfl j20) rfl) rfl<|aA rfl<|aP<|aY<|hJ (B:=eG) (gH p0 p1 a11 (bZ (fL U p0 p1) k13)) (fun a25 b26=>[(1,vU (p1)),(5,u2),(6,vI (a11.1)),(13,v0),(14,vI (List.length p0:Int)),(15,vI (a11.1)),(24,TG ((at' z1 a11.1).1) (Int.toNat 0) (Int.toNat (min (List.length (at' p0 a11.1):Int) (32:Int))) 1),(25,vI (List.length (List.drop (Int.toNat 0) (List.take (Int.toNat (min (List.length (at' p0 a11.1):Int) (32:Int))) (at' p0 a11.1))):Int)),(26,vI (a25.1))]) (fun a25 b26=>[Ar dH.raw u2 b26,fI cB b26 a25.2]) ((0:Int),a11.2) (b12) h SF (aT.refl _) ?_
    intro k27 a25 b26 h
    refine aX<|eD rfl<|aP<|aM ?_
    refine gP h rfl (fun h=>?_) fun h=>?_
    ·refine eL<|aM<|yM (B:=eG) (fun a31=>jY a25 (bZ (gH p0 p1 a11 (bZ (fL U p0 p1) k13)) k27) a31=some r) (fun a31 b32=>[(1,vU (p1)),(5,u2),(6,vI (a11.1)),(13,v0),(14,vI (List.length p0:Int)),(15,vI (a11.1)),(24,TG ((at' z1 a11.1).1) (Int.toNat 0) (Int.toNat (min (List.length (at' p0 a11.1):Int) (32:Int))) 1),(25,vI (List.length (List.drop (Int.toNat 0) (List.take (Int.toNat (min (List.length (at' p0 a11.1):Int) (32:Int))) (at' p0 a11.1))):Int)),(26,vI (a25.1))]) (fun a31 b32=>[Ar dH.raw u2 b32,fI cB b32 a31]) ?_ ?_
     ·refine aY<|aX<|aA rfl<|eM h fun j33 h=>aE (bQ rfl rfl (aG.part (q:=1) (aG.el (aG.fact 0 rfl) j19.1 j19.2) rfl j20) rfl rfl j33) rfl<|aE (cF rfl (aG.part (q:=1) (aG.el (aG.fact 0 rfl) j19.1 j19.2) rfl j20) rfl rfl rfl dJ j33) rfl<|aF rfl<|aF rfl<|aP<|aX<|aA rfl<|aA rfl<|eM h fun j34 h=>aE (NY rfl rfl j34) rfl<|PS rfl<|dL rfl<|aP ?_
      refine gP h rfl (fun h=>?_) fun h=>?_
      ·refine aS<|aA rfl<|aA rfl<|aA rfl<|aA rfl<|eM h fun j36 h=>aE (dK rfl rfl (bG (i:=0) (j:=1) rfl rfl cU) rfl rfl j36) rfl<|cH (bF 1 rfl) fun hl37=>aE (dA 0 rfl rfl hl37 rfl rfl j36) rfl<|aA rfl<|aK (eW (e:=cB) ([(at' (List.drop (Int.toNat 0) (List.take (Int.toNat (min (List.length (at' p0 a11.1):Int) (32:Int))) (at' p0 a11.1))) a25.1)]) [(0,vI (at' (List.drop (Int.toNat 0) (List.take (Int.toNat (min (List.length (at' p0 a11.1):Int) (32:Int))) (at' p0 a11.1))) a25.1))] rfl rfl rfl rfl (u_ (vI (at' (List.drop (Int.toNat 0) (List.take (Int.toNat (min (List.length (at' p0 a11.1):Int) (32:Int))) (at' p0 a11.1))) a25.1)) rfl) rfl rfl rfl) rfl fun u38=>eM h fun j40 h=>aK (gY 2 cU rfl rfl rfl (cI (aG.res 0 rfl) cU) rfl rfl rfl rfl j36 j40 rfl) rfl fun u39=>eM h fun j41 h=>cH (bF 2 rfl) fun hl42=>?_
       refine aE (dC 1 rfl rfl rfl rfl rfl j41.1 (by have q1:=j41.2;have q2:=hl42;(try simp only[List.length_set]at q1);(try simp only[List.length_set]at q2);(try simp only[List.length_set]);omega)) rfl ?_
       refine cH (nW 2 (k:=a11.1) rfl ⟨j41.1,by first|exact j41.2|simpa using j41.2⟩) fun ho43=>?_
       refine jK 1 2 ⟨j41.1,by first|exact j41.2|simpa using j41.2⟩ rfl rfl rfl rfl rfl (by simp) ho43 rfl ?_
       refine fU<|qB ?_
       exact dZ (List.set a25.2 (Int.toNat a11.1) ((at' a25.2 a11.1)++([(at' (List.drop (Int.toNat 0) (List.take (Int.toNat (min (List.length (at' p0 a11.1):Int) (32:Int))) (at' p0 a11.1))) a25.1)]))) (List.set b26 (Int.toNat a11.1) u39) h SF (aT.ix [1,2] rfl rfl) (aH.refl _ _)
      refine f_<|qB ?_
      exact jO (a25.2) (b26) h SF rfl
     intro a31 b32 h
     unfold jY at h
     refine aS<|eC rfl<|aA rfl<|aP ?_
     exact BF ((wI .i64 (a25.1+(1:Int))),a31) (b32) h SF rfl
    refine wT<|kH<|kH<|AY<|qB ?_
    exact jO (a25.2) (b26) h SF rfl
   intro a17 b18 h
   unfold mV at h
   refine aS<|eC rfl<|aA rfl<|aP ?_
   exact BF ((wI .i64 (a11.1+(1:Int))),a17) (b18) h SF rfl
  refine iV ?_
  exact jO (a11.2) (b12) h SF rfl
 intro a5 b6 h
 unfold mT at h
 refine aX<|aA rfl<|aF rfl<|aP<|aW ?_
 cases h
 exact nO (u2,b6) rfl rfl (RV.tmp rfl) (aT.refl _) aH.nil
end
end Go.Proofs.YtlciiihigmgaiaaGreat
end
section
namespace Go.Proofs.YtlciiihigmgaiaaGreat
open Go Go.Sx
theorem Nj {g:GR} (hV:VG g) (p:uA) (c:bP):
  bZ (iB 1000 p g c) 1000 ((0:Int),(0:Int),(List.replicate (Int.toNat (List.length g.2:Int)) ([]:bW)))=nE 1000 p g c (fQ g g.2.length,d_ g):=by
 have h24:=hV.n24
 have hlen:=hV.len
 let f:Nat->bW:=fun v=>(List.range (row g v).length).map (A_ g v)
 let Q:Nat->bP:=fun k=>(List.range k).map f++List.replicate (g.2.length - k) []
 have hQ:∀k,k<=g.2.length->(Q k).length=g.2.length:=fun k hk=>by simp[Q];omega
 rw[show List.replicate (Int.toNat (List.length g.2:Int)) ([]:bW)=Q 0 by simp[Q]]
 refine dR (step:=iB 1000 p g c) g.2.length (fun k=>((k:Int),fQ g k,Q k)) (fun k ag hk=> ?_) (fun ag=> ?_) 1000 (by omega)
 ·have hdeg:=(hV.node k hk).deg
  have hq:k<(Q k).length:=by rw[hQ k (by omega)];exact hk
  unfold iB
  dsimp only
  rw[if_pos (by omega),eB (by omega),eB (by omega)]
  let Rw:Nat->bW:=fun j=>(List.range j).map (A_ g k)
  have e0:Q k=(Q k).set k (Rw 0):=by
   have:at' (Q k) (k:Int)=Rw 0:=by
    rw[gD hq];simp[Q,Rw]
   rw[<-this]
   exact(vM (Q k) (k:Int) (by simpa using hq) (by omega)).symm
  rw[show(Q k)=(Q k).set k (Rw 0)from e0]
  have hgen:∀A:bP,A.length=g.2.length->bZ (kY 1000 g ((k:Int),fQ g k,(Q k).set k (Rw 0)) ag) 1000 ((0:Int),A.set k (Rw 0))=ag (((k+1:Nat):Int),fQ g (k+1),A.set k (f k)):=by
   intro A hA
   refine dR (step:=kY 1000 g ((k:Int),fQ g k,(Q k).set k (Rw 0)) ag) (K:=ag (((k+1:Nat):Int),fQ g (k+1),A.set k (f k))) (row g k).length (fun j=>((j:Int),A.set k (Rw j))) (fun j ag2 hj=> ?_) (fun ag2=> ?_) 1000 (by omega)
   ·obtain⟨u,hu,hue⟩:=hV.to hk hj
    have hdu:=(hV.node u hu).deg
    have a1:at' (A.set k (Rw j)) (k:Int)=Rw j:=by rw[Bp _ _ _ _ (by omega),if_pos rfl]
    have hRl:(Rw j).length=j:=by simp[Rw]
    unfold kY
    dsimp only
    rw[if_pos (show(j:Int)<((row g k).length:Int) by omega),eB (show 0<=(j:Int)∧(j:Int)<((row g k).length:Int) by omega),eB (by simp only[List.length_set];omega),show at' (at' g.2 (k:Int)) (j:Int)=jA (row g k) j from rfl,hue,bR (show gT 1000 _ (u:Int) (k:Int)=_ from Da g u (k:Int) hu (by omega)),a1,eB (by rw[hRl];simp;omega),eB (by simp only[List.length_set];omega),fG (by omega),Int.toNat_natCast,List.set_set]
    have:Rw j++[vJ (row g u) (k:Int)]=Rw (j+1):=by
     simp only[Rw];rw[List.range_succ,List.map_append,List.map_singleton,A_,hue,Int.toNat_natCast]
    rw[this]
   ·unfold kY qK
    dsimp only
    rw[if_neg (show¬((row g k).length:Int)<((row g k).length:Int)from Int.lt_irrefl _),fG (by omega)]
    rfl
  have:=hgen (Q k) (hQ k (by omega))
  rw[lP f [] g.2.length k hk]at this
  exact this
 ·unfold iB
  dsimp only
  rw[if_neg (by omega)]
  simp[Q,d_,f]
theorem Nl {g:GR} (hV:VG g) (p:uA) (c:bP) (t:Int):
  bZ (lJ 1000 p g c t) 1000 ((0:Int),(0:Int),(List.replicate (Int.toNat (List.length g.2:Int)) ([]:bW)))=rW 1000 p g c t (fQ g g.2.length,d_ g):=by
 have h24:=hV.n24
 have hlen:=hV.len
 let f:Nat->bW:=fun v=>(List.range (row g v).length).map (A_ g v)
 let Q:Nat->bP:=fun k=>(List.range k).map f++List.replicate (g.2.length - k) []
 have hQ:∀k,k<=g.2.length->(Q k).length=g.2.length:=fun k hk=>by simp[Q];omega
 rw[show List.replicate (Int.toNat (List.length g.2:Int)) ([]:bW)=Q 0 by simp[Q]]
 refine dR (step:=lJ 1000 p g c t) g.2.length (fun k=>((k:Int),fQ g k,Q k)) (fun k ag hk=> ?_) (fun ag=> ?_) 1000 (by omega)
 ·have hdeg:=(hV.node k hk).deg
  have hq:k<(Q k).length:=by rw[hQ k (by omega)];exact hk
  unfold lJ
  dsimp only
  rw[if_pos (by omega),eB (by omega),eB (by omega)]
  let Rw:Nat->bW:=fun j=>(List.range j).map (A_ g k)
  have e0:Q k=(Q k).set k (Rw 0):=by
   have:at' (Q k) (k:Int)=Rw 0:=by
    rw[gD hq];simp[Q,Rw]
   rw[<-this]
   exact(vM (Q k) (k:Int) (by simpa using hq) (by omega)).symm
  rw[show(Q k)=(Q k).set k (Rw 0)from e0]
  have hgen:∀A:bP,A.length=g.2.length->bZ (oY 1000 g ((k:Int),fQ g k,(Q k).set k (Rw 0)) ag) 1000 ((0:Int),A.set k (Rw 0))=ag (((k+1:Nat):Int),fQ g (k+1),A.set k (f k)):=by
   intro A hA
   refine dR (step:=oY 1000 g ((k:Int),fQ g k,(Q k).set k (Rw 0)) ag) (K:=ag (((k+1:Nat):Int),fQ g (k+1),A.set k (f k))) (row g k).length (fun j=>((j:Int),A.set k (Rw j))) (fun j ag2 hj=> ?_) (fun ag2=> ?_) 1000 (by omega)
   ·obtain⟨u,hu,hue⟩:=hV.to hk hj
    have hdu:=(hV.node u hu).deg
    have a1:at' (A.set k (Rw j)) (k:Int)=Rw j:=by rw[Bp _ _ _ _ (by omega),if_pos rfl]
    have hRl:(Rw j).length=j:=by simp[Rw]
    unfold oY
    dsimp only
    rw[if_pos (show(j:Int)<((row g k).length:Int) by omega),eB (show 0<=(j:Int)∧(j:Int)<((row g k).length:Int) by omega),eB (by simp only[List.length_set];omega),show at' (at' g.2 (k:Int)) (j:Int)=jA (row g k) j from rfl,hue,bR (show gT 1000 _ (u:Int) (k:Int)=_ from Da g u (k:Int) hu (by omega)),a1,eB (by rw[hRl];simp;omega),eB (by simp only[List.length_set];omega),fG (by omega),Int.toNat_natCast,List.set_set]
    have:Rw j++[vJ (row g u) (k:Int)]=Rw (j+1):=by
     simp only[Rw];rw[List.range_succ,List.map_append,List.map_singleton,A_,hue,Int.toNat_natCast]
    rw[this]
   ·unfold oY uP
    dsimp only
    rw[if_neg (show¬((row g k).length:Int)<((row g k).length:Int)from Int.lt_irrefl _),fG (by omega)]
    rfl
  have:=hgen (Q k) (hQ k (by omega))
  rw[lP f [] g.2.length k hk]at this
  exact this
 ·unfold lJ
  dsimp only
  rw[if_neg (by omega)]
  simp[Q,d_,f]
theorem Nk {g:GR} (hV:VG g) (p:uA) (c:bP) (v:Int):
  bZ (lI 1000 p g c v) 1000 ((0:Int),(0:Int),(List.replicate (Int.toNat (List.length g.2:Int)) ([]:bW)))=rV 1000 p g c v (fQ g g.2.length,d_ g):=by
 have h24:=hV.n24
 have hlen:=hV.len
 let f:Nat->bW:=fun v=>(List.range (row g v).length).map (A_ g v)
 let Q:Nat->bP:=fun k=>(List.range k).map f++List.replicate (g.2.length - k) []
 have hQ:∀k,k<=g.2.length->(Q k).length=g.2.length:=fun k hk=>by simp[Q];omega
 rw[show List.replicate (Int.toNat (List.length g.2:Int)) ([]:bW)=Q 0 by simp[Q]]
 refine dR (step:=lI 1000 p g c v) g.2.length (fun k=>((k:Int),fQ g k,Q k)) (fun k ag hk=> ?_) (fun ag=> ?_) 1000 (by omega)
 ·have hdeg:=(hV.node k hk).deg
  have hq:k<(Q k).length:=by rw[hQ k (by omega)];exact hk
  unfold lI
  dsimp only
  rw[if_pos (by omega),eB (by omega),eB (by omega)]
  let Rw:Nat->bW:=fun j=>(List.range j).map (A_ g k)
  have e0:Q k=(Q k).set k (Rw 0):=by
   have:at' (Q k) (k:Int)=Rw 0:=by
    rw[gD hq];simp[Q,Rw]
   rw[<-this]
   exact(vM (Q k) (k:Int) (by simpa using hq) (by omega)).symm
  rw[show(Q k)=(Q k).set k (Rw 0)from e0]
  have hgen:∀A:bP,A.length=g.2.length->bZ (oW 1000 g ((k:Int),fQ g k,(Q k).set k (Rw 0)) ag) 1000 ((0:Int),A.set k (Rw 0))=ag (((k+1:Nat):Int),fQ g (k+1),A.set k (f k)):=by
   intro A hA
   refine dR (step:=oW 1000 g ((k:Int),fQ g k,(Q k).set k (Rw 0)) ag) (K:=ag (((k+1:Nat):Int),fQ g (k+1),A.set k (f k))) (row g k).length (fun j=>((j:Int),A.set k (Rw j))) (fun j ag2 hj=> ?_) (fun ag2=> ?_) 1000 (by omega)
   ·obtain⟨u,hu,hue⟩:=hV.to hk hj
    have hdu:=(hV.node u hu).deg
    have a1:at' (A.set k (Rw j)) (k:Int)=Rw j:=by rw[Bp _ _ _ _ (by omega),if_pos rfl]
    have hRl:(Rw j).length=j:=by simp[Rw]
    unfold oW
    dsimp only
    rw[if_pos (show(j:Int)<((row g k).length:Int) by omega),eB (show 0<=(j:Int)∧(j:Int)<((row g k).length:Int) by omega),eB (by simp only[List.length_set];omega),show at' (at' g.2 (k:Int)) (j:Int)=jA (row g k) j from rfl,hue,bR (show gT 1000 _ (u:Int) (k:Int)=_ from Da g u (k:Int) hu (by omega)),a1,eB (by rw[hRl];simp;omega),eB (by simp only[List.length_set];omega),fG (by omega),Int.toNat_natCast,List.set_set]
    have:Rw j++[vJ (row g u) (k:Int)]=Rw (j+1):=by
     simp only[Rw];rw[List.range_succ,List.map_append,List.map_singleton,A_,hue,Int.toNat_natCast]
    rw[this]
   ·unfold oW uM
    dsimp only
    rw[if_neg (show¬((row g k).length:Int)<((row g k).length:Int)from Int.lt_irrefl _),fG (by omega)]
    rfl
  have:=hgen (Q k) (hQ k (by omega))
  rw[lP f [] g.2.length k hk]at this
  exact this
 ·unfold lI
  dsimp only
  rw[if_neg (by omega)]
  simp[Q,d_,f]
section
variable {p:uA} {g:GR} {R:List RL} {c:List (List Int)}
theorem vO (hV:VG g) (hp:yA g p.2.1) (hz:p.2.2.map kS=Br R) (hR:qS p.2.1.length R=true) (hc:JV g c p.2.1):gV 1000 p g c=some ((JE (bV p g) R c:Nat):Int):=by
 have h24:=hV.n24
 unfold gV
 have hm:oD 1000 p g c=some true:=by
  unfold oD
  rw[bR (show gU 1000 _ _ c=_ from Et hV hp hc)];rfl
 rw[bR (show oD 1000 _ _ c=_ from hm),if_neg (by decide),eB (by omega),Nj hV p c]
 unfold nE qJ tU
 rw[bR (show fO 1000 _ _=_ from Ct hV hp)]
 dsimp only
 rw[bR (show eK 1000 (p,(p,g,fQ g g.2.length,d_ g),wD g p.2.1) c=some ((JE (bV p g) R c:Nat):Int)from Ey hV hc.shape hz hR (by simp[wD]))]
theorem Jj (hV:VG g) (hp:yA g p.2.1) (hz:p.2.2.map kS=Br R) (hR:qS p.2.1.length R=true) (hc:JV g c p.2.1) {t:Nat} (ht0:t≠0) (ht32:t<4294967296) (ht:∀v,t.testBit v=true->(JE (bV p g) R c).testBit v=true):tJ 1000 p g c (t:Int)=some (rA (bV p g) p.2.1 R c t,0):=by
 have h24:=hV.n24
 have hVS:VG (bV p g).2.1:=hV
 have hz0:Iy t (JE (bV p g) R c)=0:=LD fun v=>by
  rw[MH ht32 (Kq hVS R c)]
  cases hx:t.testBit v with
  |false=>simp
  |true=>rw[ht v hx];simp
 unfold tJ
 rw[bR (show gU 1000 _ _ c=_ from Et hV hp hc),if_neg (by decide),eB (by omega),Nl hV p c (t:Int)]
 unfold rW uO yS
 rw[bR (show fO 1000 _ _=_ from Ct hV hp)]
 dsimp only
 rw[if_neg (by omega),bR (show eK 1000 (p,(p,g,fQ g g.2.length,d_ g),wD g p.2.1) c=some ((JE (bV p g) R c:Nat):Int)from Ey hV hc.shape hz hR (by simp[wD])),Oc,hz0]
 unfold uN
 rw[if_neg (by decide),bR (show jF 1000 (p,(p,g,fQ g g.2.length,d_ g),wD g p.2.1) c (t:Int)=some (rA (bV p g) p.2.1 R c t)from SP hV hp hc.shape hz hR ht32 (fun v hv=>by
  have h:=ht v hv
  rw[yE,Bool.and_eq_true,decide_eq_true_eq,decide_eq_true_eq]at h
  exact h.2))]
theorem Ds (hV:VG g) (hp:yA g p.2.1) (hz:p.2.2.map kS=Br R) (hR:qS p.2.1.length R=true) (hc:JV g c p.2.1) {v i:Nat} (hv:v<g.2.length) (hi:i<R.length) (hr:oJ (bV p g) R c v=(i:Int)):oE 1000 p g c (v:Int)=some (pR (bV p g) p.2.1 R c v (i:Int),0):=by
 have h24:=hV.n24
 have hcl:=hc.len
 unfold oE
 rw[bR (show gU 1000 _ _ c=_ from Et hV hp hc),if_neg (by decide),if_neg (by omega),decide_eq_false (by omega)]
 unfold uK
 rw[if_neg (by decide),eB (by omega),Nk hV p c (v:Int)]
 unfold rV uL yR
 rw[bR (show fO 1000 _ _=_ from Ct hV hp)]
 dsimp only
 rw[bR (show dD 1000 (p,(p,g,fQ g g.2.length,d_ g),wD g p.2.1) c (v:Int)=some (i:Int)from(HF hV hc.shape hv hz hR _).trans (congrArg some hr)),if_neg (by omega),bR (show fN 1000 (p,(p,g,fQ g g.2.length,d_ g),wD g p.2.1) c (v:Int) (i:Int)=some (pR (bV p g) p.2.1 R c v (i:Int))from LC hV hp hc.shape hv hz hR hi)]
end
def rY (m:Nat) (l:List Int):Nat->List Int
 |0=>[]
 |k+1=>if m.testBit k=true then rY m l k++[at' l (k:Int)]else rY m l k
theorem IV (m:Nat) (l:List Int):∀k,(rY m l k).length<=k
 |0=>Nat.le_refl 0
 |k+1=>by
  have:=IV m l k
  unfold rY
  split<;>simp<;>omega
theorem X_ {a k:Nat} (hk:k<32) (ha:a<4294967296):uV .u32 (FC .u32 (a:Int) (k:Int)) 1=if a.testBit k=true then 1 else 0:=by
 split
 ·rename_i h;exact(Hl hk ha).2 h
 ·rename_i h;exact(Wl hk ha).2 (by simpa using h)
theorem EY {c:List (List Int)} (hc:c.length<=900) (hr:∀v,v<c.length->(at' c (v:Int)).length<=30) {m:Nat} (hm:m<4294967296):fD 1000 c (m:Int)=some ((List.range c.length).map fun v:Nat=>rY m (at' c (v:Int)) (at' c (v:Int)).length):=by
 let n:=c.length
 let f:Nat->List Int:=fun v=>rY m (at' c (v:Int)) (at' c (v:Int)).length
 let Q:Nat->List (List Int):=fun k=>(List.range k).map f++List.replicate (n - k) []
 have hQ:∀k,k<=n->(Q k).length=n:=fun k hk=>by simp[Q];omega
 unfold fD
 rw[eB (by omega),show List.replicate (Int.toNat (List.length c:Int)) ([]:List Int)=Q 0 by simp[Q,n]]
 refine dR (step:=fL 1000 c (m:Int)) n (fun k=>((k:Int),Q k)) (fun k ag hk=> ?_) (fun ag=> ?_) 1000 (by show n<1000;omega)
 ·have hk30:=hr k hk
  have hq:k<(Q k).length:=by rw[hQ k (by omega)];exact hk
  have hk:k<c.length:=hk
  unfold fL
  dsimp only
  rw[if_pos (by omega),eB (by omega),eB (by omega)]
  have htk:List.drop (Int.toNat 0) (List.take (Int.toNat (min ((at' c (k:Int)).length:Int) (32:Int))) (at' c (k:Int)))=at' c (k:Int):=by
   rw[show Int.toNat (min ((at' c (k:Int)).length:Int) (32:Int))=(at' c (k:Int)).length by omega,List.take_length];rfl
  have e0:Q k=(Q k).set k (rY m (at' c (k:Int)) 0):=by
   have h0:at' (Q k) (k:Int)=[]:=by rw[gD hq];simp[Q]
   have:=vM (Q k) (k:Int) (by simpa using hq) (by omega)
   rw[h0]at this
   exact this.symm
  have hgen:∀A:List (List Int),A.length=n->A.set k (f k)=Q (k+1)->bZ (gH c (m:Int) ((k:Int),Q k) ag) 1000 ((0:Int),A.set k (rY m (at' c (k:Int)) 0))=ag (((k+1:Nat):Int),Q (k+1)):=by
   intro A hA hAk
   refine dR (step:=gH c (m:Int) ((k:Int),Q k) ag) (at' c (k:Int)).length (fun j=>((j:Int),A.set k (rY m (at' c (k:Int)) j))) (fun j ag2 hj=> ?_) (fun ag2=> ?_) 1000 (by omega)
   ·have hAk:(A.set k (rY m (at' c (k:Int)) j)).length=n:=by simp[hA]
    have hn:k<n:=hk
    have a1:at' (A.set k (rY m (at' c (k:Int)) j)) (k:Int)=rY m (at' c (k:Int)) j:=by rw[Bp _ _ _ _ (by omega),if_pos rfl]
    have hl:=IV m (at' c (k:Int)) j
    unfold gH jY
    dsimp only
    rw[htk,if_pos (by omega),eB (by omega),eB (by omega),X_ (by omega) hm,fG (by omega),a1,Int.toNat_natCast]
    by_cases hb:m.testBit j=true
    ·rw[if_pos hb,if_pos rfl,eB (by omega),eB (by simp;omega),eB (by rw[List.length_set];omega),List.set_set]
     have:rY m (at' c (k:Int)) (j+1)=rY m (at' c (k:Int)) j++[at' (at' c (k:Int)) (j:Int)]:=by rw[rY,if_pos hb]
     rw[this]
    ·rw[if_neg hb,if_neg (by decide)]
     have:rY m (at' c (k:Int)) (j+1)=rY m (at' c (k:Int)) j:=by rw[rY,if_neg hb]
     rw[this]
   ·unfold gH mV
    dsimp only
    rw[htk,if_neg (by omega),fG (by omega)]
    rw[show A.set k (rY m (at' c (k:Int)) (at' c (k:Int)).length)=Q (k+1)from hAk]
  have hs:=lP f [] n k hk
  rw[e0]
  have:=hgen (Q k) (hQ k (by omega)) hs
  rw[<-e0]at this ⊢
  exact this
 ·unfold fL mT
  dsimp only
  rw[if_neg (by show¬((c.length:Nat):Int)<_;omega)]
  simp[Q,f,n]
theorem IW {g:GR} {c:List (List Int)} {nv k m:Nat} (hV:VG g) (hc:wG g nv c) (hn:nv<=30) (hm:m<4294967296) (h:∀l:List Int,l.length=nv->rY m l nv=l.take k):fD 1000 c (m:Int)=some (oI k c):=by
 have h24:=hV.n24
 have hl:=hc.len
 rw[EY (by omega) (fun v hv=>by rw[hc.row v (by omega)];exact hn) hm]
 congr 1
 refine List.ext_getElem (by simp[oI]) fun i h1 h2=> ?_
 have hi:i<c.length:=by simpa using h1
 have hr:=hc.row i (by omega)
 simp only[List.getElem_map,List.getElem_range,oI]
 rw[hr,h _ hr,gD hi]
theorem IX {g:GR} {c:List (List Int)} (hV:VG g) (hc:wG g 3 c):fD 1000 c 2=some (AI c):=by
 have h24:=hV.n24
 have hl:=hc.len
 have:=EY (c:=c) (m:=2) (by omega) (fun v hv=>by rw[hc.row v (by omega)];omega) (by omega)
 refine Eq.trans this ?_
 congr 1
 refine List.ext_getElem (by simp[AI]) fun i h1 h2=> ?_
 have hi:i<c.length:=by simpa using h1
 obtain⟨x,y,t,hr⟩:=Wx _ (hc.row i (by omega))
 simp only[List.getElem_map,List.getElem_range,AI]
 have:c[i]=[x,y,t]:=by rw[<-gD hi];exact hr
 rw[this,hr]
 show rY 2 [x,y,t] 3=_
 rw[rY,rY,rY,if_neg (by decide),if_pos (by decide),if_neg (by decide)]
 rfl
end Go.Proofs.YtlciiihigmgaiaaGreat
end
section
namespace Go.Proofs.YtlciiihigmgaiaaGreat
open Go.Sx
def o_  (a2:Bool):Option (Bool):=
 some (a2)
def qZ (U:Nat) (p0:Int) (p1:Int):Option (Bool):=
 if(0:Int)<=p1 then(if p1<(32:Int)then(ck (0<=(wI .u64 p1)) (o_  (decide ((uV .u32 (FC .u32 p0 (wI .u64 p1)) (1:Int))=(1:Int)))))else(o_  (false)))else(o_  (false))
theorem Kk:a_ Tryz.prog 17:=Tryz.call17
theorem Ah (U:Nat) {p0:Int} {p1:Int} (r:Bool) (h:qZ U p0 p1=some r):
  bJ Tryz.prog 17 #[vU (p0),vI (p1)] [] (fun x:Unit=>vB (r)) (fun x l=>l) (fun _ l=>l):=by
 refine bJ.of Tryz.func17 rfl Tryz.ntmps17 rfl fun c=>?_
 refine aX<|aF rfl<|aP<|aM<|kF (fun a2=>o_  a2=some r) (fun a2 b3=>[(4,vB (a2))]) (fun a2 b3=>[]) ?_ ?_
 ·refine aS<|aA rfl<|aE (Dj rfl rfl) rfl<|aA rfl ?_
  refine Dz h rfl (fun _ h=>?_) fun _ h=>?_
  ·refine dQ rfl<|aR rfl (Ip rfl rfl) rfl<|iW rfl<|aA rfl ?_
   refine Dz h rfl (fun _ h=>?_) fun _ h=>?_
   ·refine dQ rfl<|dQ rfl<|aR rfl (TU rfl rfl rfl) rfl<|eM h fun j6 h=>aR rfl (NY rfl rfl j6) rfl<|aR rfl (Tg rfl rfl) rfl<|aR rfl (Em rfl rfl) rfl<|iW rfl<|aF rfl<|aP ?_
    exact jO (decide ((uV .u32 (FC .u32 p0 (wI .u64 p1)) (1:Int))=(1:Int))) () h SF rfl
   refine aQ rfl<|aQ rfl<|aQ rfl<|aQ rfl<|aQ rfl<|aQ rfl<|h_ rfl<|aF rfl<|aP ?_
   exact jO (false) () h SF rfl
  refine aQ rfl<|aQ rfl<|h_ rfl<|aA rfl<|aQ rfl<|aQ rfl<|aQ rfl<|aQ rfl<|aQ rfl<|aQ rfl<|h_ rfl<|aF rfl<|aP ?_
  exact jO (false) () h SF rfl
 intro a2 b3 h
 unfold o_ at h
 refine aW ?_
 cases h
 exact mN rfl
end Go.Proofs.YtlciiihigmgaiaaGreat
end
section
namespace Go.Proofs.YtlciiihigmgaiaaGreat
open Go Go.Sx
theorem Kh (f:Nat) {m v:Nat} (hm:m<4294967296) (hv:v<32):qZ f (m:Int) (v:Int)=some (m.testBit v):=by
 unfold qZ o_
 rw[if_pos (by omega),if_pos (by omega),Yq hv,eB (by omega)]
 congr 1
 rw[Bool.eq_iff_iff,decide_eq_true_eq]
 exact Hl hv hm
end Go.Proofs.YtlciiihigmgaiaaGreat
end
section
namespace Go.Proofs.YtlciiihigmgaiaaGreat
open Go.Sx
def lO (U:Nat) (p0:Int):Option (ByteArray):=
 Option.bind (eS U p0 (4:Int)) fun r1=>(if r1=(0:Int)then(some (ByteArray.mk #[112,114,111,103,114,97,109,32,97,59,10,118,97,114,32,120,32,58,32,48,32,46,46,32,51,59,10,114,117,108,101,32,117,112,58,32,120,32,60,32,51,32,38,38,32,97,108,108,40,113,46,120,32,62,61,32,120,41,32,45,62,32,120,32,58,61,32,120,32,43,32,49,59,10]))else(if r1=(1:Int)then(some (ByteArray.mk #[112,114,111,103,114,97,109,32,98,59,10,118,97,114,32,120,32,58,32,48,32,46,46,32,51,59,10,118,97,114,32,121,32,58,32,48,32,46,46,32,50,59,10,114,117,108,101,32,115,101,101,58,32,121,32,33,61,32,120,32,37,32,51,32,45,62,32,121,32,58,61,32,120,32,37,32,51,59,10]))else(if r1=(2:Int)then(some (ByteArray.mk #[112,114,111,103,114,97,109,32,99,59,10,118,97,114,32,112,32,58,32,112,111,114,116,59,10,118,97,114,32,122,32,58,32,98,111,111,108,59,10,114,117,108,101,32,97,105,109,58,32,112,32,33,61,32,102,105,114,115,116,40,113,46,122,41,32,45,62,32,112,32,58,61,32,102,105,114,115,116,40,113,46,122,41,59,10,114,117,108,101,32,116,117,114,110,101,100,58,32,122,32,33,61,32,114,111,111,116,32,45,62,32,122,32,58,61,32,114,111,111,116,59,10]))else(some (ByteArray.mk #[112,114,111,103,114,97,109,32,100,59,10,118,97,114,32,119,32,58,32,98,111,111,108,59,10,114,117,108,101,32,102,108,105,112,58,32,115,111,109,101,40,113,46,119,32,61,61,32,119,41,32,45,62,32,119,32,58,61,32,33,119,59,10])))))
theorem Tj:a_ Tryz.prog 7:=Tryz.call7
theorem Bf (U:Nat) {p0:Int} (r:ByteArray) (h:lO U p0=some r):
  bJ Tryz.prog 7 #[vI (p0)] [] (fun x:Unit=>vS (r)) (fun x l=>l) (fun _ l=>l):=by
 refine bJ.of Tryz.func7 rfl Tryz.ntmps7 rfl fun c=>?_
 refine aX<|aF rfl<|aP<|aM<|aX<|aA rfl<|gK h fun r1 w2 h=>aK (aN.callQ BR (gW U  r1 w2) rfl .nil) rfl fun x3=>aP<|aY<|aX<|dL rfl<|aF rfl<|aP ?_
 refine gP h rfl (fun h=>?_) fun h=>?_
 ·refine aX<|aF rfl<|aP<|aW<|cA<|aL ?_
  cases h
  exact mN rfl
 refine aX<|dL rfl<|aF rfl<|aP ?_
 refine gP h rfl (fun h=>?_) fun h=>?_
 ·refine aX<|aF rfl<|aP<|aW<|cA<|aL ?_
  cases h
  exact mN rfl
 refine aX<|dL rfl<|aF rfl<|aP ?_
 refine gP h rfl (fun h=>?_) fun h=>?_
 ·refine aX<|aF rfl<|aP<|aW<|cA<|aL ?_
  cases h
  exact mN rfl
 refine f_<|qB<|aX<|aF rfl<|aP<|aW ?_
 cases h
 exact mN rfl
end Go.Proofs.YtlciiihigmgaiaaGreat
end
section
namespace Go.Proofs.YtlciiihigmgaiaaGreat
open Go Go.Sx Go.Gx
set_option maxRecDepth 100000
def wY (fuel:Nat):Option (Bool):=some (true)
theorem Kj:a_ Tryz.prog 12:=Tryz.call12
theorem Ov:Yk (uW uJ gp2 4000 12 [] H0)=true:=by kernel_rfl
theorem Be (fuel:Nat) (r:Bool) (h:wY fuel=some r):
  bJ Tryz.prog 12 #[] [] (fun x:Unit=>Value.bool (r)) (fun x l=>l) (fun _ l=>l):=by
 obtain rfl:=Option.some.inj h
 obtain⟨H',h1⟩:=Pu Ov
 rw[oA lH]at h1
 exact Hu UG Kj (fun ρ V' h=>h.bool_inv) fun T b=>zQ (gs:=gl T) Yf h1 (eN.start b rfl) .nil
end Go.Proofs.YtlciiihigmgaiaaGreat
end
section
namespace Go.Proofs.YtlciiihigmgaiaaGreat
open Go.Sx
noncomputable def sC (U:Nat) (a72:Unit):Option (Bool):=
 Option.bind (wY U) fun r74=>(some (r74))
noncomputable def fY (a79:Int) (ag78:(Int)->Option (Bool)) (a83:Unit):Option (Bool):=
 ag78 (wI .i64 (a79+(1:Int)))
noncomputable def cT (a79:Int) (ag78:(Int)->Option (Bool)) (a105:Bool):Option (Bool):=
 if a105=true then(some (false))else(fY a79 ag78 (()))
noncomputable def eZ (r42:bP) (r65:bP×Int) (a79:Int) (ag78:(Int)->Option (Bool)) (a90:Bool) (a98:Int×bW) (a101:Bool):Option (Bool):=
 if a101=true then(some (false))else(if a90=true then(ck (0<=a79∧a79<(List.length r65.1:Int)) (ck (0<=(0:Int)∧(0:Int)<(List.length (at' r65.1 a79):Int)) (ck (0<=(0:Int)∧(0:Int)<(List.length a98.2:Int)) (if(at' (at' r65.1 a79) (0:Int))≠(at' a98.2 (0:Int))then(cT a79 ag78 (true))else(ck (0<=a79∧a79<(List.length r65.1:Int)) (ck (0<=(1:Int)∧(1:Int)<(List.length (at' r65.1 a79):Int)) (ck (0<=a79∧a79<(List.length r42:Int)) (ck (0<=(1:Int)∧(1:Int)<(List.length (at' r42 a79):Int)) (if(at' (at' r65.1 a79) (1:Int))≠(at' (at' r42 a79) (1:Int))then(cT a79 ag78 (true))else(if(!a90)=true then(ck (0<=a79∧a79<(List.length r65.1:Int)) (ck (0<=(1:Int)∧(1:Int)<(List.length (at' r65.1 a79):Int)) (ck (0<=(0:Int)∧(0:Int)<(List.length a98.2:Int)) (if(at' (at' r65.1 a79) (1:Int))≠(at' a98.2 (0:Int))then(cT a79 ag78 (true))else(ck (0<=a79∧a79<(List.length r65.1:Int)) (ck (0<=(0:Int)∧(0:Int)<(List.length (at' r65.1 a79):Int)) (ck (0<=a79∧a79<(List.length r42:Int)) (ck (0<=(0:Int)∧(0:Int)<(List.length (at' r42 a79):Int)) (cT a79 ag78 (decide ((at' (at' r65.1 a79) (0:Int))≠(at' (at' r42 a79) (0:Int)))))))))))))else(cT a79 ag78 (false))))))))))))else(if(!a90)=true then(ck (0<=a79∧a79<(List.length r65.1:Int)) (ck (0<=(1:Int)∧(1:Int)<(List.length (at' r65.1 a79):Int)) (ck (0<=(0:Int)∧(0:Int)<(List.length a98.2:Int)) (if(at' (at' r65.1 a79) (1:Int))≠(at' a98.2 (0:Int))then(cT a79 ag78 (true))else(ck (0<=a79∧a79<(List.length r65.1:Int)) (ck (0<=(0:Int)∧(0:Int)<(List.length (at' r65.1 a79):Int)) (ck (0<=a79∧a79<(List.length r42:Int)) (ck (0<=(0:Int)∧(0:Int)<(List.length (at' r42 a79):Int)) (cT a79 ag78 (decide ((at' (at' r65.1 a79) (0:Int))≠(at' (at' r42 a79) (0:Int)))))))))))))else(cT a79 ag78 (false))))
noncomputable def fZ (r42:bP) (r65:bP×Int) (a79:Int) (ag78:(Int)->Option (Bool)) (a90:Bool) (a93:Bool) (a98:Int×bW):Option (Bool):=
 if a98.1≠(0:Int)then(eZ r42 r65 a79 ag78 a90 a98 (true))else(if(List.length a98.2:Int)≠(1:Int)then(eZ r42 r65 a79 ag78 a90 a98 (true))else(ck (0<=a79∧a79<(List.length r65.1:Int)) (if(List.length (at' r65.1 a79):Int)≠(3:Int)then(eZ r42 r65 a79 ag78 a90 a98 (true))else(ck (0<=a79∧a79<(List.length r65.1:Int)) (ck (0<=(2:Int)∧(2:Int)<(List.length (at' r65.1 a79):Int)) (ck (0<=a79∧a79<(List.length r42:Int)) (ck (0<=(2:Int)∧(2:Int)<(List.length (at' r42 a79):Int)) (eZ r42 r65 a79 ag78 a90 a98 ((a93 != (decide ((at' (at' r65.1 a79) (2:Int))≠(at' (at' r42 a79) (2:Int))))))))))))))
noncomputable def dW (U:Nat) (r2:zC) (r11:FM) (z14:List gZ) (r19:FM) (z22:List gZ) (r42:bP) (r45:bP) (r48:bP) (r65:bP×Int) (a79:Int) (ag78:(Int)->Option (Bool)) (a90:Bool) (a93:Bool):Option (Bool):=
 if a90=true then(Option.bind (oE U ((r11.1,r11.2.1,z14)) ((r2.1,r2.2)) r45 a79) fun r180=>(fZ r42 r65 a79 ag78 a90 a93 (r180.2,r180.1)))else(Option.bind (oE U ((r19.1,r19.2.1,z22)) ((r2.1,r2.2)) r48 a79) fun r183=>(fZ r42 r65 a79 ag78 a90 a93 (r183.2,r183.1)))
noncomputable def dV (U:Nat) (r2:zC) (r11:FM) (z14:List gZ) (r19:FM) (z22:List gZ) (r42:bP) (r45:bP) (r48:bP) (r65:bP×Int) (a79:Int) (ag78:(Int)->Option (Bool)) (a90:Bool):Option (Bool):=
 if a90=true then(ck (0<=a79∧a79<(List.length r42:Int)) (ck (0<=(2:Int)∧(2:Int)<(List.length (at' r42 a79):Int)) (if(at' (at' r42 a79) (2:Int))=(0:Int)then(dW U r2 r11 z14 r19 z22 r42 r45 r48 r65 a79 ag78 a90 (true))else(if(!a90)=true then(ck (0<=a79∧a79<(List.length r42:Int)) (ck (0<=(2:Int)∧(2:Int)<(List.length (at' r42 a79):Int)) (dW U r2 r11 z14 r19 z22 r42 r45 r48 r65 a79 ag78 a90 (decide ((at' (at' r42 a79) (2:Int))=(1:Int))))))else(dW U r2 r11 z14 r19 z22 r42 r45 r48 r65 a79 ag78 a90 (false))))))else(if(!a90)=true then(ck (0<=a79∧a79<(List.length r42:Int)) (ck (0<=(2:Int)∧(2:Int)<(List.length (at' r42 a79):Int)) (dW U r2 r11 z14 r19 z22 r42 r45 r48 r65 a79 ag78 a90 (decide ((at' (at' r42 a79) (2:Int))=(1:Int))))))else(dW U r2 r11 z14 r19 z22 r42 r45 r48 r65 a79 ag78 a90 (false)))
noncomputable def cG (U:Nat) (p2:Int) (r2:zC) (r11:FM) (z14:List gZ) (r19:FM) (z22:List gZ) (r42:bP) (r45:bP) (r48:bP) (r51:Int) (r54:Int) (r65:bP×Int) (a79:Int) (ag78:(Int)->Option (Bool)):Option (Bool):=
 if a79<(List.length r42:Int)then(Option.bind (qZ U (uV .u32 (G_ .u32 r51 r54) p2) a79) fun r85=>(if(!r85)=true then(fY a79 ag78 (()))else(Option.bind (qZ U r51 a79) fun r199=>(if r199=true then(ck (0<=a79∧a79<(List.length r42:Int)) (ck (0<=(2:Int)∧(2:Int)<(List.length (at' r42 a79):Int)) (if(at' (at' r42 a79) (2:Int))=(0:Int)then(dV U r2 r11 z14 r19 z22 r42 r45 r48 r65 a79 ag78 (true))else(Option.bind (qZ U r54 a79) fun r207=>(dV U r2 r11 z14 r19 z22 r42 r45 r48 r65 a79 ag78 ((!r207)))))))else(dV U r2 r11 z14 r19 z22 r42 r45 r48 r65 a79 ag78 (false))))))else(sC U (()))
noncomputable def kO (U:Nat) (p2:Int) (r2:zC) (r11:FM) (z14:List gZ) (r19:FM) (z22:List gZ) (r42:bP) (r45:bP) (r48:bP) (r51:Int) (r54:Int) (r65:bP×Int) (a69:Bool):Option (Bool):=
 if a69=true then(some (false))else(bZ (cG U p2 r2 r11 z14 r19 z22 r42 r45 r48 r51 r54 r65) U (0:Int))
noncomputable def kN (U:Nat) (p1:bW) (p2:Int) (r2:zC) (r11:FM) (z14:List gZ) (r19:FM) (z22:List gZ) (r30:(ByteArray×List (ByteArray×Int×Int×Int×Int×Int)×List (eP×List (Int×eP)))×Int) (z33:List gZ) (a39:Bool):Option (Bool):=
 if a39=true then(some (false))else(Option.bind (kD U ((r2.1,r2.2)) r30.1.2.1 p1) fun r42=>(Option.bind (fD U r42 (1:Int)) fun r45=>(Option.bind (fD U r42 (2:Int)) fun r48=>(Option.bind (gV U ((r11.1,r11.2.1,z14)) ((r2.1,r2.2)) r45) fun r51=>(Option.bind (gV U ((r19.1,r19.2.1,z22)) ((r2.1,r2.2)) r48) fun r54=>(Option.bind (gV U ((r30.1.1,r30.1.2.1,z33)) ((r2.1,r2.2)) r42) fun r57=>(if r57≠(G_ .u32 r51 r54)then(some (false))else(if(uV .u32 (G_ .u32 r51 r54) p2)=(0:Int)then(Option.bind (wY U) fun r62=>(some (r62)))else(Option.bind (tJ U ((r30.1.1,r30.1.2.1,z33)) ((r2.1,r2.2)) r42 (uV .u32 (G_ .u32 r51 r54) p2)) fun r65=>(if r65.2≠(0:Int)then(kO U p2 r2 r11 z14 r19 z22 r42 r45 r48 r51 r54 r65 (true))else(kO U p2 r2 r11 z14 r19 z22 r42 r45 r48 r51 r54 r65 (decide ((List.length r65.1:Int)≠(List.length r42:Int))))))))))))))
noncomputable def oC (U:Nat) (p0:xT) (p1:bW) (p2:Int):Option (Bool):=
 Option.bind (lD U ((p0.1,p0.2.1,p0.2.2.1,p0.2.2.2.1,p0.2.2.2.2.1,p0.2.2.2.2.2)) (7:Int)) fun r2=>(Option.bind (lO U (0:Int)) fun r8=>(Option.bind (fP U r8) fun r11=>Ke r11.2.2 fun z14=>(Option.bind (lO U (3:Int)) fun r16=>(Option.bind (fP U r16) fun r19=>Ke r19.2.2 fun z22=>(Option.bind (lX U r8 r16) fun r30=>Ke r30.1.2.2 fun z33=>(if r30.2≠(0:Int)then(kN U p1 p2 r2 r11 z14 r19 z22 r30 z33 (true))else(kN U p1 p2 r2 r11 z14 r19 z22 r30 z33 (decide ((List.length r30.1.2.1:Int)≠(3:Int))))))))))
theorem Ag (U:Nat) {p0:xT} {p1:bW} {p2:Int} (v0:Value)  (v1:Value)  (v2:Value)  (v3:Value) (r:Bool) (h:oC U p0 p1 p2=some r):
  bJ Tryz.prog 4 #[Value.agg #[vI (p0.1),v0,v1,v2,vB (p0.2.2.2.2.1),vB (p0.2.2.2.2.2)],v3,vU (p2)] [Sl bT v0 p0.2.1,Sl bT v1 p0.2.2.1,Sl bT v2 p0.2.2.2.1,Sl bT v3 p1] (fun x:Unit=>vB (r)) (fun x l=>l) (fun _ l=>l):=by
 refine bJ.of Tryz.func4 rfl Tryz.ntmps4 rfl fun c=>?_
 refine aX<|aK (aN.box (cs:=[vI (p0.1),v0,v1,v2,vB (p0.2.2.2.2.1),vB (p0.2.2.2.2.2)]) rfl rfl) rfl fun b1=>aF rfl<|aP<|aX<|fH 0 rfl<|gK h fun r2 w3 h=>aK (aN.callQ VN (Cn U v0 v1 v2 r2 w3) rfl (pJ [0,1,2] rfl)) rfl fun x4=>aK (aN.alloc (cs:=[lQ,lQ]) rfl rfl) rfl fun b5=>cH (Know.one ((cI (aG.res 1 rfl) cU))) fun ho6=>cH (Know.one (aG.sl (bG (i:=2) (j:=3) rfl rfl bN))) fun ho7=>cL 0 (vs:=[x4.1,x4.2.1]) rfl rfl (pF ho6 (pF ho7 rfl)) rfl rfl rfl<|aP<|aX<|gK h fun r8 w9 h=>aK (aN.callQ Tj (Bf U  r8 w9) rfl .nil) rfl fun x10=>gK h fun r11 w12 h=>aK (aN.call FY (DF U r11 w12) rfl .nil (fun _ _=>rfl) (fun _ _=>rfl)) rfl fun⟨x13a,x13b,z14,hz15⟩=>?_
 have h:=CJ h z14 hz15
 refine gK h fun r16 w17 h=>aK (aN.callQ Tj (Bf U  r16 w17) rfl .nil) rfl fun x18=>gK h fun r19 w20 h=>aK (aN.call FY (Ai U r19 w20 (t0:=r8) (V0:=Value.agg #[vS r11.1,x13a,x13b])) rfl (q_ 3 rfl) (fun _ _=>rfl) (fun _ _=>rfl)) rfl fun⟨x21a,x21b,z22,hz23⟩=>?_
 have h:=CJ h z22 hz23
 refine aK (aN.alloc (cs:=[vS (ByteArray.mk #[]),lQ,lQ]) rfl rfl) rfl fun b24=>aK (aN.alloc (cs:=[vS (ByteArray.mk #[]),lQ,lQ]) rfl rfl) rfl fun b25=>cH (Know.one ((aG.fact 5 rfl))) fun ho26=>cH (Know.one ((aG.fact 6 rfl))) fun ho27=>cL 1 (vs:=[vS (r11.1),x13a,x13b]) rfl rfl (pF rfl (pF ho26 (pF ho27 rfl))) rfl rfl rfl<|cH (Know.one ((aG.fact 0 rfl))) fun ho28=>cH (Know.one ((aG.fact 1 rfl))) fun ho29=>cL 0 (vs:=[vS (r19.1),x21a,x21b]) rfl rfl (pF rfl (pF ho28 (pF ho29 rfl))) rfl rfl rfl<|aP<|aX<|fH 1 rfl<|fH 0 rfl<|gK h fun r30 w31 h=>aK (aN.call Oe (AX U r30 w31) rfl (q_ 4 rfl) (fun _ _=>rfl) (fun _ _=>rfl)) rfl fun⟨x32a,x32b,z33,hz34⟩=>?_
 have h:=CJ h z33 hz34
 refine aA rfl<|gB rfl<|gB rfl<|aK (aN.alloc (cs:=[vS (ByteArray.mk #[]),lQ,lQ]) rfl rfl) rfl fun b35=>cH (Know.one ((aG.fact 0 rfl))) fun ho36=>cH (Know.one ((aG.fact 1 rfl))) fun ho37=>cL 0 (vs:=[vS (r30.1.1),x32a,x32b]) rfl rfl (pF rfl (pF ho36 (pF ho37 rfl))) rfl rfl rfl<|aF rfl<|aP<|aM<|aM<|pC (B:=Unit) (fun a39=>kN U p1 p2 r2 r11 z14 r19 z22 r30 z33 a39=some r) (fun a39 b40=>[(1,v3),(2,vU (p2)),(7,vP b5),(8,vP b24),(9,vP b25),(10,vP b35),(43,vB (a39))]) (fun a39 b40=>[cR b35 [vS (r30.1.1),x32a,x32b] 33,cR b25 [vS (r19.1),x21a,x21b] 33,cR b24 [vS (r11.1),x13a,x13b] 33,cR b5 [x4.1,x4.2.1] 28,Ar cB x4.1 r2.1,Ar dH.raw x4.2.1 x4.2.2,fI bX x4.2.2 r2.2]) (fun a39 b40=>[Sl aD x32a r30.1.2.1,Sl aB x32b z33,PF (Value.agg #[vS r30.1.1,x32a,x32b]),Sl aD x21a r19.2.1,Sl aB x21b z22,PF (Value.agg #[vS r19.1,x21a,x21b]),PT r16 (Value.agg #[vS r19.1,x21a,x21b]),PP r8 r16 (Value.agg #[vS r11.1,x13a,x13b]) (Value.agg #[vS r19.1,x21a,x21b]),Sl aD x13a r11.2.1,Sl aB x13b z14,PF (Value.agg #[vS r11.1,x13a,x13b]),PT r8 (Value.agg #[vS r11.1,x13a,x13b]),Sl bT v0 p0.2.1,Sl bT v1 p0.2.2.1,Sl bT v2 p0.2.2.2.1,Sl bT v3 p1]) ?_ ?_
 ·refine aS<|aA rfl<|sD rfl<|aA rfl ?_
  refine Dz h rfl (fun _ h=>?_) fun _ h=>?_
  ·refine aQ rfl<|aQ rfl<|aQ rfl<|aQ rfl<|iW rfl<|aP ?_
   exact dZ (true) () h SF (aT.ix [0,1,2,3,4,5,6] rfl rfl) (aH.refl _ _)
  refine aR rfl (mA rfl rfl rfl rfl rfl) rfl<|aR rfl (nP 0 rfl rfl rfl rfl rfl) rfl<|aR rfl (kQ rfl (aG.fact 0 rfl) rfl) rfl<|aR rfl (tF rfl rfl) rfl<|h_ rfl<|aP ?_
  exact dZ (decide ((List.length r30.1.2.1:Int)≠(3:Int))) () h SF (aT.ix [0,1,2,3,4,5,6] rfl rfl) (aH.refl _ _)
 intro a39 b40 h
 refine AQ h rfl (fun _ h=>?_) fun _ h=>?_
 ·refine aX<|aF rfl<|aP<|aW<|aL ?_
  cases h
  exact xC rfl
 refine eL<|aX<|fH 3 rfl<|cV rfl<|iF 0 rfl<|aA rfl<|gK h fun r42 w43 h=>aK (aN.callQ Ue (Fj U x4.1 x4.2.1 (List.zip x4.2.2 r2.2) x32a v3 r42 w43) rfl (aH.cons (cI (aG.res 4 rfl) cU) (aH.cons (bG (i:=5) (j:=6) rfl rfl bN) (pJ [0,15] rfl)))) rfl fun x44=>aF rfl<|aP<|aX<|aA rfl<|gK h fun r45 w46 h=>aK (aN.callQ Od (wQ U x44.1 (List.zip x44.2 r42) r45 w46) rfl (aH.cons (bG (i:=0) (j:=1) rfl rfl cU) .nil)) rfl fun x47=>aA rfl<|gK h fun r48 w49 h=>aK (aN.callQ Od (wQ U x44.1 (List.zip x44.2 r42) r48 w49) rfl (aH.cons (bG (i:=2) (j:=3) rfl rfl cU) .nil)) rfl fun x50=>aF rfl<|aF rfl<|aP<|aM ?_
 refine JR.start [0,0,0,7,0,0,0,127,255,511] 7 mixedOrders (by decide +kernel) ?_
 refine JR.open (by exact rfl) ?_
 refine g_ 8 rfl<|g_ 9 rfl<|bL rfl<|gK h fun r51 w52 h=>JR.loud rfl rfl rfl (aN.callQ Ki (vX U x13a x13b x4.1 x4.2.1 (List.zip x4.2.2 r2.2) x47.1 (List.zip x47.2 r45) r51 w52) rfl (aH.cons (aG.fact 8 rfl) (aH.cons (aG.fact 9 rfl) (aH.cons (aG.fact 10 rfl) (aH.cons (cI (aG.res 10 rfl) cU) (aH.cons (bG (i:=11) (j:=12) rfl rfl bN) (aH.cons (bG (i:=2) (j:=3) rfl rfl cU) .nil))))))) rfl (fun x53=>(tM [] rfl)) fun x53=>bY rfl (aT.cons 7 rfl .nil) .nil (jX 0 rfl rfl rfl rfl) (aI.h (aT.ix [7] rfl rfl) .nil aI.z)<|bY rfl (aT.cons 9 rfl .nil) .nil (jX 0 rfl rfl rfl rfl) (aI.h (aT.ix [9] rfl rfl) .nil aI.z)<|mP rfl (dM rfl)<|cD 7 rfl rfl<|gK h fun r54 w55 h=>aK (aN.callQ Ki (vX U x21a x21b x4.1 x4.2.1 (List.zip x4.2.2 r2.2) x50.1 (List.zip x50.2 r48) r54 w55) rfl (aH.cons (aG.fact 3 rfl) (aH.cons (aG.fact 4 rfl) (aH.cons (aG.fact 5 rfl) (aH.cons (cI (aG.res 10 rfl) cU) (aH.cons (bG (i:=11) (j:=12) rfl rfl bN) (aH.cons (bG (i:=0) (j:=1) rfl rfl cU) .nil))))))) rfl fun x56=>aF rfl<|aF rfl<|aP<|aM<|aX<|fH 6 rfl<|fH 9 rfl<|aA rfl<|gK h fun r57 w58 h=>aK (aN.callQ Ki (vX U x32a x32b x4.1 x4.2.1 (List.zip x4.2.2 r2.2) x44.1 (List.zip x44.2 r42) r57 w58) rfl (aH.cons (aG.fact 0 rfl) (aH.cons (aG.fact 1 rfl) (aH.cons (aG.fact 2 rfl) (aH.cons (cI (aG.res 10 rfl) cU) (aH.cons (bG (i:=11) (j:=12) rfl rfl bN) (aH.cons (bG (i:=4) (j:=5) rfl rfl cU) .nil))))))) rfl fun x59=>aA rfl<|aA rfl<|aE (TV rfl rfl) rfl<|sD rfl<|aP ?_
 refine gP h rfl (fun h=>?_) fun h=>?_
 ·refine aX<|aF rfl<|aP<|aW<|aL ?_
  cases h
  exact xC rfl
 refine eL<|aX<|aA rfl<|aA rfl<|aE (TV rfl rfl) rfl<|aA rfl<|PS rfl<|aF rfl<|aP<|aM<|aX<|aA rfl<|dL rfl<|aP ?_
 refine gP h rfl (fun h=>?_) fun h=>?_
 ·refine aX<|gK h fun r62 w63 h=>aK (aN.callQ Kj (Be U  r62 w63) rfl .nil) rfl fun x64=>aF rfl<|aP<|aW<|aL ?_
  cases h
  exact xC rfl
 refine eL<|aX<|fH 6 rfl<|fH 9 rfl<|aA rfl<|aA rfl<|gK h fun r65 w66 h=>aK (aN.callQ Uf (Jl U x32a x32b x4.1 x4.2.1 (List.zip x4.2.2 r2.2) x44.1 (List.zip x44.2 r42) r65 w66) rfl (aH.cons (aG.fact 0 rfl) (aH.cons (aG.fact 1 rfl) (aH.cons (aG.fact 2 rfl) (aH.cons (cI (aG.res 10 rfl) cU) (aH.cons (bG (i:=11) (j:=12) rfl rfl bN) (aH.cons (bG (i:=4) (j:=5) rfl rfl cU) .nil))))))) rfl fun x67=>aA rfl<|gB rfl<|gB rfl<|aF rfl<|aF rfl<|aP<|aM<|aM<|pC (B:=Unit) (fun a69=>kO U p2 r2 r11 z14 r19 z22 r42 r45 r48 r51 r54 r65 a69=some r) (fun a69 b70=>[(7,vP b5),(8,vP b24),(9,vP b25),(12,x44.1),(13,x47.1),(14,x50.1),(15,vU (r51)),(16,vU (r54)),(17,vU (uV .u32 (G_ .u32 r51 r54) p2)),(18,x67.1),(93,vB (a69))]) (fun a69 b70=>[Ar dH.raw x67.1 x67.2,fI cB x67.2 r65.1,Ar dH.raw x50.1 x50.2,fI cB x50.2 r48,Ar dH.raw x47.1 x47.2,fI cB x47.2 r45,Ar dH.raw x44.1 x44.2,fI cB x44.2 r42,cR b25 [vS (r19.1),x21a,x21b] 33,cR b24 [vS (r11.1),x13a,x13b] 33,cR b5 [x4.1,x4.2.1] 28,Ar cB x4.1 r2.1,Ar dH.raw x4.2.1 x4.2.2,fI bX x4.2.2 r2.2]) (fun a69 b70=>[Sl aD x32a r30.1.2.1,Sl aB x32b z33,PF (Value.agg #[vS r30.1.1,x32a,x32b]),Sl aD x21a r19.2.1,Sl aB x21b z22,PF (Value.agg #[vS r19.1,x21a,x21b]),PT r16 (Value.agg #[vS r19.1,x21a,x21b]),PP r8 r16 (Value.agg #[vS r11.1,x13a,x13b]) (Value.agg #[vS r19.1,x21a,x21b]),Sl aD x13a r11.2.1,Sl aB x13b z14,PF (Value.agg #[vS r11.1,x13a,x13b]),PT r8 (Value.agg #[vS r11.1,x13a,x13b]),Sl bT v0 p0.2.1,Sl bT v1 p0.2.2.1,Sl bT v2 p0.2.2.2.1,Sl bT v3 p1]) ?_ ?_
 ·refine aS<|aA rfl<|sD rfl<|aA rfl ?_
  refine Dz h rfl (fun _ h=>?_) fun _ h=>?_
  ·refine aQ rfl<|aQ rfl<|aQ rfl<|aQ rfl<|aQ rfl<|iW rfl<|aP ?_
   exact dZ (true) () h SF (aT.ix [0,1,2,3,4,5,6,7,9,10,11,12,13,14] rfl rfl) (aH.refl _ _)
  refine dQ rfl<|aR rfl (jB rfl (bG (i:=0) (j:=1) rfl rfl cU) rfl) rfl<|dQ rfl<|aR rfl (jB rfl (bG (i:=6) (j:=7) rfl rfl cU) rfl) rfl<|aR rfl (tF rfl rfl) rfl<|h_ rfl<|aP ?_
  exact dZ (decide ((List.length r65.1:Int)≠(List.length r42:Int))) () h SF (aT.ix [0,1,2,3,4,5,6,7,9,10,11,12,13,14] rfl rfl) (aH.refl _ _)
 intro a69 b70 h
 refine AQ h rfl (fun _ h=>?_) fun _ h=>?_
 ·refine aX<|aF rfl<|aP<|aW<|aL ?_
  cases h
  exact xC rfl
 refine eL<|aM<|pC (B:=Unit) (fun a72=>sC U a72=some r) (fun a72 b73=>[]) (fun a72 b73=>[]) (fun a72 b73=>[Sl aD x32a r30.1.2.1,Sl aB x32b z33,PF (Value.agg #[vS r30.1.1,x32a,x32b]),Sl aD x21a r19.2.1,Sl aB x21b z22,PF (Value.agg #[vS r19.1,x21a,x21b]),PT r16 (Value.agg #[vS r19.1,x21a,x21b]),PP r8 r16 (Value.agg #[vS r11.1,x13a,x13b]) (Value.agg #[vS r19.1,x21a,x21b]),Sl aD x13a r11.2.1,Sl aB x13b z14,PF (Value.agg #[vS r11.1,x13a,x13b]),PT r8 (Value.agg #[vS r11.1,x13a,x13b]),Sl bT v0 p0.2.1,Sl bT v1 p0.2.2.1,Sl bT v2 p0.2.2.2.1,Sl bT v3 p1]) ?_ ?_
 ·refine aX<|aF rfl<|aP<|aY<|BJ (B:=Unit) (cG U p2 r2 r11 z14 r19 z22 r42 r45 r48 r51 r54 r65) (fun a79 b80=>[(7,vP b5),(8,vP b24),(9,vP b25),(12,x44.1),(13,x47.1),(14,x50.1),(15,vU (r51)),(16,vU (r54)),(17,vU (uV .u32 (G_ .u32 r51 r54) p2)),(18,x67.1),(20,vI (a79))]) (fun a79 b80=>[Ar dH.raw x67.1 x67.2,fI cB x67.2 r65.1,Ar dH.raw x50.1 x50.2,fI cB x50.2 r48,Ar dH.raw x47.1 x47.2,fI cB x47.2 r45,Ar dH.raw x44.1 x44.2,fI cB x44.2 r42,cR b25 [vS (r19.1),x21a,x21b] 33,cR b24 [vS (r11.1),x13a,x13b] 33,cR b5 [x4.1,x4.2.1] 28,Ar cB x4.1 r2.1,Ar dH.raw x4.2.1 x4.2.2,fI bX x4.2.2 r2.2]) (fun a79 b80=>[Sl aD x32a r30.1.2.1,Sl aB x32b z33,PF (Value.agg #[vS r30.1.1,x32a,x32b]),Sl aD x21a r19.2.1,Sl aB x21b z22,PF (Value.agg #[vS r19.1,x21a,x21b]),PT r16 (Value.agg #[vS r19.1,x21a,x21b]),PP r8 r16 (Value.agg #[vS r11.1,x13a,x13b]) (Value.agg #[vS r19.1,x21a,x21b]),Sl aD x13a r11.2.1,Sl aB x13b z14,PF (Value.agg #[vS r11.1,x13a,x13b]),PT r8 (Value.agg #[vS r11.1,x13a,x13b]),Sl bT v0 p0.2.1,Sl bT v1 p0.2.2.1,Sl bT v2 p0.2.2.2.1,Sl bT v3 p1]) (0:Int) () h SF (aT.refl _) (aH.refl _ _) ?_
  intro k81 a79 b80 h
  refine aM<|aX<|aA rfl<|aA rfl<|aE (jB rfl (bG (i:=6) (j:=7) rfl rfl cU) rfl) rfl<|eD rfl<|aP ?_
  refine gP h rfl (fun h=>?_) fun h=>?_
  ·refine eL<|aM<|pC (B:=Unit) (fun a83=>fY a79 (bZ (cG U p2 r2 r11 z14 r19 z22 r42 r45 r48 r51 r54 r65) k81) a83=some r) (fun a83 b84=>[(7,vP b5),(8,vP b24),(9,vP b25),(12,x44.1),(13,x47.1),(14,x50.1),(15,vU (r51)),(16,vU (r54)),(17,vU (uV .u32 (G_ .u32 r51 r54) p2)),(18,x67.1),(20,vI (a79))]) (fun a83 b84=>[Ar dH.raw x67.1 x67.2,fI cB x67.2 r65.1,Ar dH.raw x50.1 x50.2,fI cB x50.2 r48,Ar dH.raw x47.1 x47.2,fI cB x47.2 r45,Ar dH.raw x44.1 x44.2,fI cB x44.2 r42,cR b25 [vS (r19.1),x21a,x21b] 33,cR b24 [vS (r11.1),x13a,x13b] 33,cR b5 [x4.1,x4.2.1] 28,Ar cB x4.1 r2.1,Ar dH.raw x4.2.1 x4.2.2,fI bX x4.2.2 r2.2]) (fun a83 b84=>[Sl aD x32a r30.1.2.1,Sl aB x32b z33,PF (Value.agg #[vS r30.1.1,x32a,x32b]),Sl aD x21a r19.2.1,Sl aB x21b z22,PF (Value.agg #[vS r19.1,x21a,x21b]),PT r16 (Value.agg #[vS r19.1,x21a,x21b]),PP r8 r16 (Value.agg #[vS r11.1,x13a,x13b]) (Value.agg #[vS r19.1,x21a,x21b]),Sl aD x13a r11.2.1,Sl aB x13b z14,PF (Value.agg #[vS r11.1,x13a,x13b]),PT r8 (Value.agg #[vS r11.1,x13a,x13b]),Sl bT v0 p0.2.1,Sl bT v1 p0.2.2.1,Sl bT v2 p0.2.2.2.1,Sl bT v3 p1]) ?_ ?_
   ·refine aY<|aM<|aX<|aA rfl<|aA rfl<|gK h fun r85 w86 h=>aK (aN.callQ Kk (Ah U  r85 w86) rfl .nil) rfl fun x87=>aE (yZ rfl) rfl<|aP ?_
    refine AQ h rfl (fun _ h=>?_) fun _ h=>?_
    ·refine wT<|kH<|AY<|xV ?_
     exact jO () (()) h SF rfl
    refine eL<|aM<|pC (B:=Unit) (fun a90=>dV U r2 r11 z14 r19 z22 r42 r45 r48 r65 a79 (bZ (cG U p2 r2 r11 z14 r19 z22 r42 r45 r48 r51 r54 r65) k81) a90=some r) (fun a90 b91=>[(7,vP b5),(8,vP b24),(9,vP b25),(12,x44.1),(13,x47.1),(14,x50.1),(15,vU (r51)),(16,vU (r54)),(17,vU (uV .u32 (G_ .u32 r51 r54) p2)),(18,x67.1),(20,vI (a79)),(21,vB (a90))]) (fun a90 b91=>[Ar dH.raw x67.1 x67.2,fI cB x67.2 r65.1,Ar dH.raw x50.1 x50.2,fI cB x50.2 r48,Ar dH.raw x47.1 x47.2,fI cB x47.2 r45,Ar dH.raw x44.1 x44.2,fI cB x44.2 r42,cR b25 [vS (r19.1),x21a,x21b] 33,cR b24 [vS (r11.1),x13a,x13b] 33,cR b5 [x4.1,x4.2.1] 28,Ar cB x4.1 r2.1,Ar dH.raw x4.2.1 x4.2.2,fI bX x4.2.2 r2.2]) (fun a90 b91=>[Sl aD x32a r30.1.2.1,Sl aB x32b z33,PF (Value.agg #[vS r30.1.1,x32a,x32b]),Sl aD x21a r19.2.1,Sl aB x21b z22,PF (Value.agg #[vS r19.1,x21a,x21b]),PT r16 (Value.agg #[vS r19.1,x21a,x21b]),PP r8 r16 (Value.agg #[vS r11.1,x13a,x13b]) (Value.agg #[vS r19.1,x21a,x21b]),Sl aD x13a r11.2.1,Sl aB x13b z14,PF (Value.agg #[vS r11.1,x13a,x13b]),PT r8 (Value.agg #[vS r11.1,x13a,x13b]),Sl bT v0 p0.2.1,Sl bT v1 p0.2.2.1,Sl bT v2 p0.2.2.2.1,Sl bT v3 p1]) ?_ ?_
    ·refine aS<|aA rfl<|aA rfl<|gK h fun r199 w200 h=>aK (aN.callQ Kk (Ah U  r199 w200) rfl .nil) rfl fun x201=>aA rfl ?_
     refine Ao (by exact rfl) (by exact rfl) (fun hp202=>?_) (fun hp202=>?_)
     ·have h:=Gi hp202 h
      refine dQ rfl<|dQ rfl<|eM h fun j203 h=>aR rfl (dK rfl rfl (bG (i:=6) (j:=7) rfl rfl cU) rfl rfl j203) rfl<|cH (bF 7 rfl) fun hl204=>aR rfl (dA 6 rfl rfl hl204 rfl rfl j203) rfl<|eM h fun j205 h=>aR rfl (bQ rfl rfl (aG.row (j:=7) rfl cU j203.1 j203.2) rfl rfl j205) rfl<|aR rfl (cF rfl (aG.row (j:=7) rfl cU j203.1 j203.2) rfl rfl rfl dJ j205) rfl<|aR rfl (Em rfl rfl) rfl<|dQ rfl ?_
      refine Dz h rfl (fun _ h=>?_) fun _ h=>?_
      ·refine aQ rfl<|aQ rfl<|aQ rfl<|aQ rfl<|aR rfl (lS rfl rfl) rfl<|iW rfl<|aF rfl<|aP ?_
       exact jO (true) () h SF rfl
      refine dQ rfl<|dQ rfl<|gK h fun r207 w208 h=>DK rfl (aN.callQ Kk (Ah U  r207 w208) rfl .nil) rfl fun x209=>aR rfl (yZ rfl) rfl<|aR rfl (pW rfl rfl) rfl<|iW rfl<|aF rfl<|aP ?_
      exact jO ((!r207)) () h SF rfl
     have h:=Hm hp202 h
     refine aQ rfl<|aQ rfl<|aQ rfl<|aQ rfl<|aQ rfl<|aQ rfl<|aQ rfl<|aQ rfl<|zI (h:= ?_)
     refine zI (h:= ?_)
     refine zI (h:= ?_)
     refine zI (h:= ?_)
     refine aQ rfl<|h_ rfl<|aF rfl<|aP ?_
     exact jO (false) () h SF rfl
    intro a90 b91 h
    unfold dV at h
    refine aM<|pC (B:=Unit) (fun a93=>dW U r2 r11 z14 r19 z22 r42 r45 r48 r65 a79 (bZ (cG U p2 r2 r11 z14 r19 z22 r42 r45 r48 r51 r54 r65) k81) a90 a93=some r) (fun a93 b94=>[(7,vP b5),(8,vP b24),(9,vP b25),(12,x44.1),(13,x47.1),(14,x50.1),(15,vU (r51)),(16,vU (r54)),(17,vU (uV .u32 (G_ .u32 r51 r54) p2)),(18,x67.1),(20,vI (a79)),(21,vB (a90)),(22,vB (a93))]) (fun a93 b94=>[Ar dH.raw x67.1 x67.2,fI cB x67.2 r65.1,Ar dH.raw x50.1 x50.2,fI cB x50.2 r48,Ar dH.raw x47.1 x47.2,fI cB x47.2 r45,Ar dH.raw x44.1 x44.2,fI cB x44.2 r42,cR b25 [vS (r19.1),x21a,x21b] 33,cR b24 [vS (r11.1),x13a,x13b] 33,cR b5 [x4.1,x4.2.1] 28,Ar cB x4.1 r2.1,Ar dH.raw x4.2.1 x4.2.2,fI bX x4.2.2 r2.2]) (fun a93 b94=>[Sl aD x32a r30.1.2.1,Sl aB x32b z33,PF (Value.agg #[vS r30.1.1,x32a,x32b]),Sl aD x21a r19.2.1,Sl aB x21b z22,PF (Value.agg #[vS r19.1,x21a,x21b]),PT r16 (Value.agg #[vS r19.1,x21a,x21b]),PP r8 r16 (Value.agg #[vS r11.1,x13a,x13b]) (Value.agg #[vS r19.1,x21a,x21b]),Sl aD x13a r11.2.1,Sl aB x13b z14,PF (Value.agg #[vS r11.1,x13a,x13b]),PT r8 (Value.agg #[vS r11.1,x13a,x13b]),Sl bT v0 p0.2.1,Sl bT v1 p0.2.2.1,Sl bT v2 p0.2.2.2.1,Sl bT v3 p1]) ?_ ?_
    ·refine aS<|aA rfl<|aA rfl ?_
     refine Ao (by exact rfl) (by exact rfl) (fun hp186=>?_) (fun hp186=>?_)
     ·have h:=Gi hp186 h
      refine dQ rfl<|dQ rfl<|eM h fun j187 h=>aR rfl (dK rfl rfl (bG (i:=6) (j:=7) rfl rfl cU) rfl rfl j187) rfl<|cH (bF 7 rfl) fun hl188=>aR rfl (dA 6 rfl rfl hl188 rfl rfl j187) rfl<|eM h fun j189 h=>aR rfl (bQ rfl rfl (aG.row (j:=7) rfl cU j187.1 j187.2) rfl rfl j189) rfl<|aR rfl (cF rfl (aG.row (j:=7) rfl cU j187.1 j187.2) rfl rfl rfl dJ j189) rfl<|aR rfl (Em rfl rfl) rfl<|iW rfl<|aA rfl ?_
      refine Dz h rfl (fun _ h=>?_) fun _ h=>?_
      ·refine aQ rfl<|aQ rfl<|aQ rfl<|zI (h:= ?_)
       refine zI (h:= ?_)
       refine zI (h:= ?_)
       refine zI (h:= ?_)
       refine zI (h:= ?_)
       refine zI (h:= ?_)
       refine zI (h:= ?_)
       refine aQ rfl<|iW rfl<|aF rfl<|aP ?_
       exact jO (true) () h SF rfl
      refine dQ rfl<|aR rfl (yZ rfl) rfl<|dQ rfl ?_
      refine Ao (by exact rfl) (by exact rfl) (fun hp191=>?_) (fun hp191=>?_)
      ·have h:=Gi hp191 h
       refine dQ rfl<|dQ rfl<|eM h fun j192 h=>aR rfl (dK rfl rfl (bG (i:=6) (j:=7) rfl rfl cU) rfl rfl j192) rfl<|cH (bF 7 rfl) fun hl193=>aR rfl (dA 6 rfl rfl hl193 rfl rfl j192) rfl<|eM h fun j194 h=>aR rfl (bQ rfl rfl (aG.row (j:=7) rfl cU j192.1 j192.2) rfl rfl j194) rfl<|aR rfl (cF rfl (aG.row (j:=7) rfl cU j192.1 j192.2) rfl rfl rfl dJ j194) rfl<|aR rfl (Em rfl rfl) rfl<|aR rfl (lS rfl rfl) rfl<|h_ rfl<|aF rfl<|aP ?_
       exact jO (decide ((at' (at' r42 a79) (2:Int))=(1:Int))) () h SF rfl
      have h:=Hm hp191 h
      refine aQ rfl<|aQ rfl<|aQ rfl<|aQ rfl<|aQ rfl<|aQ rfl<|aQ rfl<|aR rfl (pW rfl rfl) rfl<|h_ rfl<|aF rfl<|aP ?_
      exact jO (false) () h SF rfl
     have h:=Hm hp186 h
     refine aQ rfl<|aQ rfl<|aQ rfl<|aQ rfl<|aQ rfl<|aQ rfl<|aQ rfl<|h_ rfl<|aA rfl<|dQ rfl<|aR rfl (yZ rfl) rfl<|dQ rfl ?_
     refine Ao (by exact rfl) (by exact rfl) (fun hp195=>?_) (fun hp195=>?_)
     ·have h:=Gi hp195 h
      refine dQ rfl<|dQ rfl<|eM h fun j196 h=>aR rfl (dK rfl rfl (bG (i:=6) (j:=7) rfl rfl cU) rfl rfl j196) rfl<|cH (bF 7 rfl) fun hl197=>aR rfl (dA 6 rfl rfl hl197 rfl rfl j196) rfl<|eM h fun j198 h=>aR rfl (bQ rfl rfl (aG.row (j:=7) rfl cU j196.1 j196.2) rfl rfl j198) rfl<|aR rfl (cF rfl (aG.row (j:=7) rfl cU j196.1 j196.2) rfl rfl rfl dJ j198) rfl<|aR rfl (Em rfl rfl) rfl<|aR rfl (lS rfl rfl) rfl<|h_ rfl<|aF rfl<|aP ?_
      exact jO (decide ((at' (at' r42 a79) (2:Int))=(1:Int))) () h SF rfl
     have h:=Hm hp195 h
     refine aQ rfl<|aQ rfl<|aQ rfl<|aQ rfl<|aQ rfl<|aQ rfl<|aQ rfl<|aR rfl (pW rfl rfl) rfl<|h_ rfl<|aF rfl<|aP ?_
     exact jO (false) () h SF rfl
    intro a93 b94 h
    refine aX<|aF rfl<|aP<|aM<|pC (B:=Value) (fun a98=>fZ r42 r65 a79 (bZ (cG U p2 r2 r11 z14 r19 z22 r42 r45 r48 r51 r54 r65) k81) a90 a93 a98=some r) (fun a98 b99=>[(7,vP b5),(8,vP b24),(9,vP b25),(11,vI (a98.1)),(12,x44.1),(13,x47.1),(14,x50.1),(15,vU (r51)),(16,vU (r54)),(17,vU (uV .u32 (G_ .u32 r51 r54) p2)),(18,x67.1),(20,vI (a79)),(21,vB (a90)),(22,vB (a93)),(23,b99)]) (fun a98 b99=>[Ar cB b99 a98.2,Ar dH.raw x67.1 x67.2,fI cB x67.2 r65.1,Ar dH.raw x50.1 x50.2,fI cB x50.2 r48,Ar dH.raw x47.1 x47.2,fI cB x47.2 r45,Ar dH.raw x44.1 x44.2,fI cB x44.2 r42,cR b25 [vS (r19.1),x21a,x21b] 33,cR b24 [vS (r11.1),x13a,x13b] 33,cR b5 [x4.1,x4.2.1] 28,Ar cB x4.1 r2.1,Ar dH.raw x4.2.1 x4.2.2,fI bX x4.2.2 r2.2]) (fun a98 b99=>[Sl aD x32a r30.1.2.1,Sl aB x32b z33,PF (Value.agg #[vS r30.1.1,x32a,x32b]),Sl aD x21a r19.2.1,Sl aB x21b z22,PF (Value.agg #[vS r19.1,x21a,x21b]),PT r16 (Value.agg #[vS r19.1,x21a,x21b]),PP r8 r16 (Value.agg #[vS r11.1,x13a,x13b]) (Value.agg #[vS r19.1,x21a,x21b]),Sl aD x13a r11.2.1,Sl aB x13b z14,PF (Value.agg #[vS r11.1,x13a,x13b]),PT r8 (Value.agg #[vS r11.1,x13a,x13b]),Sl bT v0 p0.2.1,Sl bT v1 p0.2.2.1,Sl bT v2 p0.2.2.2.1,Sl bT v3 p1]) ?_ ?_
    ·refine aX<|aA rfl<|aP ?_
     refine AQ h rfl (fun _ h=>?_) fun _ h=>?_
     ·refine aS<|fH 9 rfl<|fH 10 rfl<|aA rfl<|aA rfl<|gK h fun r180 w181 h=>aK (aN.callQ Of (Dt U x13a x13b x4.1 x4.2.1 (List.zip x4.2.2 r2.2) x47.1 (List.zip x47.2 r45) r180 w181) rfl (aH.cons (aG.fact 8 rfl) (aH.cons (aG.fact 9 rfl) (aH.cons (aG.fact 10 rfl) (aH.cons (cI (aG.res 11 rfl) cU) (aH.cons (bG (i:=12) (j:=13) rfl rfl bN) (aH.cons (bG (i:=4) (j:=5) rfl rfl cU) .nil))))))) rfl fun x182=>aA rfl<|gB rfl<|gB rfl<|aF rfl<|aF rfl<|aP ?_
      exact jO (r180.2,r180.1) (x182) h SF rfl
     refine aS<|fH 8 rfl<|fH 10 rfl<|aA rfl<|aA rfl<|gK h fun r183 w184 h=>aK (aN.callQ Of (Dt U x21a x21b x4.1 x4.2.1 (List.zip x4.2.2 r2.2) x50.1 (List.zip x50.2 r48) r183 w184) rfl (aH.cons (aG.fact 3 rfl) (aH.cons (aG.fact 4 rfl) (aH.cons (aG.fact 5 rfl) (aH.cons (cI (aG.res 11 rfl) cU) (aH.cons (bG (i:=12) (j:=13) rfl rfl bN) (aH.cons (bG (i:=2) (j:=3) rfl rfl cU) .nil))))))) rfl fun x185=>aA rfl<|gB rfl<|gB rfl<|aF rfl<|aF rfl<|aP ?_
     exact jO (r183.2,r183.1) (x185) h SF rfl
    intro a98 b99 h
    unfold fZ at h
    refine aM<|aM<|pC (B:=Unit) (fun a101=>eZ r42 r65 a79 (bZ (cG U p2 r2 r11 z14 r19 z22 r42 r45 r48 r51 r54 r65) k81) a90 a98 a101=some r) (fun a101 b102=>[(7,vP b5),(8,vP b24),(9,vP b25),(12,x44.1),(13,x47.1),(14,x50.1),(15,vU (r51)),(16,vU (r54)),(17,vU (uV .u32 (G_ .u32 r51 r54) p2)),(18,x67.1),(20,vI (a79)),(21,vB (a90)),(23,b99),(193,vB (a101))]) (fun a101 b102=>[Ar cB b99 a98.2,Ar dH.raw x67.1 x67.2,fI cB x67.2 r65.1,Ar dH.raw x50.1 x50.2,fI cB x50.2 r48,Ar dH.raw x47.1 x47.2,fI cB x47.2 r45,Ar dH.raw x44.1 x44.2,fI cB x44.2 r42,cR b25 [vS (r19.1),x21a,x21b] 33,cR b24 [vS (r11.1),x13a,x13b] 33,cR b5 [x4.1,x4.2.1] 28,Ar cB x4.1 r2.1,Ar dH.raw x4.2.1 x4.2.2,fI bX x4.2.2 r2.2]) (fun a101 b102=>[Sl aD x32a r30.1.2.1,Sl aB x32b z33,PF (Value.agg #[vS r30.1.1,x32a,x32b]),Sl aD x21a r19.2.1,Sl aB x21b z22,PF (Value.agg #[vS r19.1,x21a,x21b]),PT r16 (Value.agg #[vS r19.1,x21a,x21b]),PP r8 r16 (Value.agg #[vS r11.1,x13a,x13b]) (Value.agg #[vS r19.1,x21a,x21b]),Sl aD x13a r11.2.1,Sl aB x13b z14,PF (Value.agg #[vS r11.1,x13a,x13b]),PT r8 (Value.agg #[vS r11.1,x13a,x13b]),Sl bT v0 p0.2.1,Sl bT v1 p0.2.2.1,Sl bT v2 p0.2.2.2.1,Sl bT v3 p1]) ?_ ?_
    ·refine JR.start [0,1,3,7,15,31,63,127,255,255,1023,2047,4095,8191,16383,32767,65535,65535,65535,458751,983039,2031615,4128767,65535,65535,25231359,58785791,125894655,260112383,536805375,1073741823,2147483647] 30 mixedOrders (by decide +kernel) ?_
     refine JR.open (by exact rfl) ?_
     refine bL rfl<|mP rfl (tF rfl rfl)<|bL rfl ?_
     refine sI (by exact rfl) (by exact rfl) (by exact rfl) (fun hp163=>?_) (fun hp163=>?_)
     ·have h:=Gi hp163 h
      refine aJ rfl rfl rfl rfl<|aJ rfl rfl rfl rfl<|aJ rfl rfl rfl rfl<|mP rfl (lS rfl rfl)<|bL rfl<|aJ rfl rfl rfl rfl<|aJ rfl rfl rfl rfl<|aJ rfl rfl rfl rfl<|aJ rfl rfl rfl rfl<|aJ rfl rfl rfl rfl<|aJ rfl rfl rfl rfl<|mP rfl (lS rfl rfl)<|bL rfl<|aJ rfl rfl rfl rfl<|aJ rfl rfl rfl rfl<|aJ rfl rfl rfl rfl<|aJ rfl rfl rfl rfl<|aJ rfl rfl rfl rfl<|aJ rfl rfl rfl rfl<|aJ rfl rfl rfl rfl<|aJ rfl rfl rfl rfl<|aJ rfl rfl rfl rfl<|aJ rfl rfl rfl rfl<|aJ rfl rfl rfl rfl<|aJ rfl rfl rfl rfl<|aJ rfl rfl rfl rfl<|aJ rfl rfl rfl rfl<|cD 30 rfl rfl<|aQ rfl<|iW rfl<|aP ?_
      exact jO (true) () h SF rfl
     have h:=OU hp163 h
     refine bK rfl .nil .nil (dM rfl) aI.z<|bK rfl (aT.cons 0 rfl .nil) .nil (kQ rfl (cI (aG.res 0 rfl) cU) rfl) aI.z<|bK rfl .nil .nil (tF rfl rfl) aI.z<|mP rfl (pW rfl rfl)<|bL rfl ?_
     refine sI (by exact rfl) (by exact rfl) (by exact rfl) (fun hp164=>?_) (fun hp164=>?_)
     ·have h:=Gi hp164 h
      refine aJ rfl rfl rfl rfl<|aJ rfl rfl rfl rfl<|aJ rfl rfl rfl rfl<|aJ rfl rfl rfl rfl<|aJ rfl rfl rfl rfl<|aJ rfl rfl rfl rfl<|mP rfl (lS rfl rfl)<|bL rfl<|aJ rfl rfl rfl rfl<|aJ rfl rfl rfl rfl<|aJ rfl rfl rfl rfl<|aJ rfl rfl rfl rfl<|aJ rfl rfl rfl rfl<|aJ rfl rfl rfl rfl<|aJ rfl rfl rfl rfl<|aJ rfl rfl rfl rfl<|aJ rfl rfl rfl rfl<|aJ rfl rfl rfl rfl<|aJ rfl rfl rfl rfl<|aJ rfl rfl rfl rfl<|aJ rfl rfl rfl rfl<|aJ rfl rfl rfl rfl<|cD 30 rfl rfl<|aQ rfl<|iW rfl<|aP ?_
      exact jO (true) () h SF rfl
     have h:=OU hp164 h
     refine bK rfl .nil .nil (dM rfl) aI.z<|bK rfl .nil .nil (dM rfl) aI.z<|eM h fun j165 h=>bU (bF 2 rfl) fun hl166=>?_
     refine bK rfl (aT.cons 1 rfl .nil) .nil (dC 0 rfl rfl rfl rfl rfl j165.1 (by have q1:=j165.2;have q2:=hl166;(try simp only[List.length_set]at q1);(try simp only[List.length_set]at q2);(try simp only[List.length_set]);omega)) aI.z ?_
     refine bU (bF 2 rfl) fun hl167=>bK rfl (aT.cons 1 rfl .nil) .nil (dA 0 rfl rfl hl167 rfl rfl j165) aI.z<|bK rfl (aT.cons 2 rfl .nil) .nil (kQ rfl (aG.row (j:=0) rfl cU j165.1 j165.2) rfl) aI.z<|bK rfl .nil .nil (tF rfl rfl) aI.z<|mP rfl (pW rfl rfl)<|bL rfl ?_
     refine sI (by exact rfl) (by exact rfl) (by exact rfl) (fun hp168=>?_) (fun hp168=>?_)
     ·have h:=Gi hp168 h
      refine aJ rfl rfl rfl rfl<|aJ rfl rfl rfl rfl<|aJ rfl rfl rfl rfl<|aJ rfl rfl rfl rfl<|aJ rfl rfl rfl rfl<|aJ rfl rfl rfl rfl<|aJ rfl rfl rfl rfl<|aJ rfl rfl rfl rfl<|aJ rfl rfl rfl rfl<|aJ rfl rfl rfl rfl<|aJ rfl rfl rfl rfl<|aJ rfl rfl rfl rfl<|aJ rfl rfl rfl rfl<|aJ rfl rfl rfl rfl<|cD 30 rfl rfl<|aQ rfl<|iW rfl<|aP ?_
      exact jO (true) () h SF rfl
     have h:=OU hp168 h
     refine bK rfl .nil .nil (dM rfl) aI.z<|bK rfl .nil .nil (dM rfl) aI.z<|bK rfl .nil .nil (dM rfl) aI.z<|eM h fun j169 h=>bU (bF 2 rfl) fun hl170=>?_
     refine bK rfl (aT.cons 1 rfl .nil) .nil (dC 0 rfl rfl rfl rfl rfl j169.1 (by have q1:=j169.2;have q2:=hl170;(try simp only[List.length_set]at q1);(try simp only[List.length_set]at q2);(try simp only[List.length_set]);omega)) aI.z ?_
     refine bU (bF 2 rfl) fun hl171=>bK rfl (aT.cons 1 rfl .nil) .nil (dA 0 rfl rfl hl171 rfl rfl j169) aI.z<|eM h fun j172 h=>bU (Know.len (aG.row (j:=2) rfl cU j169.1 j169.2)) fun hl173=>bK rfl .nil .nil (mC rfl rfl hl173 rfl rfl j172) aI.z<|bK rfl (aT.cons 2 rfl .nil) .nil (cF rfl (aG.row (j:=0) rfl cU j169.1 j169.2) rfl rfl rfl dJ j172) aI.z<|bK rfl .nil .nil (dM rfl) aI.z<|bK rfl .nil .nil (dM rfl) aI.z<|eM h fun j174 h=>bU (bF 8 rfl) fun hl175=>?_
     refine bK rfl (aT.cons 7 rfl .nil) .nil (dC 0 rfl rfl rfl rfl rfl j174.1 (by have q1:=j174.2;have q2:=hl175;(try simp only[List.length_set]at q1);(try simp only[List.length_set]at q2);(try simp only[List.length_set]);omega)) aI.z ?_
     refine bU (bF 8 rfl) fun hl176=>bK rfl (aT.cons 7 rfl .nil) .nil (dA 0 rfl rfl hl176 rfl rfl j174) aI.z<|eM h fun j177 h=>bU (Know.len (aG.row (j:=8) rfl cU j174.1 j174.2)) fun hl178=>bK rfl .nil .nil (mC rfl rfl hl178 rfl rfl j177) aI.z<|bK rfl (aT.cons 8 rfl .nil) .nil (cF rfl (aG.row (j:=0) rfl cU j174.1 j174.2) rfl rfl rfl dJ j177) aI.z<|bK rfl .nil .nil (tF rfl rfl) aI.z<|cD 30 rfl rfl<|aR rfl (NW rfl rfl rfl) rfl<|h_ rfl<|aP ?_
     exact jO ((a93 != (decide ((at' (at' r65.1 a79) (2:Int))≠(at' (at' r42 a79) (2:Int)))))) () h SF rfl
    intro a101 b102 h
    refine AQ h rfl (fun _ h=>?_) fun _ h=>?_
    ·refine aX<|aF rfl<|aP<|aW<|aL<|cA<|aL<|aL<|cA<|aL ?_
     cases h
     exact xC rfl
    refine eL<|aM<|pC (B:=Unit) (fun a105=>cT a79 (bZ (cG U p2 r2 r11 z14 r19 z22 r42 r45 r48 r51 r54 r65) k81) a105=some r) (fun a105 b106=>[(7,vP b5),(8,vP b24),(9,vP b25),(12,x44.1),(13,x47.1),(14,x50.1),(15,vU (r51)),(16,vU (r54)),(17,vU (uV .u32 (G_ .u32 r51 r54) p2)),(18,x67.1),(20,vI (a79)),(252,vB (a105))]) (fun a105 b106=>[Ar dH.raw x67.1 x67.2,fI cB x67.2 r65.1,Ar dH.raw x50.1 x50.2,fI cB x50.2 r48,Ar dH.raw x47.1 x47.2,fI cB x47.2 r45,Ar dH.raw x44.1 x44.2,fI cB x44.2 r42,cR b25 [vS (r19.1),x21a,x21b] 33,cR b24 [vS (r11.1),x13a,x13b] 33,cR b5 [x4.1,x4.2.1] 28,Ar cB x4.1 r2.1,Ar dH.raw x4.2.1 x4.2.2,fI bX x4.2.2 r2.2]) (fun a105 b106=>[Sl aD x32a r30.1.2.1,Sl aB x32b z33,PF (Value.agg #[vS r30.1.1,x32a,x32b]),Sl aD x21a r19.2.1,Sl aB x21b z22,PF (Value.agg #[vS r19.1,x21a,x21b]),PT r16 (Value.agg #[vS r19.1,x21a,x21b]),PP r8 r16 (Value.agg #[vS r11.1,x13a,x13b]) (Value.agg #[vS r19.1,x21a,x21b]),Sl aD x13a r11.2.1,Sl aB x13b z14,PF (Value.agg #[vS r11.1,x13a,x13b]),PT r8 (Value.agg #[vS r11.1,x13a,x13b]),Sl bT v0 p0.2.1,Sl bT v1 p0.2.2.1,Sl bT v2 p0.2.2.2.1,Sl bT v3 p1]) ?_ ?_
    ·refine JR.start [0,1,3,3,15,31,63,127,3,259,771,2047,4095,8191,8191,32767,65535,131071,262143,8191,8191,1581055,3678207,7872511,16261119,33554431,67108863,134217727,268435455,536870911,1073741823,2147483647,4294967295,4294967295,17179869183,34359738367,68719476735,137438953471,4294967295,279172874239,828928688127,2199023255551,4398046511103,8796093022207,8796093022207,35184372088831,70368744177663,140737488355327,281474976710655,8796093022207,8796093022207,1697645953286143,3949445766971391,8453045394341887,17460244649082879,36028797018963967,72057594037927935,144115188075855871,288230376151711743] 55 mixedOrders (by decide +kernel) ?_
     refine JR.open (by exact rfl) ?_
     refine bL rfl<|bL rfl ?_
     refine JR.guard (by exact rfl) (by exact rfl) (by exact rfl) (fun hp108=>?_) (fun hp108=>?_)
     ·have h:=Gi hp108 h
      refine bK rfl .nil .nil (dM rfl) aI.z<|bK rfl .nil .nil (dM rfl) aI.z<|eM h fun j109 h=>bU (bF 2 rfl) fun hl110=>?_
      refine bK rfl (aT.cons 1 rfl .nil) .nil (dC 0 rfl rfl rfl rfl rfl j109.1 (by have q1:=j109.2;have q2:=hl110;(try simp only[List.length_set]at q1);(try simp only[List.length_set]at q2);(try simp only[List.length_set]);omega)) aI.z ?_
      refine bU (bF 2 rfl) fun hl111=>bK rfl (aT.cons 1 rfl .nil) .nil (dA 0 rfl rfl hl111 rfl rfl j109) aI.z<|eM h fun j112 h=>bU (Know.len (aG.row (j:=2) rfl cU j109.1 j109.2)) fun hl113=>bK rfl .nil .nil (mC rfl rfl hl113 rfl rfl j112) aI.z<|bK rfl (aT.cons 2 rfl .nil) .nil (cF rfl (aG.row (j:=0) rfl cU j109.1 j109.2) rfl rfl rfl dJ j112) aI.z<|bK rfl .nil .nil (dM rfl) aI.z<|eM h fun j114 h=>bK rfl (aT.cons 0 rfl .nil) .nil (bQ rfl rfl (cI (aG.res 0 rfl) cU) rfl rfl j114) aI.z<|bK rfl (aT.cons 0 rfl .nil) .nil (cF rfl (cI (aG.res 0 rfl) cU) rfl rfl rfl dJ j114) aI.z<|bK rfl .nil .nil (tF rfl rfl) aI.z<|bK rfl .nil .nil (dM rfl) aI.z ?_
      refine sI (by exact rfl) (by exact rfl) (by exact rfl) (fun hp115=>?_) (fun hp115=>?_)
      ·have h:=Gi hp115 h
       refine aJ rfl rfl rfl rfl<|aJ rfl rfl rfl rfl<|aJ rfl rfl rfl rfl<|aJ rfl rfl rfl rfl<|aJ rfl rfl rfl rfl<|aJ rfl rfl rfl rfl<|aJ rfl rfl rfl rfl<|aJ rfl rfl rfl rfl<|aJ rfl rfl rfl rfl<|aJ rfl rfl rfl rfl<|aJ rfl rfl rfl rfl<|aJ rfl rfl rfl rfl<|aJ rfl rfl rfl rfl<|bK rfl .nil .nil (lS rfl rfl) aI.z<|mP rfl (lS rfl rfl)<|bL rfl<|aJ rfl rfl rfl rfl<|aJ rfl rfl rfl rfl<|aJ rfl rfl rfl rfl<|cK (h:= ?_)
       refine cK (h:= ?_)
       refine cK (h:= ?_)
       refine cK (h:= ?_)
       refine cK (h:= ?_)
       refine cK (h:= ?_)
       refine cK (h:= ?_)
       refine cK (h:= ?_)
       refine cK (h:= ?_)
       refine cK (h:= ?_)
       refine cK (h:= ?_)
       refine cK (h:= ?_)
       refine cK (h:= ?_)
       refine cK (h:= ?_)
       refine cK (h:= ?_)
       refine cK (h:= ?_)
       refine cK (h:= ?_)
       refine cK (h:= ?_)
       refine cK (h:= ?_)
       refine cK (h:= ?_)
       refine cK (h:= ?_)
       refine cK (h:= ?_)
       refine cK (h:= ?_)
       refine cD 55 rfl rfl<|zI (h:= ?_)
       refine zI (h:= ?_)
       refine aQ rfl<|iW rfl<|aP ?_
       exact dZ (true) () h SF (aT.ix [1,2,3,4,5,6,7,8,9,10,11,12,13,14] rfl rfl) (aH.refl _ _)
      have h:=OU hp115 h
      refine bK rfl .nil .nil (dM rfl) aI.z<|bK rfl .nil .nil (dM rfl) aI.z<|eM h fun j116 h=>bU (bF 2 rfl) fun hl117=>?_
      refine bK rfl (aT.cons 1 rfl .nil) .nil (dC 0 rfl rfl rfl rfl rfl j116.1 (by have q1:=j116.2;have q2:=hl117;(try simp only[List.length_set]at q1);(try simp only[List.length_set]at q2);(try simp only[List.length_set]);omega)) aI.z ?_
      refine bU (bF 2 rfl) fun hl118=>bK rfl (aT.cons 1 rfl .nil) .nil (dA 0 rfl rfl hl118 rfl rfl j116) aI.z<|eM h fun j119 h=>bU (Know.len (aG.row (j:=2) rfl cU j116.1 j116.2)) fun hl120=>bK rfl .nil .nil (mC rfl rfl hl120 rfl rfl j119) aI.z<|bK rfl (aT.cons 2 rfl .nil) .nil (cF rfl (aG.row (j:=0) rfl cU j116.1 j116.2) rfl rfl rfl dJ j119) aI.z<|bK rfl .nil .nil (dM rfl) aI.z<|bK rfl .nil .nil (dM rfl) aI.z<|eM h fun j121 h=>bU (bF 8 rfl) fun hl122=>?_
      refine bK rfl (aT.cons 7 rfl .nil) .nil (dC 0 rfl rfl rfl rfl rfl j121.1 (by have q1:=j121.2;have q2:=hl122;(try simp only[List.length_set]at q1);(try simp only[List.length_set]at q2);(try simp only[List.length_set]);omega)) aI.z ?_
      refine bU (bF 8 rfl) fun hl123=>bK rfl (aT.cons 7 rfl .nil) .nil (dA 0 rfl rfl hl123 rfl rfl j121) aI.z<|eM h fun j124 h=>bU (Know.len (aG.row (j:=8) rfl cU j121.1 j121.2)) fun hl125=>bK rfl .nil .nil (mC rfl rfl hl125 rfl rfl j124) aI.z<|bK rfl (aT.cons 8 rfl .nil) .nil (cF rfl (aG.row (j:=0) rfl cU j121.1 j121.2) rfl rfl rfl dJ j124) aI.z<|bK rfl .nil .nil (tF rfl rfl) aI.z<|bK rfl .nil .nil (pW rfl rfl) aI.z<|mP rfl (lS rfl rfl)<|bL rfl ?_
      refine sI (by exact rfl) (by exact rfl) (by exact rfl) (fun hp126=>?_) (fun hp126=>?_)
      ·have h:=Gi hp126 h
       refine aJ rfl rfl rfl rfl<|aJ rfl rfl rfl rfl<|aJ rfl rfl rfl rfl<|cK (h:= ?_)
       refine cK (h:= ?_)
       refine cK (h:= ?_)
       refine cK (h:= ?_)
       refine cK (h:= ?_)
       refine cK (h:= ?_)
       refine cK (h:= ?_)
       refine cK (h:= ?_)
       refine cK (h:= ?_)
       refine cK (h:= ?_)
       refine cK (h:= ?_)
       refine cK (h:= ?_)
       refine cK (h:= ?_)
       refine cK (h:= ?_)
       refine cK (h:= ?_)
       refine cK (h:= ?_)
       refine cK (h:= ?_)
       refine cK (h:= ?_)
       refine cK (h:= ?_)
       refine cK (h:= ?_)
       refine cK (h:= ?_)
       refine cK (h:= ?_)
       refine cK (h:= ?_)
       refine cD 55 rfl rfl<|zI (h:= ?_)
       refine zI (h:= ?_)
       refine aQ rfl<|iW rfl<|aP ?_
       exact dZ (true) () h SF (aT.ix [1,2,3,4,5,6,7,8,9,10,11,12,13,14] rfl rfl) (aH.refl _ _)
      have h:=OU hp126 h
      refine bK rfl .nil .nil (dM rfl) aI.z<|bK rfl .nil .nil (yZ rfl) aI.z<|bK rfl .nil .nil (dM rfl) aI.z ?_
      refine JR.guard (by exact rfl) (by exact rfl) (by exact rfl) (fun hp127=>?_) (fun hp127=>?_)
      ·have h:=Gi hp127 h
       refine bK rfl .nil .nil (dM rfl) aI.z<|bK rfl .nil .nil (dM rfl) aI.z<|eM h fun j128 h=>bU (bF 2 rfl) fun hl129=>?_
       refine bK rfl (aT.cons 1 rfl .nil) .nil (dC 0 rfl rfl rfl rfl rfl j128.1 (by have q1:=j128.2;have q2:=hl129;(try simp only[List.length_set]at q1);(try simp only[List.length_set]at q2);(try simp only[List.length_set]);omega)) aI.z ?_
       refine bU (bF 2 rfl) fun hl130=>bK rfl (aT.cons 1 rfl .nil) .nil (dA 0 rfl rfl hl130 rfl rfl j128) aI.z<|eM h fun j131 h=>bU (Know.len (aG.row (j:=2) rfl cU j128.1 j128.2)) fun hl132=>bK rfl .nil .nil (mC rfl rfl hl132 rfl rfl j131) aI.z<|bK rfl (aT.cons 2 rfl .nil) .nil (cF rfl (aG.row (j:=0) rfl cU j128.1 j128.2) rfl rfl rfl dJ j131) aI.z<|bK rfl .nil .nil (dM rfl) aI.z<|eM h fun j133 h=>bK rfl (aT.cons 0 rfl .nil) .nil (bQ rfl rfl (cI (aG.res 0 rfl) cU) rfl rfl j133) aI.z<|bK rfl (aT.cons 0 rfl .nil) .nil (cF rfl (cI (aG.res 0 rfl) cU) rfl rfl rfl dJ j133) aI.z<|bK rfl .nil .nil (tF rfl rfl) aI.z<|bK rfl .nil .nil (dM rfl) aI.z ?_
       refine sI (by exact rfl) (by exact rfl) (by exact rfl) (fun hp134=>?_) (fun hp134=>?_)
       ·have h:=Gi hp134 h
        refine aJ rfl rfl rfl rfl<|aJ rfl rfl rfl rfl<|aJ rfl rfl rfl rfl<|aJ rfl rfl rfl rfl<|aJ rfl rfl rfl rfl<|aJ rfl rfl rfl rfl<|aJ rfl rfl rfl rfl<|aJ rfl rfl rfl rfl<|aJ rfl rfl rfl rfl<|aJ rfl rfl rfl rfl<|aJ rfl rfl rfl rfl<|aJ rfl rfl rfl rfl<|cD 55 rfl rfl<|aQ rfl<|aR rfl (lS rfl rfl) rfl<|aR rfl (lS rfl rfl) rfl<|h_ rfl<|aP ?_
        exact dZ (true) () h SF (aT.ix [1,2,3,4,5,6,7,8,9,10,11,12,13,14] rfl rfl) (aH.refl _ _)
       have h:=OU hp134 h
       refine bK rfl .nil .nil (dM rfl) aI.z<|bK rfl .nil .nil (dM rfl) aI.z<|eM h fun j135 h=>bU (bF 2 rfl) fun hl136=>?_
       refine bK rfl (aT.cons 1 rfl .nil) .nil (dC 0 rfl rfl rfl rfl rfl j135.1 (by have q1:=j135.2;have q2:=hl136;(try simp only[List.length_set]at q1);(try simp only[List.length_set]at q2);(try simp only[List.length_set]);omega)) aI.z ?_
       refine bU (bF 2 rfl) fun hl137=>bK rfl (aT.cons 1 rfl .nil) .nil (dA 0 rfl rfl hl137 rfl rfl j135) aI.z<|eM h fun j138 h=>bU (Know.len (aG.row (j:=2) rfl cU j135.1 j135.2)) fun hl139=>bK rfl .nil .nil (mC rfl rfl hl139 rfl rfl j138) aI.z<|bK rfl (aT.cons 2 rfl .nil) .nil (cF rfl (aG.row (j:=0) rfl cU j135.1 j135.2) rfl rfl rfl dJ j138) aI.z<|bK rfl .nil .nil (dM rfl) aI.z<|bK rfl .nil .nil (dM rfl) aI.z<|eM h fun j140 h=>bU (bF 8 rfl) fun hl141=>?_
       refine bK rfl (aT.cons 7 rfl .nil) .nil (dC 0 rfl rfl rfl rfl rfl j140.1 (by have q1:=j140.2;have q2:=hl141;(try simp only[List.length_set]at q1);(try simp only[List.length_set]at q2);(try simp only[List.length_set]);omega)) aI.z ?_
       refine bU (bF 8 rfl) fun hl142=>bK rfl (aT.cons 7 rfl .nil) .nil (dA 0 rfl rfl hl142 rfl rfl j140) aI.z<|eM h fun j143 h=>bU (Know.len (aG.row (j:=8) rfl cU j140.1 j140.2)) fun hl144=>bK rfl .nil .nil (mC rfl rfl hl144 rfl rfl j143) aI.z<|bK rfl (aT.cons 8 rfl .nil) .nil (cF rfl (aG.row (j:=0) rfl cU j140.1 j140.2) rfl rfl rfl dJ j143) aI.z<|cD 55 rfl rfl<|aR rfl (tF rfl rfl) rfl<|aR rfl (pW rfl rfl) rfl<|aR rfl (lS rfl rfl) rfl<|h_ rfl<|aP ?_
       exact dZ (decide ((at' (at' r65.1 a79) (0:Int))≠(at' (at' r42 a79) (0:Int)))) () h SF (aT.ix [1,2,3,4,5,6,7,8,9,10,11,12,13,14] rfl rfl) (aH.refl _ _)
      have h:=Hm hp127 h
      refine aJ rfl rfl rfl rfl<|aJ rfl rfl rfl rfl<|aJ rfl rfl rfl rfl<|aJ rfl rfl rfl rfl<|aJ rfl rfl rfl rfl<|aJ rfl rfl rfl rfl<|aJ rfl rfl rfl rfl<|aJ rfl rfl rfl rfl<|aJ rfl rfl rfl rfl<|aJ rfl rfl rfl rfl<|aJ rfl rfl rfl rfl<|cK (h:= ?_)
      refine cK (h:= ?_)
      refine cK (h:= ?_)
      refine cK (h:= ?_)
      refine cK (h:= ?_)
      refine cK (h:= ?_)
      refine cK (h:= ?_)
      refine cK (h:= ?_)
      refine cK (h:= ?_)
      refine cK (h:= ?_)
      refine cK (h:= ?_)
      refine cK (h:= ?_)
      refine cD 55 rfl rfl<|zI (h:= ?_)
      refine aQ rfl<|aR rfl (pW rfl rfl) rfl<|h_ rfl<|aP ?_
      exact dZ (false) () h SF (aT.ix [1,2,3,4,5,6,7,8,9,10,11,12,13,14] rfl rfl) (aH.refl _ _)
     have h:=Hm hp108 h
     refine aJ rfl rfl rfl rfl<|aJ rfl rfl rfl rfl<|aJ rfl rfl rfl rfl<|aJ rfl rfl rfl rfl<|aJ rfl rfl rfl rfl<|aJ rfl rfl rfl rfl<|aJ rfl rfl rfl rfl<|aJ rfl rfl rfl rfl<|aJ rfl rfl rfl rfl<|aJ rfl rfl rfl rfl<|aJ rfl rfl rfl rfl<|cK (h:= ?_)
     refine cK (h:= ?_)
     refine cK (h:= ?_)
     refine cK (h:= ?_)
     refine cK (h:= ?_)
     refine cK (h:= ?_)
     refine cK (h:= ?_)
     refine cK (h:= ?_)
     refine cK (h:= ?_)
     refine cK (h:= ?_)
     refine cK (h:= ?_)
     refine cK (h:= ?_)
     refine cK (h:= ?_)
     refine aJ rfl rfl rfl rfl<|mP rfl (pW rfl rfl)<|bL rfl<|bK rfl .nil .nil (dM rfl) aI.z<|bK rfl .nil .nil (yZ rfl) aI.z<|bK rfl .nil .nil (dM rfl) aI.z ?_
     refine JR.guard (by exact rfl) (by exact rfl) (by exact rfl) (fun hp145=>?_) (fun hp145=>?_)
     ·have h:=Gi hp145 h
      refine bK rfl .nil .nil (dM rfl) aI.z<|bK rfl .nil .nil (dM rfl) aI.z<|eM h fun j146 h=>bU (bF 2 rfl) fun hl147=>?_
      refine bK rfl (aT.cons 1 rfl .nil) .nil (dC 0 rfl rfl rfl rfl rfl j146.1 (by have q1:=j146.2;have q2:=hl147;(try simp only[List.length_set]at q1);(try simp only[List.length_set]at q2);(try simp only[List.length_set]);omega)) aI.z ?_
      refine bU (bF 2 rfl) fun hl148=>bK rfl (aT.cons 1 rfl .nil) .nil (dA 0 rfl rfl hl148 rfl rfl j146) aI.z<|eM h fun j149 h=>bU (Know.len (aG.row (j:=2) rfl cU j146.1 j146.2)) fun hl150=>bK rfl .nil .nil (mC rfl rfl hl150 rfl rfl j149) aI.z<|bK rfl (aT.cons 2 rfl .nil) .nil (cF rfl (aG.row (j:=0) rfl cU j146.1 j146.2) rfl rfl rfl dJ j149) aI.z<|bK rfl .nil .nil (dM rfl) aI.z<|eM h fun j151 h=>bK rfl (aT.cons 0 rfl .nil) .nil (bQ rfl rfl (cI (aG.res 0 rfl) cU) rfl rfl j151) aI.z<|bK rfl (aT.cons 0 rfl .nil) .nil (cF rfl (cI (aG.res 0 rfl) cU) rfl rfl rfl dJ j151) aI.z<|bK rfl .nil .nil (tF rfl rfl) aI.z<|bK rfl .nil .nil (dM rfl) aI.z ?_
      refine sI (by exact rfl) (by exact rfl) (by exact rfl) (fun hp152=>?_) (fun hp152=>?_)
      ·have h:=Gi hp152 h
       refine aJ rfl rfl rfl rfl<|aJ rfl rfl rfl rfl<|aJ rfl rfl rfl rfl<|aJ rfl rfl rfl rfl<|aJ rfl rfl rfl rfl<|aJ rfl rfl rfl rfl<|aJ rfl rfl rfl rfl<|aJ rfl rfl rfl rfl<|aJ rfl rfl rfl rfl<|aJ rfl rfl rfl rfl<|aJ rfl rfl rfl rfl<|aJ rfl rfl rfl rfl<|cD 55 rfl rfl<|aQ rfl<|aR rfl (lS rfl rfl) rfl<|aR rfl (lS rfl rfl) rfl<|h_ rfl<|aP ?_
       exact dZ (true) () h SF (aT.ix [1,2,3,4,5,6,7,8,9,10,11,12,13,14] rfl rfl) (aH.refl _ _)
      have h:=OU hp152 h
      refine bK rfl .nil .nil (dM rfl) aI.z<|bK rfl .nil .nil (dM rfl) aI.z<|eM h fun j153 h=>bU (bF 2 rfl) fun hl154=>?_
      refine bK rfl (aT.cons 1 rfl .nil) .nil (dC 0 rfl rfl rfl rfl rfl j153.1 (by have q1:=j153.2;have q2:=hl154;(try simp only[List.length_set]at q1);(try simp only[List.length_set]at q2);(try simp only[List.length_set]);omega)) aI.z ?_
      refine bU (bF 2 rfl) fun hl155=>bK rfl (aT.cons 1 rfl .nil) .nil (dA 0 rfl rfl hl155 rfl rfl j153) aI.z<|eM h fun j156 h=>bU (Know.len (aG.row (j:=2) rfl cU j153.1 j153.2)) fun hl157=>bK rfl .nil .nil (mC rfl rfl hl157 rfl rfl j156) aI.z<|bK rfl (aT.cons 2 rfl .nil) .nil (cF rfl (aG.row (j:=0) rfl cU j153.1 j153.2) rfl rfl rfl dJ j156) aI.z<|bK rfl .nil .nil (dM rfl) aI.z<|bK rfl .nil .nil (dM rfl) aI.z<|eM h fun j158 h=>bU (bF 8 rfl) fun hl159=>?_
      refine bK rfl (aT.cons 7 rfl .nil) .nil (dC 0 rfl rfl rfl rfl rfl j158.1 (by have q1:=j158.2;have q2:=hl159;(try simp only[List.length_set]at q1);(try simp only[List.length_set]at q2);(try simp only[List.length_set]);omega)) aI.z ?_
      refine bU (bF 8 rfl) fun hl160=>bK rfl (aT.cons 7 rfl .nil) .nil (dA 0 rfl rfl hl160 rfl rfl j158) aI.z<|eM h fun j161 h=>bU (Know.len (aG.row (j:=8) rfl cU j158.1 j158.2)) fun hl162=>bK rfl .nil .nil (mC rfl rfl hl162 rfl rfl j161) aI.z<|bK rfl (aT.cons 8 rfl .nil) .nil (cF rfl (aG.row (j:=0) rfl cU j158.1 j158.2) rfl rfl rfl dJ j161) aI.z<|cD 55 rfl rfl<|aR rfl (tF rfl rfl) rfl<|aR rfl (pW rfl rfl) rfl<|aR rfl (lS rfl rfl) rfl<|h_ rfl<|aP ?_
      exact dZ (decide ((at' (at' r65.1 a79) (0:Int))≠(at' (at' r42 a79) (0:Int)))) () h SF (aT.ix [1,2,3,4,5,6,7,8,9,10,11,12,13,14] rfl rfl) (aH.refl _ _)
     have h:=Hm hp145 h
     refine aJ rfl rfl rfl rfl<|aJ rfl rfl rfl rfl<|aJ rfl rfl rfl rfl<|aJ rfl rfl rfl rfl<|aJ rfl rfl rfl rfl<|aJ rfl rfl rfl rfl<|aJ rfl rfl rfl rfl<|aJ rfl rfl rfl rfl<|aJ rfl rfl rfl rfl<|aJ rfl rfl rfl rfl<|aJ rfl rfl rfl rfl<|cK (h:= ?_)
     refine cK (h:= ?_)
     refine cK (h:= ?_)
     refine cK (h:= ?_)
     refine cK (h:= ?_)
     refine cK (h:= ?_)
     refine cK (h:= ?_)
     refine cK (h:= ?_)
     refine cK (h:= ?_)
     refine cK (h:= ?_)
     refine cK (h:= ?_)
     refine cK (h:= ?_)
     refine cD 55 rfl rfl<|zI (h:= ?_)
     refine aQ rfl<|aR rfl (pW rfl rfl) rfl<|h_ rfl<|aP ?_
     exact dZ (false) () h SF (aT.ix [1,2,3,4,5,6,7,8,9,10,11,12,13,14] rfl rfl) (aH.refl _ _)
    intro a105 b106 h
    refine AQ h rfl (fun _ h=>?_) fun _ h=>?_
    ·refine aX<|aF rfl<|aP<|aW<|cA<|aL<|aL<|cA<|aL ?_
     cases h
     exact xC rfl
    refine f_<|qB ?_
    exact jO () (()) h SF rfl
   intro a83 b84 h
   unfold fY at h
   refine aS<|aA rfl<|eC rfl<|aF rfl<|aP ?_
   exact BF (wI .i64 (a79+(1:Int))) () h SF rfl
  refine iV ?_
  exact dZ () (()) h SF .nil (aH.refl _ _)
 intro a72 b73 h
 refine aX<|gK h fun r74 w75 h=>aK (aN.callQ Kj (Be U  r74 w75) rfl .nil) rfl fun x76=>aF rfl<|aP<|aW ?_
 cases h
 exact mN rfl
end Go.Proofs.YtlciiihigmgaiaaGreat
end
section
namespace Go.Proofs.YtlciiihigmgaiaaGreat
open Go Go.Sx
theorem WB:lO 1000 0=some pL:=by unfold lO;rw[bR (nM 0 4 (by omega) (by omega))];rfl
theorem WC:lO 1000 3=some pM:=by unfold lO;rw[bR (nM 3 4 (by omega) (by omega))];rfl
theorem VH:lX 1000 pL pM=some ((C_,By,AF),0):=if_pos ⟨rfl,rfl⟩
theorem Wk:∀l:bW,l.length=3->rY 1 l 3=l.take 1:=fun l h=>by
 match l,h with
 | [a,b,c],_=>rw[rY,rY,rY,if_neg (by decide),if_neg (by decide),if_pos (by decide)];rfl
section
variable {g:GR} {c:List (List Int)}
theorem SG (hc:JV g c sT):JV g (oI 1 c) Fu:=PV hc rfl (by decide) fun x hx=>by
 obtain rfl:x=0:=by omega
 rfl
theorem SH (hc:JV g c sT):JV g (AI c) DG:=by
 have hl:=hc.len
 refine⟨by simpa [AI]using hl,fun v hv=> ?_,fun v hv x hx=> ?_⟩
 ·rw[HJ (by omega)];rfl
 ·obtain rfl:x=0:=by simpa [DG]using hx
  have:=hc.ok v hv 1 (by decide)
  have e:val (AI c) v 0=val c v 1:=by
   show at' (at' (AI c) (v:Int)) 0=at' (at' c (v:Int)) 1
   rw[HJ (by omega)];rfl
  rw[e];exact this
theorem Ya (p qa qb:uA) (hV:VG g) (hc:JV g c sT):JE (bV p g) RT c=JE (bV qa g) RU (oI 1 c) ||| JE (bV qb g) RF (AI c):=LD fun v=>by
 rw[Nat.testBit_or,yE,yE,yE]
 show(decide (v<g.2.length)&&_)=((decide (v<g.2.length)&&_)||(decide (v<g.2.length)&&_))
 by_cases hv:v<g.2.length
 ·rw[decide_eq_true hv,Bool.true_and,Bool.true_and,Bool.true_and,Qa p qa qb hV hc.shape hv,Qb,P_]
  cases EX qa g c v<;>cases BH qb g c v<;>by_cases h:at' (at' c (v:Int)) 2=0<;>simp[h]
 ·rw[decide_eq_false hv];rfl
end
theorem KS (x:JQ) (raw:List Int) (p2:Int) (h0:0<=p2) (h1:p2<4294967296):oC 1000 x raw p2=some true:=by
 obtain⟨wish,rfl⟩:∃d:Nat,p2=d:=⟨p2.toNat,by omega⟩
 have hw:wish<4294967296:=by omega
 obtain⟨g,hg,hVM,hn⟩:=TY x 7 (by omega) (by omega)
 have hV:VG g:=hVM.vg
 have h24:=hV.n24
 unfold oC
 rw[show lD 1000 (x.1,x.2.1,x.2.2.1,x.2.2.2.1,x.2.2.2.2.1,x.2.2.2.2.2) 7=some g from hg,bR rfl,bR WB,bR (PK 1000)]
 refine GX fun za hza=> ?_
 rw[bR WC,bR (PL 1000)]
 refine GX fun zb hzb=> ?_
 rw[bR VH]
 refine GX fun zp hzp=> ?_
 have hza:za.map kS=Br RU:=hza
 have hzb:zb.map kS=Br RF:=hzb
 have hzp:zp.map kS=Br RT:=hzp
 let pa:uA:=(sP,Fu,za)
 let pb:uA:=(sQ,DG,zb)
 let pp:uA:=(C_,sT,zp)
 obtain⟨c,hc,hcR⟩:=MG hV sT raw (by decide) (Tc UX)
 have hl:=hcR.len
 have hone:=SG hcR
 have htwo:=SH hcR
 have p1:fD 1000 c 1=some (oI 1 c):=IW (m:=1) (k:=1) hV hcR.shape (by decide) (by omega) Wk
 have p2:fD 1000 c 2=some (AI c):=IX hV hcR.shape
 let A:=JE (bV pa g) RU (oI 1 c)
 let B:=JE (bV pb g) RF (AI c)
 have ea:gV 1000 pa g (oI 1 c)=some ((A:Nat):Int):=vO (p:=pa) hV (uS okU) hza LW hone
 have eb:gV 1000 pb g (AI c)=some ((B:Nat):Int):=vO (p:=pb) hV (uS Wn) hzb LU htwo
 have ep:gV 1000 pp g c=some ((A ||| B:Nat):Int):=by
  rw[<-Ya pp pa pb hV hcR]
  exact vO (p:=pp) hV (uS UX) hzp LV hcR
 have hA:A<4294967296:=Kq (S:=bV pa g) hV RU _
 have hB:B<4294967296:=Kq (S:=bV pb g) hV RF _
 have hAB:A ||| B<4294967296:=Wo hA hB
 have bA:∀v,v<g.2.length->A.testBit v=EX pa g c v:=fun v hv=>by
  show(JE (bV pa g) RU (oI 1 c)).testBit v=_
  rw[yE,decide_eq_true (show v<(bV pa g).2.1.2.length from hv),Bool.true_and,Qb]
  cases EX pa g c v<;>rfl
 have bB:∀v,v<g.2.length->B.testBit v=BH pb g c v:=fun v hv=>by
  show(JE (bV pb g) RF (AI c)).testBit v=_
  rw[yE,decide_eq_true (show v<(bV pb g).2.1.2.length from hv),Bool.true_and,P_]
  cases BH pb g c v<;>rfl
 dsimp only
 rw[if_neg (by decide),decide_eq_false (show¬((List.length By:Nat):Int)≠3 by decide)]
 unfold kN
 rw[if_neg (by decide)]
 refine(bR (show kD 1000 (g.1,g.2) sT raw=some c from hc)).trans ?_
 rw[bR p1,bR p2]
 refine(bR ea).trans ?_
 refine(bR eb).trans ?_
 refine(bR ep).trans ?_
 rw[Ub hA hB,if_neg (by simp),Ti hAB hw]
 let set:=(A ||| B) &&& wish
 have hset:set<4294967296:=TX hAB
 by_cases hs0:set=0
 ·rw[if_pos (by show((set:Nat):Int)=0;omega)]
  rfl
 have hsub:∀v,set.testBit v=true->v<g.2.length∧(EX pa g c v=true∨BH pb g c v=true):=fun v hv=>by
  have hv:((A ||| B) &&& wish).testBit v=true:=hv
  rw[Nat.testBit_and,Bool.and_eq_true]at hv
  have h:=hv.1
  have hv':v<g.2.length:=by
   have:(JE (bV pp g) RT c).testBit v=true:=by rw[Ya pp pa pb hV hcR];exact h
   rw[yE,Bool.and_eq_true,decide_eq_true_eq]at this
   exact this.1
  rw[Nat.testBit_or,Bool.or_eq_true,bA v hv',bB v hv']at h
  exact⟨hv',h⟩
 have hst:tJ 1000 pp g c ((set:Nat):Int)=some (rA (bV pp g) sT RT c set,0):=Jj (p:=pp) hV (uS UX) hzp LV hcR hs0 hset fun v hv=>by
  rw[Ya pp pa pb hV hcR]
  have hv:((A ||| B) &&& wish).testBit v=true:=hv
  rw[Nat.testBit_and,Bool.and_eq_true]at hv
  exact hv.1
 rw[if_neg (by show¬((set:Nat):Int)=0;omega)]
 refine(bR hst).trans ?_
 have hdl:(rA (bV pp g) sT RT c set).length=c.length:=Gv
 dsimp only
 rw[if_neg (by decide),decide_eq_false (by rw[hdl];simp)]
 unfold kO
 rw[if_neg (by decide)]
 let st:=cG 1000 (wish:Int) g (sP,sR,qG) za (sQ,sS,qH) zb c (oI 1 c) (AI c) ((A:Nat):Int) ((B:Nat):Int) (rA (bV pp g) sT RT c set,0)
 show bZ st 1000 (0:Int)=some true
 refine dR (step:=st) c.length (fun v=>(v:Int)) (fun v ag hv=> ?_) (fun ag=> ?_) 1000 (by omega)
 ·have hv':v<g.2.length:=by omega
  show cG 1000 (wish:Int) g (sP,sR,qG) za (sQ,sS,qH) zb c (oI 1 c) (AI c) ((A:Nat):Int) ((B:Nat):Int) (rA (bV pp g) sT RT c set,0) (v:Int) ag=_
  unfold cG
  rw[if_pos (by omega),Ub hA hB,Ti hAB hw,bR (Kh 1000 hset (by omega))]
  have hk4:fY (v:Int) ag ()=ag ((v+1:Nat):Int):=by
   unfold fY
   rw[fG (by omega)]
  cases hb:set.testBit v with
  |false=>rw[if_pos (by decide)];exact hk4
  | true =>
   obtain⟨_,hon⟩:=hsub v hb
   obtain⟨x,y,t,hr,ht,ht1,ht2⟩:=Nn (p:=pp) pa pb hV hcR hv' hon
   have hd:at' (rA (bV pp g) sT RT c set) (v:Int)=pR (bV pp g) sT RT c v (oJ (bV pp g) RT c v):=by rw[Qj hv,if_pos hb]
   have hdl':(rA (bV pp g) sT RT c set).length=c.length:=Gv
   rw[if_neg (by decide),bR (Kh 1000 hA (by omega)),bA v hv',bR (Kh 1000 hB (by omega)),bB v hv']
   have c1:0<=(v:Int)∧(v:Int)<(c.length:Int):=by omega
   have c3:0<=(2:Int)∧(2:Int)<((at' c (v:Int)).length:Int):=by rw[hr];simp
   have e2:at' (at' c (v:Int)) 2=t:=by rw[hr];rfl
   -- the second half,when it is clear who moves
   have fin1:EX pa g c v=true∧(t=0∨BH pb g c v=false)->dV 1000 g (sP,sR,qG) za (sQ,sS,qH) zb c (oI 1 c) (AI c) (rA (bV pp g) sT RT c set,0) (v:Int) ag true=ag ((v+1:Nat):Int):=fun h=>by
    obtain⟨x',t',m1,m2,m3⟩:=ht1 h
    rw[m1]at hd
    have hru:oJ (bV pa g) RU (oI 1 c) v=((0:Nat):Int):=by rw[Qb,if_pos h.1];rfl
    have hmv:oE 1000 (sP,sR,za) (g.1,g.2) (oI 1 c) (v:Int)=some ([x'],0):=(Ds (p:=pa) hV (uS okU) hza LW hone hv' (i:=0) (by decide) hru).trans (by rw[show pR (bV pa g) pa.2.1 RU (oI 1 c) v ((0:Nat):Int)=[x']from m2])
    have key:dW 1000 g (sP,sR,qG) za (sQ,sS,qH) zb c (oI 1 c) (AI c) (rA (bV pp g) sT RT c set,0) (v:Int) ag true (decide (t=0))=ag ((v+1:Nat):Int):=by
     have d3:0<=(v:Int)∧(v:Int)<((rA (bV pp g) sT RT c set).length:Int):=by omega
     unfold dW
     rw[if_pos rfl,bR hmv]
     unfold fZ
     dsimp only
     rw[if_neg (by decide),if_neg (by simp),eB d3,hd,if_neg (by simp),eB d3,eB (by simp),eB c1,eB c3,e2]
     have e3:(decide (t=0) != decide (at' [x',y,t'] 2≠t))=false:=by
      have:at' [x',y,t'] 2=t':=rfl
      rw[this]
      by_cases q:t=0
      ·rw[decide_eq_true q,decide_eq_true (m3.2 q)];rfl
      ·rw[decide_eq_false q,decide_eq_false (fun w=>q (m3.1 w))];rfl
     rw[e3]
     unfold eZ
     rw[if_neg (by decide),if_pos rfl]
     dsimp only
     rw[eB d3,hd,eB (by simp),eB (by simp),if_neg (by simp[at']),eB d3,eB (by simp),eB c1,eB (by rw[hr];simp),hr,if_neg (by simp[at']),if_neg (by decide)]
     unfold cT
     rw[if_neg (by decide)]
     exact hk4
    unfold dV
    rw[if_pos rfl,eB c1,eB c3,e2]
    by_cases q:t=0
    ·rw[if_pos q]
     rw[decide_eq_true q]at key
     exact key
    ·rw[if_neg q,if_neg (by decide)]
     rw[decide_eq_false q]at key
     exact key
   have fin2:¬(EX pa g c v=true∧(t=0∨BH pb g c v=false))->dV 1000 g (sP,sR,qG) za (sQ,sS,qH) zb c (oI 1 c) (AI c) (rA (bV pp g) sT RT c set,0) (v:Int) ag false=ag ((v+1:Nat):Int):=fun h=>by
    obtain⟨y',t',m1,m2,m3⟩:=ht2 h
    rw[m1]at hd
    have hBt:BH pb g c v=true:=by
     cases hx:BH pb g c v with
     |true=>rfl
     |false=>
      rcases hon with q|q
      ·exact absurd ⟨q,.inr hx⟩ h
      ·rw[hx]at q;cases q
    have hru:oJ (bV pb g) RF (AI c) v=((0:Nat):Int):=by rw[P_,if_pos hBt];rfl
    have hmv:oE 1000 (sQ,sS,zb) (g.1,g.2) (AI c) (v:Int)=some ([y'],0):=(Ds (p:=pb) hV (uS Wn) hzb LU htwo hv' (i:=0) (by decide) hru).trans (by rw[show pR (bV pb g) pb.2.1 RF (AI c) v ((0:Nat):Int)=[y']from m2])
    have d3:0<=(v:Int)∧(v:Int)<((rA (bV pp g) sT RT c set).length:Int):=by omega
    unfold dV
    rw[if_neg (by decide),if_pos (by decide),eB c1,eB c3,e2]
    unfold dW
    rw[if_neg (by decide),bR hmv]
    unfold fZ
    dsimp only
    rw[if_neg (by decide),if_neg (by simp),eB d3,hd,if_neg (by simp),eB d3,eB (by simp),eB c1,eB c3,e2]
    have e3:(decide (t=1) != decide (at' [x,y',t'] 2≠t))=false:=by
     have:at' [x,y',t'] 2=t':=rfl
     rw[this]
     by_cases q:t=1
     ·rw[decide_eq_true q,decide_eq_true (m3.2 q)];rfl
     ·rw[decide_eq_false q,decide_eq_false (fun w=>q (m3.1 w))];rfl
    rw[e3]
    unfold eZ
    rw[if_neg (by decide),if_neg (by decide),if_pos (by decide)]
    dsimp only
    rw[eB d3,hd,eB (by simp),eB (by simp),if_neg (by simp[at']),eB d3,eB (by simp),eB c1,eB (by rw[hr];simp),hr]
    unfold cT
    rw[decide_eq_false (by simp[at']),if_neg (by decide)]
    exact hk4
   cases hxa:EX pa g c v with
   |false=>
    rw[if_neg (by decide)]
    exact fin2 (fun q=>by rw[hxa]at q;exact absurd q.1 (by decide))
   | true =>
    rw[if_pos rfl,eB c1,eB c3,e2]
    by_cases q:t=0
    ·rw[if_pos q]
     exact fin1 ⟨hxa,.inl q⟩
    ·rw[if_neg q]
     cases hxb:BH pb g c v with
     |false=>exact fin1 ⟨hxa,.inr hxb⟩
     |true=>exact fin2 (fun w=>by rcases w.2 with w|w;exact q w;rw[hxb]at w;cases w)
 ·show cG 1000 (wish:Int) g (sP,sR,qG) za (sQ,sS,qH) zb c (oI 1 c) (AI c) ((A:Nat):Int) ((B:Nat):Int) (rA (bV pp g) sT RT c set,0) ((c.length:Nat):Int) ag=_
  unfold cG
  rw[if_neg (by omega)]
  rfl
end Go.Proofs.YtlciiihigmgaiaaGreat
end
section
namespace Go.Sx
open Go.RowKit Go.ChangeShapes Go.WideShapes Go.ChangeAt Go.Proofs Go.Joins Go.Deep
section
variable {H:Type} {enc:TypeId×Value->H} {P:Program} {w:World} {base:Nat} {spare:Nat->Bool} {held:Bool}
theorem FD {α:Type} (l:List α) (d:α):l=(List.range l.length).map fun i=>l.getD i d:=by
 apply List.ext_getElem?
 intro i
 by_cases h:i<l.length
 ·simp[h]
 ·simp[h]
theorem Pv {r:Reach} {b0:Nat} {t:TypeId} {fs:Array Field} {v:Value} {d:DataW H} {p:List MemPlace} (hs:P.underlying t=some (.struct fs)) (hone:oneCellFields P fs=true) (hC:P.cellsOf t=fs.size)
  (hv:Value.okWide P w r b0 t v) (h:DataW.Trod enc P w base spare held t v d p):
  ∃(V:Nat->Value) (Y:Nat->DataW H×List MemPlace) (n:Nat),v = .agg ((List.range fs.size).map V).toArray∧∀(i:Nat) (f:Field),fs[i]? = some f->DataW.trod enc P w base spare held n f.type [V i]=some (Y i):=by
 obtain⟨cs,rfl,hsz⟩:=okWide_struct hs hv
 obtain⟨fuel,hf⟩:=h
 obtain⟨xs,n,_,_,_,hlen,hg⟩:=DataW.trod_struct hs hf
 refine⟨fun i=>cs.toList.getD i undef,fun i=>xs.getD i (.nil,[]),n,?_,fun i f hi=> ?_⟩
 ·congr 1
  apply Array.toList_inj.1
  show cs.toList=(List.range fs.size).map fun i=>cs.toList.getD i undef
  have h2:fs.size=cs.toList.length:=by rw[<-hC,<-hsz];rfl
  rw[h2]
  exact FD cs.toList undef
 ·have hlt:i<fs.size:=(Array.getElem?_eq_some_iff.1 hi).1
  obtain⟨o,k⟩:=hone_of hone i f hi
  have g:=hg i f hi
  have hcl:(Value.cells (.agg cs)).toList=cs.toList:=rfl
  have hl:i<cs.toList.length:=by rw[Array.length_toList];omega
  rw[o,k,hcl,take1_drop _ _ undef hl]at g
  rw[g]
  have hx:i<xs.length:=by omega
  simp[hx]
theorem Pa {k:IntKind} {e:TypeId} (he:P.underlying e=some (.int k)) {n:Nat} {v:Value} {x:DataW H×List MemPlace} (h:DataW.trod enc P w base spare held n e [v]=some x):∃y:Int,v = .int k y:=by
 obtain⟨y,hy,_,_⟩:=DataW.trod_int he h
 exact⟨y,by simpa using hy⟩
theorem Gk {e:TypeId} (he:P.underlying e=some .bool) {n:Nat} {v:Value} {x:DataW H×List MemPlace} (h:DataW.trod enc P w base spare held n e [v]=some x):∃y:Bool,v = .bool y:=by
 obtain⟨y,hy,_⟩:=DataW.trod_bool he h
 exact⟨y,by simpa using hy⟩
theorem QJ {n:Int} (h:(Lit.int .u32 n).wf=true):0<=n∧n<4294967296:=by
 simp only[Lit.wf,Bool.and_eq_true,decide_eq_true_eq]at h
 have e1:IntKind.u32.min=0:=by decide
 have e2:IntKind.u32.max=4294967295:=by decide
 omega
end
end Go.Sx
end
