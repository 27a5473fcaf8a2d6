/- Models and proofs. Conditions: none. -/
import Derived.Test.YtjlbcgddhnjcjaaGreatDoorZCWi6
import Derived.Test.YtjlbcgddhnjcjaaGreatDoorZCWi5
import Derived.Test.YtjlbcgddhnjcjaaGreatDoorZCWi2
set_option linter.unusedVariables false
set_option linter.unusedSimpArgs false
set_option maxHeartbeats 4000000
set_option maxRecDepth 20000
section
namespace Go.Proofs.YtjlbcgddhnjcjaaGreatDoor
open Go Go.Sx
section
abbrev B_:=ByteArray×(List Er)×(List tY)
structure zY (g:GR) (vars:List Er):Prop where
 len:vars.length<=20
 small:∀x,x<vars.length->zX (at' vars (x:Int))
 kind:∀x,x<vars.length->(at' vars (x:Int)).2.1=1∨(at' vars (x:Int)).2.1=2∨(at' vars (x:Int)).2.1=3
 range:∀x,x<vars.length->(at' vars (x:Int)).2.1=1 -> -100000<=lo g (at' vars (x:Int)) 0∧lo g (at' vars (x:Int)) 0<=hi g (at' vars (x:Int)) 0∧hi g (at' vars (x:Int)) 0 - lo g (at' vars (x:Int)) 0+1<=4096
theorem WH {g:GR} (hV:VG g):vC 1000 g.1=some (jK g g.1.length):=by
 have h24:=hV.n24
 have hlen:=hV.len
 have h1:=hV.n1
 have hid:0<=at' g.1 ((0:Nat):Int):=(hV.node 0 (by omega)).id.1
 unfold vC
 rw[if_neg (by omega),cN (by omega)]
 have:=dV (step:=qG g.1) (K:=some (jK g g.1.length)) (g.1.length - 1) (fun k=>(jK g (k+1),((k+1:Nat):Int))) (fun k ag hk=>by
  unfold qG
  dsimp only
  rw[if_pos (by omega),cN (by omega),eC (by omega)];rfl) (fun ag=>by
  unfold qG tT
  dsimp only
  rw[if_neg (by omega),show g.1.length - 1+1=g.1.length by omega]) 1000 (by omega)
 have e:jK g (0+1)=at' g.1 (0:Int):=by
  show max (jK g 0) (at' g.1 ((0:Nat):Int))=_
  simp only[jK]
  have:at' g.1 ((0:Nat):Int)=at' g.1 (0:Int):=rfl
  omega
 rw[e]at this
 exact this
theorem GL {g:GR} (hV:VG g) {x:Er} (hs:zX x) (hk:x.2.1=1∨x.2.1=2∨x.2.1=3) {v:Nat} (hv:v<g.2.length):gS 1000 x g (v:Int)=some (lo g x v,hi g x v):=by
 obtain⟨⟨s1,s2⟩,⟨s3,s4⟩,s5,s6⟩:=hs
 have h24:=hV.n24
 have hlen:=hV.len
 have hm:=FE hV g.1.length (by omega)
 have p1:0<=x.2.2.2.2.1*(g.1.length:Int):=Int.mul_nonneg s3 (by omega)
 have p2:x.2.2.2.2.1*(g.1.length:Int)<=100000*24:=Int.mul_le_mul s4 (by omega) (by omega) (by omega)
 have p3:0<=x.2.2.2.2.2*jK g g.1.length:=Int.mul_nonneg s5 hm.1
 have p4:x.2.2.2.2.2*jK g g.1.length<=100000*255:=Int.mul_le_mul s6 hm.2 hm.1 (by omega)
 have b1:lI 1000 x g (v:Int)=some (x.2.2.1,x.2.2.2.1+x.2.2.2.2.1*(g.2.length:Int)+x.2.2.2.2.2*jK g g.1.length):=by
  unfold lI
  rw[bA (WH hV),wr (x:=x.2.2.2.2.1*_) (by omega) (by omega),wr (x:=x.2.2.2.2.2*_) (by omega) (by omega),wr (x:=x.2.2.2.1+_) (by omega) (by omega),wr (by omega) (by omega),hlen]
 have b3:lJ 1000 x g (v:Int)=some (-1,((row g v).length:Int) - 1):=by
  have hdeg:=(hV.node v hv).deg
  unfold lJ
  rw[cN (by omega)]
  show some ((-1:Int),wI .i64 (((row g v).length:Int) - 1))=_
  rw[wr (by omega) (by omega)]
 have it:∀(f:Nat) (a:Int),bD (cX 1000 x g (v:Int)) (f+1) a=cX 1000 x g (v:Int) a (bD (cX 1000 x g (v:Int)) f):=fun f a=>rfl
 have st:∀(f:Nat) (a:Int),a=0∨a=1∨a=2->bD (cX 1000 x g (v:Int)) (f+1) a=if a=0 then(if 1=x.2.1 then lI 1000 x g (v:Int)else bD (cX 1000 x g (v:Int)) f 1)else if a=1 then(if 2=x.2.1 then n_ 1000 x g (v:Int)else bD (cX 1000 x g (v:Int)) f 2)else(if 3=x.2.1 then lJ 1000 x g (v:Int)else bD (cX 1000 x g (v:Int)) f 3):=by
  intro f a ha
  rw[it]
  generalize bD (cX 1000 x g (v:Int)) f=G
  unfold cX jT
  rcases ha with rfl|rfl|rfl
  ·rw[if_pos (by decide),cN (by decide),if_pos rfl,if_pos rfl]
   split
   ·rw[b1];rfl
   ·rfl
  ·rw[if_pos (by decide),cN (by decide),if_neg (show¬(1:Int)=0 by decide),if_pos rfl,if_neg (show¬(1:Int)=0 by decide),if_pos rfl]
   split
   ·rfl
   ·rfl
  ·rw[if_pos (by decide),cN (by decide),if_neg (show¬(2:Int)=0 by decide),if_neg (show¬(2:Int)=1 by decide),if_neg (show¬(2:Int)=0 by decide),if_neg (show¬(2:Int)=1 by decide)]
   split
   ·rw[b3];rfl
   ·rfl
 unfold gS lo hi
 rcases hk with h|h|h
 ·rw[st 999 0 (.inl rfl),if_pos rfl,if_pos h.symm,b1,h,if_neg (by decide),if_neg (by decide),if_neg (by decide),if_neg (by decide)]
 ·rw[st 999 0 (.inl rfl),if_pos rfl,if_neg (by omega),st 998 1 (.inr (.inl rfl)),if_neg (by decide),if_pos rfl,if_pos h.symm,h,if_pos rfl,if_pos rfl];rfl
 ·rw[st 999 0 (.inl rfl),if_pos rfl,if_neg (by omega),st 998 1 (.inr (.inl rfl)),if_neg (by decide),if_pos rfl,if_neg (by omega),st 997 2 (.inr (.inr rfl)),if_neg (by decide),if_neg (by decide),if_pos h.symm,b3,h,if_neg (by decide),if_pos rfl,if_neg (by decide),if_pos rfl]

def Ff (g:GR) (vars:List Er) (v x:Nat):dM:=(lo g (at' vars (x:Int)) v,hi g (at' vars (x:Int)) v)
def A_ (g:GR) (vars:List Er) (v:Nat):eM:=(List.range vars.length).map (Ff g vars v)
def zA (g:GR) (vars:List Er):dQ:=(List.range g.2.length).map (A_ g vars)
theorem xY {α:Type} [Inhabited α] (f:Nat->α) {n k:Nat} (h:k<n):at' ((List.range n).map f) (k:Int)=f k:=by
 rw[jY (by simpa using h)];simp
theorem tO {α:Type} (f:Nat->α) (z:α) (n k:Nat) (h:k<n):((List.range k).map f++List.replicate (n - k) z).set k (f k)=(List.range (k+1)).map f++List.replicate (n - (k+1)) z:=by
 rw[show n - k=(n - (k+1))+1 by omega,List.replicate_succ,List.set_append_right _ _ (by simp),List.range_succ]
 simp
theorem Ko {g:GR} (hV:VG g) {p:B_} (hp:zY g p.2.1):kH 1000 p g=some (zA g p.2.1):=by
 have h24:=hV.n24
 have hlen:=hV.len
 have hvl:=hp.len
 let vars:=p.2.1
 let Q:Nat->dQ:=fun k=>(List.range k).map (A_ g vars)++List.replicate (g.2.length - k) []
 have hQl:∀k,k<=g.2.length->(Q k).length=g.2.length:=fun k hk=>by simp[Q];omega
 let R:Nat->Nat->eM:=fun k j=>(List.range j).map (Ff g vars k)++List.replicate (vars.length - j) (0,0)
 have hRl:∀k j,j<=vars.length->(R k j).length=vars.length:=fun k j hj=>by simp[R];omega
 unfold kH
 rw[cN (by omega)]
 rw[show List.replicate (Int.toNat (g.1.length:Int)) ([]:eM)=Q 0 by simp[Q,hlen]]
 refine dV (step:=jG 1000 p g) (K:=some (zA g vars)) g.2.length (fun k=>((k:Int),Q k)) (fun k ag hk=> ?_) (fun ag=> ?_) 1000 (by omega)
 ·unfold jG
  dsimp only
  rw[if_pos (by simp;omega),cN (by omega),cN (by rw[hQl k (by omega)];omega)]
  refine Eq.trans (?_:_=bD (k_ 1000 p g ((k:Int),Q k) ag) 1000 ((0:Int),(Q k).set k (R k 0))) ?_
  ·rw[Int.toNat_natCast,Int.toNat_natCast];simp[R,vars]
  refine dV (step:=k_ 1000 p g ((k:Int),Q k) ag) (K:=ag (((k+1:Nat):Int),Q (k+1))) vars.length (fun j=>((j:Int),(Q k).set k (R k j))) (fun j ag2 hj=> ?_) (fun ag2=> ?_) 1000 (by show p.2.1.length<1000;omega)
  ·have hj':j<p.2.1.length:=hj
   have hb:=GL hV (hp.small j hj) (hp.kind j hj) hk
   have hq:k<(Q k).length:=by rw[hQl k (by omega)];exact hk
   have a1:∀X:eM,at' ((Q k).set k X) (k:Int)=X:=fun X=>by rw[rW _ _ _ _ hq,if_pos rfl]
   have hRj:j<(R k j).length:=by rw[hRl k j (by omega)];exact hj
   unfold k_
   dsimp only
   rw[if_pos (by omega),cN (by omega),cN (by simp only[List.length_set];omega),cN (by simp only[List.length_set];omega),bA (show gS 1000 _ g (k:Int)=_ from hb),Int.toNat_natCast,Int.toNat_natCast]
   simp only[a1,List.set_set]
   rw[cN (by omega),cN (by simp only[List.length_set];omega),eC (by omega)]
   have:(R k j).set j (lo g (at' p.2.1 (j:Int)) k,hi g (at' p.2.1 (j:Int)) k)=R k (j+1):=tO (Ff g vars k) (0,0) vars.length j hj
   rw[rW _ _ _ _ hRj,if_pos rfl]
   dsimp only
   rw[this]
  ·unfold k_ qP
   dsimp only
   rw[if_neg (show¬((vars.length:Nat):Int)<(p.2.1.length:Int)from Int.lt_irrefl _),eC (by omega)]
   have e1:R k vars.length=A_ g vars k:=by simp[R,A_]
   have e2:(Q k).set k (A_ g vars k)=Q (k+1):=tO (A_ g vars) [] g.2.length k hk
   rw[e1,e2]
 ·unfold jG qO
  dsimp only
  rw[if_neg (by simp;omega)]
  simp[Q,zA]
theorem Uf {g:GR} (hV:VG g) {p:B_} (hp:zY g p.2.1):pY 1000 p g=some 0:=by
 have h1:=hV.n1
 have hvl:=hp.len
 unfold pY
 rw[bA (show xE 1000 _=some true from rfl),if_neg (by decide),bA (show e_ 1000 g=some true from(Hr g).1 hV),if_neg (by decide)]
 refine dV (step:=j_ 1000 p g) (K:=some 0) p.2.1.length (fun k=>(k:Int)) (fun k ag hk=> ?_) (fun ag=> ?_) 1000 (by omega)
 ·unfold j_ mJ sA mJ
  rw[if_pos (by omega),cN (by omega),eC (by omega)]
  by_cases hk1:(at' p.2.1 (k:Int)).2.1=1
  ·obtain⟨r1,r2,r3⟩:=hp.range k hk hk1
   have hb:=GL hV (hp.small k hk) (hp.kind k hk) (v:=0) (by omega)
   rw[if_neg (by simpa using hk1),bA (show gS 1000 _ g (0:Int)=_ from hb)]
   dsimp only
   rw[if_neg (by omega),wr (x:=hi g (at' p.2.1 (k:Int)) 0 - lo g (at' p.2.1 (k:Int)) 0) (by omega) (by omega),wr (by omega) (by omega),if_neg (by rw[decide_eq_true_eq];omega)]
  ·rw[if_pos hk1]
 ·unfold j_ r_
  rw[if_neg (by omega)]

theorem Sa {g:GR} {vars:List Er} (hl:vars.length<=20) {v:Nat} {l:aL} (h1:l.length=vars.length) (h2:∀x,x<vars.length->lo g (at' vars (x:Int)) v<=at' l (x:Int)∧at' l (x:Int)<=hi g (at' vars (x:Int)) v):sH 1000 (A_ g vars v) l=some true:=by
 have hr:(A_ g vars v).length=vars.length:=by simp[A_]
 unfold sH
 rw[if_neg (by rw[hr,h1];simp)]
 refine dV (step:=lB (A_ g vars v) l) (K:=some true) l.length (fun k=>(k:Int)) (fun k ag hk=> ?_) (fun ag=> ?_) 1000 (by omega)
 ·have hc:at' (A_ g vars v) (k:Int)=Ff g vars v k:=xY _ (by omega)
  have:=h2 k (by omega)
  unfold lB qX
  rw[if_pos (by omega),cN (by omega),cN (by omega),hc]
  rw[if_neg (show¬at' l (k:Int)<(Ff g vars v k).1 from Int.not_lt.2 this.1),cN (by omega),if_neg (by rw[decide_eq_true_eq];exact Int.not_lt.2 this.2),eC (by omega)]
 ·unfold lB qW
  rw[if_neg (by omega)]
theorem Qj {g:GR} (hV:VG g) {p:B_} (hp:zY g p.2.1) {c:bG} (hc:U_ g c p.2.1):oQ 1000 p g c=some 0:=by
 have h24:=hV.n24
 have ht:(zA g p.2.1).length=g.2.length:=by simp[zA]
 have hcl:=hc.len
 unfold oQ
 rw[bA (show pY 1000 _ _=some 0 from Uf hV hp),if_neg (by decide),bA (show kH 1000 _ _=_ from Ko hV hp)]
 have:qV 1000 (zA g p.2.1) c=some true:=by
  unfold qV
  rw[if_neg (by rw[ht,hcl];simp)]
  refine dV (step:=mR 1000 (zA g p.2.1) c) (K:=some true) g.2.length (fun k=>(k:Int)) (fun k ag hk=> ?_) (fun ag=> ?_) 1000 (by omega)
  ·have hr:at' (zA g p.2.1) (k:Int)=A_ g p.2.1 k:=xY _ hk
   unfold mR
   rw[if_pos (by omega),cN (by omega),cN (by omega),hr,bA (Sa hp.len (hc.row k hk) (hc.ok k hk)),if_neg (by decide),eC (by omega)]
  ·unfold mR pG
   rw[if_neg (by omega)]
 rw[bA this,if_neg (by decide)]
theorem MJ (c:bG) (h:c.length<=900) (hr:∀v,v<c.length->(at' c (v:Int)).length<=1000):p_ 1000 c=some c:=by
 unfold p_
 rw[cN (by omega)]
 let Q:Nat->bG:=fun k=>(List.range k).map (fun v:Nat=>at' c (v:Int))++List.replicate (c.length - k) []
 rw[show List.replicate (Int.toNat (c.length:Int)) ([]:aL)=Q 0 by simp[Q]]
 refine dV (step:=oT c) (K:=some c) c.length (fun k=>((k:Int),Q k)) (fun k ag hk=> ?_) (fun ag=> ?_) 1000 (by omega)
 ·have hQ:(Q k).length=c.length:=by simp[Q];omega
  have:=hr k hk
  unfold oT
  dsimp only
  rw[if_pos (by omega),cN (by omega),cN (by simp;omega),cN (by omega),eC (by omega),Int.toNat_natCast,List.nil_append]
  have:(Q k).set k (at' c (k:Int))=Q (k+1):=tO (fun v:Nat=>at' c (v:Int)) [] c.length k hk
  rw[this]
 ·unfold oT sJ
  dsimp only
  rw[if_neg (by omega)]
  congr 1
  refine List.ext_getElem (by simp[Q]) fun i h1 h2=> ?_
  simp[Q,jY h2]
end
section
def Yu (x:Int):Int:=max (-1073741824) (min x 1073741824)
def unD (o x:Int):Int:=if o=18 then wI .i64 (0 - x)else HL (decide (x=0))
def UC (a b:Int):Int:=if b=0 then 0 else if Int.tmod a b≠0∧((decide (a<0)) != (decide (b<0)))=true then wI .i64 (wI .i64 (Int.tdiv a b) - 1)else wI .i64 (Int.tdiv a b)
def Wh (o x y:Int):Bool:=if o=35 then decide (x=y)else if o=36 then decide (x≠y)else if o=37 then decide (x<y)else if o=38 then decide (x<=y)else if o=39 then decide (y<x)else decide (y<=x)
def YS (o x y:Int):Int:=
 if o=30 then Yu (wI .i64 (x*y))else if o=31 then Yu (UC x y)else if o=32 then(if y=0 then 0 else Yu (wI .i64 (x - wI .i64 (y*UC x y))))else if o=33 then Yu (wI .i64 (x+y))else if o=34 then Yu (wI .i64 (x - y))
 else if o=41 then HL (decide (x≠0)&&decide (y≠0))else if o=42 then HL (decide (x≠0)||decide (y≠0))else HL (Wh o x y)
theorem Se (f:Nat) (o x:Int):vA f o x=some (unD o x):=by
 unfold vA unD
 split
 ·rfl
 ·rw[bA (qJ f _)]
theorem RO (f:Nat) (a b:Int):nL f a b=some (UC a b):=by
 unfold nL UC
 by_cases hb:b=0
 ·rw[if_pos hb,if_pos hb]
 ·rw[if_neg hb,if_neg hb,cN hb,cN hb]
  by_cases h1:Int.tmod a b=0
  ·rw[if_neg (by simpa using h1),if_neg (by simp[h1])];rfl
  ·rw[if_pos h1]
   unfold pE mM
   by_cases h2:((decide (a<0)) != (decide (b<0)))=true
   ·rw[if_pos h2,if_pos ⟨h1,h2⟩]
   ·rw[if_neg h2,if_neg (fun q=>h2 q.2)]
theorem Wi (f:Nat) (o x y:Int):qU f o x y=some (Wh o x y):=by
 unfold qU Wh
 repeat' split
 all_goals rfl
theorem NX (f:Nat) (o x y:Int):tM f o x y=some (YS o x y):=by
 unfold tM YS
 by_cases h:o=30
 ·rw[if_pos h,if_pos h];rfl
 rw[if_neg h,if_neg h]
 by_cases h:o=31
 ·rw[if_pos h,if_pos h,bA (RO f x y)];rfl
 rw[if_neg h,if_neg h]
 by_cases h:o=32
 ·rw[if_pos h,if_pos h]
  by_cases hy:y=0
  ·rw[if_pos hy,if_pos hy]
  ·rw[if_neg hy,if_neg hy,bA (RO f x y)];rfl
 rw[if_neg h,if_neg h]
 by_cases h:o=33
 ·rw[if_pos h,if_pos h];rfl
 rw[if_neg h,if_neg h]
 by_cases h:o=34
 ·rw[if_pos h,if_pos h];rfl
 rw[if_neg h,if_neg h]
 by_cases h:o=41
 ·rw[if_pos h,if_pos h]
  by_cases hx:x=0
  ·rw[if_neg (by simpa using hx),bA (qJ f _)];simp[hx,mK]
  ·rw[if_pos hx,bA (qJ f _)];simp[hx,mK]
 rw[if_neg h,if_neg h]
 by_cases h:o=42
 ·rw[if_pos h,if_pos h]
  by_cases hx:x=0
  ·rw[if_neg (by simpa using hx),bA (qJ f _)];simp[hx,mL]
  ·rw[if_pos hx,bA (qJ f _)];simp[hx,mL]
 rw[if_neg h,if_neg h,bA (Wi f o x y),bA (qJ f _)]
def E.den (L:Int->Int->Int->Int) (deg:Nat):E->Int->Int
 |lf o a,p=>L o a p
 |un o x,p=>unD o (x.den L deg p)
 |ag o x,_=>MQ o ((List.range deg).map fun q=>x.den L deg ((q:Nat):Int))
 |bi o x y,p=>YS o (x.den L deg p) (y.den L deg p)
 |ite x y z,p=>if x.den L deg p≠0 then y.den L deg p else z.den L deg p
def E.wf (nv:Nat):Bool->E->Bool
 |b,lf o a=>decide (1<=o)&&decide (o<=17)&&(b||decide (o<=10))&&((decide (o≠5)&&decide (o≠12))||(decide (0<=a)&&decide (a<(nv:Int))))
 |b,un o x=>decide (18<=o)&&decide (o<=19)&&x.wf nv b
 |_,ag o x=>(decide (o=20)||decide (o=21)||decide (o=22)||decide (o=23)||decide (o=24)||decide (o=26)||decide (o=27))&&x.wf nv true
 |b,bi o x y=>decide (30<=o)&&decide (o<=42)&&x.wf nv b&&y.wf nv b
 |b,ite x y z=>x.wf nv b&&y.wf nv b&&z.wf nv b
theorem SN {nv:Nat}:∀{e:E} {b:Bool},e.wf nv b=true->e.arOk=true:=by
 intro e
 induction e with
 |lf o a=>intro b h;simp[E.wf,E.arOk]at h ⊢;omega
 |un o x ih=>intro b h;simp[E.wf,E.arOk]at h ⊢;exact⟨h.1,ih h.2⟩
 |ag o x ih=>intro b h;simp[E.wf,E.arOk]at h ⊢;exact⟨by omega,ih h.2⟩
 |bi o x y ihx ihy=>intro b h;simp[E.wf,E.arOk]at h ⊢;exact⟨⟨h.1.1,ihx h.1.2⟩,ihy h.2⟩
 |ite x y z ihx ihy ihz=>intro b h;simp[E.wf,E.arOk]at h ⊢;exact⟨⟨ihx h.1.1,ihy h.1.2⟩,ihz h.2⟩
def Ro (W:XO) (p:Int):Int:=(at' (at' W.1.2.1.2 W.2.2.1) p).1
def Vj (W:XO) (o a p:Int):Int:=
 if o=1 then a else if o=2 then 1 else if o=3 then 0 else if o=4 then -1 else if o=5 then at' (at' W.2.1 W.2.2.1) a else if o=12 then at' (at' W.2.1 (Ro W p)) a
 else if o=6 then(W.1.2.1.1.length:Int)else if o=7 then W.1.2.2.1 else if o=8 then at' W.1.2.1.1 W.2.2.1 else if o=9 then((at' W.1.2.1.2 W.2.2.1).length:Int)else if o=10 then HL (decide (W.2.2.1=0))else if o=11 then p
 else if o=13 then at' W.1.2.1.1 (Ro W p)else if o=14 then((at' W.1.2.1.2 (Ro W p)).length:Int)else if o=15 then HL (decide (Ro W p=0))else if o=16 then(at' (at' W.1.2.1.2 W.2.2.1) p).2 else at' (at' W.1.2.2.2 W.2.2.1) p
structure YR (W:XO) (nv n v:Nat):Prop where
 node:W.2.2.1=(v:Int)
 lt:v<n
 ports:W.1.2.1.2.length=n
 ids:W.1.2.1.1.length=n
 c:W.2.1.length=n
 row:∀u:Nat,u<n->(at' W.2.1 (u:Int)).length=nv
 to:∀u:Nat,u<n->∀i:Nat,i<(at' W.1.2.1.2 (u:Int)).length->0<=(at' (at' W.1.2.1.2 (u:Int)) (i:Int)).1∧(at' (at' W.1.2.1.2 (u:Int)) (i:Int)).1<(n:Int)
 bl:W.1.2.2.2.length=n
 br:∀u:Nat,u<n->(at' W.1.2.2.2 (u:Int)).length=(at' W.1.2.1.2 (u:Int)).length
def PC (b:Bool) (deg:Nat) (p:Int):Prop:=b=true->∃q:Nat,p=(q:Int)∧q<deg
theorem Ut {W:XO} {nv n v:Nat} (h:YR W nv n v) (f:Nat) {b:Bool} {o a p:Int} (hw:(E.lf o a).wf nv b=true) (hp:PC b (at' W.1.2.1.2 (v:Int)).length p):jJ f W (o,a) p=some (Vj W o a p):=by
 obtain⟨hv,hlt,h1,h2,h3,h4,h5,h8,h9⟩:=h
 simp only[E.wf,Bool.and_eq_true,Bool.or_eq_true,decide_eq_true_eq]at hw
 obtain⟨⟨⟨w1,w2⟩,w3⟩,w4⟩:=hw
 have hvr:(at' W.2.1 (v:Int)).length=nv:=h4 v hlt
 unfold jJ Vj Ro
 dsimp only
 rw[hv]
 by_cases e:o=1
 ·simp only[if_pos e]
 simp only[if_neg e]
 by_cases e:o=2
 ·simp only[if_pos e]
 simp only[if_neg e]
 by_cases e:o=3
 ·simp only[if_pos e]
 simp only[if_neg e]
 by_cases e:o=4
 ·simp only[if_pos e]
 simp only[if_neg e]
 by_cases e:o=5
 ·simp only[if_pos e]
  rw[cN (by omega),cN (by omega)]
 simp only[if_neg e]
 by_cases e:o=12
 ·have hb:b=true:=by
   rcases w3 with w3|w3
   ·exact w3
   ·omega
  obtain⟨q,rfl,hq⟩:=hp hb
  have h6:=h5 v hlt q hq
  obtain⟨u,hu⟩:∃u:Nat,(at' (at' W.1.2.1.2 (v:Int)) (q:Int)).1=(u:Int):=⟨_,(Int.toNat_of_nonneg h6.1).symm⟩
  simp only[if_pos e]
  rw[hu]at h6 ⊢
  have h7:=h4 u (by omega)
  rw[cN (by omega),cN (by omega),cN (by omega),cN (by omega)]
 simp only[if_neg e]
 unfold oO
 dsimp only
 by_cases e:o=6
 ·simp only[if_pos e];rfl
 simp only[if_neg e]
 by_cases e:o=7
 ·simp only[if_pos e];rfl
 simp only[if_neg e]
 by_cases e:o=8
 ·simp only[if_pos e]
  rw[cN (by omega)];rfl
 simp only[if_neg e]
 by_cases e:o=9
 ·simp only[if_pos e]
  rw[cN (by omega)];rfl
 simp only[if_neg e]
 by_cases e:o=10
 ·simp only[if_pos e]
  rw[bA (qJ f _)];rfl
 simp only[if_neg e]
 by_cases e:o=11
 ·simp only[if_pos e];rfl
 simp only[if_neg e]
 have hb:b=true:=by
  rcases w3 with w3|w3
  ·exact w3
  ·omega
 obtain⟨q,rfl,hq⟩:=hp hb
 have h6:=h5 v hlt q hq
 rw[cN (by omega),cN (by omega)]
 by_cases e:o=13
 ·simp only[if_pos e]
  rw[cN (by omega)];rfl
 simp only[if_neg e]
 by_cases e:o=14
 ·simp only[if_pos e]
  rw[cN (by omega)];rfl
 simp only[if_neg e]
 by_cases e:o=15
 ·simp only[if_pos e]
  rw[bA (qJ f _)];rfl
 simp only[if_neg e]
 by_cases e:o=16
 ·simp only[if_pos e];rfl
 simp only[if_neg e]
 have h10:=h9 v hlt
 rw[cN (by omega),cN (by omega)];rfl
theorem SA {W:XO} {nv n v:Nat} (h:YR W nv n v) {deg:Nat} (hdeg:(at' W.1.2.1.2 (v:Int)).length=deg) (hd24:deg<=24) (hT9:W.2.2.2.length<=800):
  ∀(e:E) (b:Bool) (fuel k:Nat) (p:Int) (pre post:eM),W.2.2.2=pre++(e.ts++post)->pre.length=k->e.wf nv b=true->PC b deg p->e.depth+850<=fuel->
   bE fuel W (k:Int) p=some (e.den (Vj W) deg p,(((k+e.ts.length:Nat)):Int)):=by
 obtain⟨hv,hlt,h1,h2,h3,h4,h5,_,_⟩:=id h
 have start:∀{t:dM} {l pre post:eM} {k:Nat},W.2.2.2=pre++((t::l)++post)->pre.length=k->at' W.2.2.2 (k:Int)=t∧(k:Int)<(W.2.2.2.length:Int):=by
  intro t l pre post k hT hk
  refine⟨HK (rest:=l++post) (by simpa using hT) hk,?_⟩
  rw[hT];simp;omega
 intro e
 induction e with
 |lf o a=>
  intro b fuel k p pre post hT hk hw hp hf
  obtain⟨fuel,rfl⟩:∃f,fuel=f+1:=⟨fuel - 1,by omega⟩
  obtain⟨ht,hlk⟩:=start (l:=[]) hT hk
  show cA (bE fuel) fuel W (k:Int) p=_
  unfold cA
  rw[cN ⟨by omega,hlk⟩,ht]
  dsimp only
  have hw':=hw
  simp only[E.wf,Bool.and_eq_true,Bool.or_eq_true,decide_eq_true_eq]at hw'
  have hl:=Ut h fuel hw (hdeg▸hp)
  rw[if_pos (by omega),bA (show jJ fuel _ (o,a) p=some (Vj W o a p)from hl),eC (by omega)]
  rfl
 |un o x ih=>
  intro b fuel k p pre post hT hk hw hp hf
  obtain⟨fuel,rfl⟩:∃f,fuel=f+1:=⟨fuel - 1,by omega⟩
  obtain⟨ht,hlk⟩:=start (l:=x.ts) hT hk
  show cA (bE fuel) fuel W (k:Int) p=_
  unfold cA
  rw[cN ⟨by omega,hlk⟩,ht]
  dsimp only
  simp only[E.wf,Bool.and_eq_true,decide_eq_true_eq]at hw
  simp only[E.depth]at hf
  have hx:=ih b fuel (k+1) p (pre++[(o,0)]) post (by rw[hT];simp[E.ts]) (by simp[hk]) hw.2 hp (by omega)
  rw[if_neg (by omega),if_pos (by omega),eC (by omega),bA (show bE fuel _ _ p=_ from hx),bA (Se fuel _ _)]
  simp only[E.den,E.ts,List.length_cons]
  rw[show k+1+x.ts.length=k+(x.ts.length+1) by omega]
 |bi o x y ihx ihy=>
  intro b fuel k p pre post hT hk hw hp hf
  obtain⟨fuel,rfl⟩:∃f,fuel=f+1:=⟨fuel - 1,by omega⟩
  obtain⟨ht,hlk⟩:=start (l:=x.ts++y.ts) hT hk
  show cA (bE fuel) fuel W (k:Int) p=_
  unfold cA
  rw[cN ⟨by omega,hlk⟩,ht]
  dsimp only
  simp only[E.wf,Bool.and_eq_true,decide_eq_true_eq]at hw
  simp only[E.depth]at hf
  have hx:=ihx b fuel (k+1) p (pre++[(o,0)]) (y.ts++post) (by rw[hT];simp[E.ts]) (by simp[hk]) hw.1.2 hp (by omega)
  have hy:=ihy b fuel (k+1+x.ts.length) p (pre++(o,0)::x.ts) post (by rw[hT];simp[E.ts]) (by simp[hk];omega) hw.2 hp (by omega)
  rw[if_neg (by omega),if_neg (by omega),if_neg (by omega),if_pos (by omega),eC (by omega),bA (show bE fuel _ _ p=_ from hx),bA (show bE fuel _ _ p=_ from hy),bA (NX fuel _ _ _)]
  simp only[E.den,E.ts,List.length_cons,List.length_append]
  rw[show k+1+x.ts.length+y.ts.length=k+(x.ts.length+y.ts.length+1) by omega]
 |ite x y z ihx ihy ihz=>
  intro b fuel k p pre post hT hk hw hp hf
  obtain⟨fuel,rfl⟩:∃f,fuel=f+1:=⟨fuel - 1,by omega⟩
  obtain⟨ht,hlk⟩:=start (l:=x.ts++(y.ts++z.ts)) hT hk
  show cA (bE fuel) fuel W (k:Int) p=_
  unfold cA
  rw[cN ⟨by omega,hlk⟩,ht]
  dsimp only
  simp only[E.wf,Bool.and_eq_true]at hw
  simp only[E.depth]at hf
  have hx:=ihx b fuel (k+1) p (pre++[(43,0)]) (y.ts++z.ts++post) (by rw[hT];simp[E.ts]) (by simp[hk]) hw.1.1 hp (by omega)
  have hy:=ihy b fuel (k+1+x.ts.length) p (pre++(43,0)::x.ts) (z.ts++post) (by rw[hT];simp[E.ts]) (by simp[hk];omega) hw.1.2 hp (by omega)
  have hz:=ihz b fuel (k+1+x.ts.length+y.ts.length) p (pre++(43,0)::(x.ts++y.ts)) post (by rw[hT];simp[E.ts]) (by simp[hk];omega) hw.2 hp (by omega)
  rw[if_neg (by decide),if_neg (by decide),if_neg (by decide),if_neg (by decide),eC (by omega),bA (show bE fuel _ _ p=_ from hx),bA (show bE fuel _ _ p=_ from hy),bA (show bE fuel _ _ p=_ from hz)]
  simp only[E.den,E.ts,List.length_cons,List.length_append]
  rw[show k+1+x.ts.length+y.ts.length+z.ts.length=k+(x.ts.length+(y.ts.length+z.ts.length)+1) by omega]
  split<;>rfl
 | ag o x ih =>
  intro b fuel k p pre post hT hk hw hp hf
  obtain⟨fuel,rfl⟩:∃f,fuel=f+1:=⟨fuel - 1,by omega⟩
  obtain⟨ht,hlk⟩:=start (l:=x.ts) hT hk
  have har:=SN hw
  have hwx:=hw
  simp only[E.wf,Bool.and_eq_true,Bool.or_eq_true,decide_eq_true_eq]at hwx
  simp only[E.depth]at hf
  have hts:(E.ag o x).ts.length=x.ts.length+1:=rfl
  have hlen:=congrArg List.length hT
  simp only[List.length_append]at hlen
  show cA (bE fuel) fuel W (k:Int) p=_
  unfold cA
  rw[cN ⟨by omega,hlk⟩,ht]
  dsimp only
  rw[if_neg (by omega),if_neg (by omega),if_pos (by omega),cN (by omega)]
  let D:Nat->Int:=fun q=>x.den (Vj W) deg ((q:Nat):Int)
  let V:Nat->aL:=fun q=>(List.range q).map D++List.replicate (24 - q) 0
  have hVl:∀q,q<=24->(V q).length=24:=fun q hq=>by simp[V];omega
  have hset:∀q,q<24->(V q).set q (D q)=V (q+1):=fun q hq=>by
   show((List.range q).map D++List.replicate (24 - q) 0).set q (D q)=(List.range (q+1)).map D++List.replicate (24 - (q+1)) 0
   rw[show 24 - q=(24 - (q+1))+1 by omega,List.replicate_succ,List.set_append_right _ _ (by simp),List.range_succ]
   simp
  let N:Nat->Int:=fun q=>if q=0 then 0 else(((k+1+x.ts.length:Nat)):Int)
  refine Eq.trans (dV (step:=hZ fuel W (k:Int) (bE fuel)) (K:=some ((E.ag o x).den (Vj W) deg p,(((k+(E.ag o x).ts.length:Nat)):Int))) deg (fun q=>(N q,(q:Int),V q)) (fun q ag hq=> ?_) (fun ag=> ?_) fuel (by omega)) rfl
  ·unfold hZ
   dsimp only
   have hx:=ih true fuel (k+1) ((q:Nat):Int) (pre++[(o,0)]) post (by rw[hT];simp[E.ts]) (by simp[hk]) hwx.2 (fun _=>⟨q,rfl,hq⟩) (by omega)
   rw[if_pos (by rw[hv,hdeg];omega),eC (by omega),bA (show bE fuel _ _ _=_ from hx),cN ⟨by omega,hVl q (by omega)⟩,eC (by omega),Int.toNat_natCast]
   show ag (_,_,(V q).set q (D q))=_
   rw[hset q (by omega)]
   simp only[N]
   rw[if_neg (by omega)]
  ·unfold hZ
   dsimp only
   rw[if_neg (by rw[hv,hdeg];omega)]
   have hfold:List.take deg (V deg)=(List.range deg).map D:=by
    show List.take deg ((List.range deg).map D++_)=_
    exact List.take_left' (by simp)
   have fin:∀y:Int,y=(((k+1+x.ts.length:Nat)):Int)->g_ fuel W (k:Int) (N deg,V deg) y=some ((E.ag o x).den (Vj W) deg p,(((k+(E.ag o x).ts.length:Nat)):Int)):=by
    rintro y rfl
    unfold g_
    dsimp only
    rw[hv,hdeg,cN ⟨by omega,by omega,by rw[hVl deg hd24];omega⟩,ht,Int.toNat_natCast,hfold,bA (Ug fuel o _ (by omega) (by simp;omega) (by omega))]
    unfold kN
    rw[hts,show k+1+x.ts.length=k+(x.ts.length+1) by omega]
    rfl
   unfold nX
   dsimp only
   by_cases h0:deg=0
   ·rw[if_pos (by rw[hv,hdeg];omega),bA (Wo fuel (E.ag o x) har hT hk hT9 (by omega))]
    exact fin _ (by rw[hts];omega)
   ·rw[if_neg (by rw[hv,hdeg];omega)]
    exact fin _ (by simp only[N];rw[if_neg h0])
end
end Go.Proofs.YtjlbcgddhnjcjaaGreatDoor
end
section
namespace Go.Proofs.YtjlbcgddhnjcjaaGreatDoor
open Go.Sx
section
def eK (U:Nat) (p0:OU) (p1:bG) (p2:Int) (p3:eM):Option (Int):=
 Option.bind (bE U ((((((p0.1.1,p0.1.2.1,p0.1.2.2)),((p0.2.1.1,p0.2.1.2)),p0.2.2.1,p0.2.2.2)),p1,p2,p3)) (0:Int) (-1:Int)) fun r6=>(some (r6.1))
theorem MB:aN Tryz.prog 191:=Tryz.call191
theorem sT (U:Nat) {p0:OU} {p1:bG} {p2:Int} {p3:eM} (bx0:Nat)  (v1:Value)  (v2:Value)  (v3:Value)  (v4:Value)  (z5:mT)  (v6:Value)  (z7:qK)  (v8:Value)  (z9:qK)  (v10:Value) (r:Int) (h:eK U p0 p1 p2 p3=some r):
  aT Tryz.prog 191 #[vP bx0,v8,vI (p2),v10] [bT bx0 [vS (p0.1.1),v1,v2,v3,v4,vI (p0.2.2.1),v6] 218,Sl aI v1 p0.1.2.1,Sl aE v2 p0.1.2.2,Sl bK v3 p0.2.1.1,S2 aZ v4 z5 p0.2.1.2,S2 bK v6 z7 p0.2.2.2,S2 bK v8 z9 p1,Sl aZ v10 p3] (fun x:Unit=>vI (r)) (fun x l=>l) (fun _ l=>l):=by
 refine aT.of Tryz.func191 rfl Tryz.ntmps191 rfl fun c=>?_
 refine sqR<|qkAsg rfl<|dtN<|sqR<|qkMove rfl<|qkMove rfl<|qkMove rfl<|qkMove rfl<|bP (Know.one (aC.sl (aC.fact 6 rfl))) fun ho1=>bP (Know.one ((aC.fact 7 rfl))) fun ho2=>?_
 refine aB (VA (r:=Value.agg #[Value.pointer (some ⟨bx0,0,none⟩),v8,vI (p2),v10]) rfl rfl rfl rfl (by intro w;simp[Instr.build,Instr.fill,dB,cO,cD,dC,dD,cP,eD,iN ho1,iN ho2])) rfl ?_
 refine aF (aJ.alloc (cs:=[Value.pointer none,kX,vI (0:Int),kX]) rfl rfl) rfl fun b3=>bP (Know.one (aC.sl (aC.fact 6 rfl))) fun ho4=>bP (Know.one ((aC.fact 7 rfl))) fun ho5=>bB 0 (vs:=[vP bx0,v8,vI (p2),v10]) rfl rfl (dU rfl (dU ho4 (dU rfl (dU ho5 rfl)))) rfl rfl rfl<|dtN<|sqR<|bnE h fun r6 w7 h=>aF (aJ.callQ wP (Ap U b3 bx0 v1 v2 v3 v4 z5 v6 z7 v8 z9 v10 r6 w7) rfl (aD.cons (aC.res 0 rfl) (nY [0,1,2,3,4,5,6,7] rfl))) rfl fun x8=>qkMove rfl<|qkExt rfl<|qkExt rfl<|qkAsg rfl<|qkAsg rfl<|dtN<|sqR<|qkMove rfl<|qkAsg rfl<|dtN<|aP ?_
 cases h
 exact wG rfl
end
section
def iD (U:Nat) (p0:OU) (p1:bG) (p2:Int) (p3:Int):Option (Bool):=
 ck (0<=p3∧p3<(List.length p0.1.2.2:Int)) (Option.bind (eK U ((((p0.1.1,p0.1.2.1,p0.1.2.2)),((p0.2.1.1,p0.2.1.2)),p0.2.2.1,p0.2.2.2)) p1 p2 ((at' p0.1.2.2 p3).2.1.2)) fun r2=>(some (decide (r2≠(0:Int)))))
theorem TE:aN Tryz.prog 158:=Tryz.call158
theorem zP (U:Nat) {p0:OU} {p1:bG} {p2:Int} {p3:Int} (bx0:Nat)  (v1:Value)  (v2:Value)  (v3:Value)  (v4:Value)  (z5:mT)  (v6:Value)  (z7:qK)  (v8:Value)  (z9:qK) (r:Bool) (h:iD U p0 p1 p2 p3=some r):
  aT Tryz.prog 158 #[vP bx0,v8,vI (p2),vI (p3)] [bT bx0 [vS (p0.1.1),v1,v2,v3,v4,vI (p0.2.2.1),v6] 218,Sl aI v1 p0.1.2.1,Sl aE v2 p0.1.2.2,Sl bK v3 p0.2.1.1,S2 aZ v4 z5 p0.2.1.2,S2 bK v6 z7 p0.2.2.2,S2 bK v8 z9 p1] (fun x:Unit=>vB (r)) (fun x l=>l) (fun _ l=>l):=by
 refine aT.of Tryz.func158 rfl Tryz.ntmps158 rfl fun c=>?_
 refine sqR<|qkAsg rfl<|dtN<|sqR<|qkMove rfl<|qkMove rfl<|qkMove rfl<|qkMove rfl<|aB (bL rfl) rfl<|qkFld rfl<|qkFld rfl<|aB (cQ rfl (aC.fact 0 rfl) rfl rfl rfl) rfl<|qkMove rfl<|ckE h fun j1 h=>aB (aY rfl rfl (aC.fact 2 rfl) rfl rfl j1) rfl<|aB (mD rfl rfl rfl rfl rfl) rfl<|aB (nZ rfl (aC.fact 2 rfl) rfl rfl rfl uV j1) rfl<|bnE h fun r2 w3 h=>aF (aJ.callQ MB (sT U bx0 v1 v2 v3 v4 z5 v6 z7 v8 z9 ((at' p0.1.2.2 p3).2.1.1) r2 w3) rfl (aD.cons (aC.fact 0 rfl) (aD.cons (aC.fact 1 rfl) (aD.cons (aC.fact 2 rfl) (aD.cons (aC.fact 3 rfl) (aD.cons (aC.fact 4 rfl) (aD.cons (aC.fact 5 rfl) (aD.cons (aC.fact 6 rfl) (aD.cons (rI (aC.fact 2 rfl) uX j1.1 j1.2) .nil))))))))) rfl fun x4=>qkNeq rfl<|qkAsg rfl<|dtN<|aP ?_
 cases h
 exact kW rfl
end
section
def kP  (a1:Unit):Option (Int):=
 some (-1:Int)
def iA (U:Nat) (p0:Dx) (p1:bG) (p2:Int) (a5:Int) (ag4:(Int)->Option (Int)):Option (Int):=
 if a5<(List.length p0.1.2.2:Int)then(Option.bind (iD U ((((p0.2.1.1.1,p0.2.1.1.2.1,p0.2.1.1.2.2)),((p0.2.1.2.1.1,p0.2.1.2.1.2)),p0.2.1.2.2.1,p0.2.1.2.2.2)) p1 p2 a5) fun r9=>(if r9=true then(some (a5))else(ag4 (wI .i64 (a5+(1:Int))))))else(kP  (()))
def cZ (U:Nat) (p0:Dx) (p1:bG) (p2:Int):Option (Int):=
 bD (iA U p0 p1 p2) U (0:Int)
theorem My:aN Tryz.prog 116:=Tryz.call116
theorem uF (U:Nat) {p0:Dx} {p1:bG} {p2:Int} (bx0:Nat)  (v1:Value)  (v2:Value)  (bx3:Nat)  (v4:Value)  (v5:Value)  (v6:Value)  (v7:Value)  (z8:mT)  (v9:Value)  (z10:qK)  (v11:Value)  (z12:mT)  (v13:Value)  (z14:qK) (r:Int) (h:cZ U p0 p1 p2=some r):
  aT Tryz.prog 116 #[vP bx0,v13,vI (p2)] [bT bx0 [vS (p0.1.1),v1,v2,vP bx3,v11] 170,Sl aI v1 p0.1.2.1,Sl aE v2 p0.1.2.2,bT bx3 [vS (p0.2.1.1.1),v4,v5,v6,v7,vI (p0.2.1.2.2.1),v9] 218,Sl aI v4 p0.2.1.1.2.1,Sl aE v5 p0.2.1.1.2.2,Sl bK v6 p0.2.1.2.1.1,S2 aZ v7 z8 p0.2.1.2.1.2,S2 bK v9 z10 p0.2.1.2.2.2,S2 aZ v11 z12 p0.2.2,S2 bK v13 z14 p1] (fun x:Unit=>vI (r)) (fun x l=>l) (fun _ l=>l):=by
 refine aT.of Tryz.func116 rfl Tryz.ntmps116 rfl fun c=>?_
 unfold cZ at h
 refine sqR<|qkAsg rfl<|dtN<|aH<|midU (fun a1=>kP  a1=some r) (fun a1 b2=>[]) (fun a1 b2=>[]) ?_ ?_
 ·refine sqR<|qkMove rfl<|aB (bL rfl) rfl<|qkFld rfl<|qkFld rfl<|aB (cQ rfl (aC.fact 0 rfl) rfl rfl rfl) rfl<|qkLen (aC.fact 2 rfl) rfl<|qkMove rfl<|dtN<|aM<|loopL (iA U p0 p1 p2) (fun a5 b6=>[(0,vP bx0),(1,v13),(2,vI (p2)),(13,vI (List.length p0.1.2.2:Int)),(14,vI (a5))]) (fun a5 b6=>[]) (0:Int) () h SF (aW.refl _) ?_
  intro k7 a5 b6 h
  refine sqR<|qkLss rfl<|dtN<|aH ?_
  refine eN h rfl (fun h=>?_) fun h=>?_
  ·refine cF<|aH<|aM<|sqR<|qkMove rfl<|qkAsg rfl<|dtN<|sqR<|qkMove rfl<|aB (bL rfl) rfl<|qkFld rfl<|aB (cQ rfl (aC.fact 0 rfl) rfl rfl rfl) rfl<|qkMove rfl<|qkMove rfl<|qkMove rfl<|bnE h fun r9 w10 h=>aF (aJ.callQ TE (zP U bx3 v4 v5 v6 v7 z8 v9 z10 v13 z14 r9 w10) rfl (nY [3,4,5,6,7,8,10] rfl)) rfl fun x11=>dtN ?_
   refine Ab h rfl (fun _ h=>?_) fun _ h=>?_
   ·refine sqR<|qkMove rfl<|qkAsg rfl<|dtN<|aP<|bJ<|aG<|aG<|bJ<|aG ?_
    cases h
    exact kW rfl
   refine dO<|inT<|aK<|qkAdd rfl<|qkMove rfl<|dtN ?_
   exact xO (wI .i64 (a5+(1:Int))) () h SF rfl
  refine fL ?_
  exact iG () (()) h SF rfl
 intro a1 b2 h
 unfold kP at h
 refine sqR<|qkAsg rfl<|dtN<|aP ?_
 cases h
 exact kW rfl
end
section
def qN (p0:Int) (p1:dM) (p2:Int) (a3:Bool):Option (Int):=
 if a3=true then(some (p2))else(if p0=(3:Int)then(some (-1:Int))else(if p2<p1.1 then(some (p1.1))else(some (p1.2))))
def sF (U:Nat) (p0:Int) (p1:dM) (p2:Int):Option (Int):=
 if p1.1<=p2 then(qN p0 p1 p2 (decide (p2<=p1.2)))else(qN p0 p1 p2 (false))
theorem VZ:aN Tryz.prog 77:=Tryz.call77
theorem FV (U:Nat) {p0:Int} {p1:dM} {p2:Int} (r:Int) (h:sF U p0 p1 p2=some r):
  aT Tryz.prog 77 #[vI (p0),Value.agg #[vI (p1.1),vI (p1.2)],vI (p2)] [] (fun x:Unit=>vI (r)) (fun x l=>l) (fun _ l=>l):=by
 refine aT.of Tryz.func77 rfl Tryz.ntmps77 rfl fun c=>?_
 refine sqR<|aF (aJ.box (cs:=[vI (p1.1),vI (p1.2)]) rfl rfl) rfl fun b1=>qkAsg rfl<|dtN<|aH<|aM<|aH<|midU (fun a3=>qN p0 p1 p2 a3=some r) (fun a3 b4=>[(0,vI (p0)),(2,vI (p2)),(4,vP b1),(7,vB (a3))]) (fun a3 b4=>[bT b1 [vI (p1.1),vI (p1.2)] 114]) ?_ ?_
 ·refine aK<|qkMove rfl ?_
  refine aB (iI (i:=0) rfl rfl rfl rfl rfl (by decide)) rfl ?_
  refine qkLd 0 rfl<|aB (Bf rfl rfl) rfl<|qkMove rfl ?_
  refine Bi h rfl (fun _ h=>?_) fun _ h=>?_
  ·refine gyMove rfl ?_
   refine aS rfl (iI (i:=1) rfl rfl rfl rfl rfl (by decide)) rfl ?_
   refine aS rfl (fK 0 rfl rfl rfl rfl rfl) rfl<|aS rfl (wN rfl rfl) rfl<|qkPkT rfl<|qkAsg rfl<|dtN ?_
   exact iG (decide (p2<=p1.2)) () h SF rfl
  refine gdSkip rfl<|gdSkip rfl<|gdSkip rfl<|gdSkip rfl<|qkPkF rfl<|qkAsg rfl<|dtN ?_
  exact iG (false) () h SF rfl
 intro a3 b4 h
 refine Ab h rfl (fun _ h=>?_) fun _ h=>?_
 ·refine sqR<|qkMove rfl<|qkAsg rfl<|dtN<|aP<|bJ<|aG ?_
  cases h
  exact wG rfl
 refine sqR<|qkMove rfl<|qkEql rfl<|qkAsg rfl<|dtN ?_
 refine eN h rfl (fun h=>?_) fun h=>?_
 ·refine sqR<|qkAsg rfl<|dtN<|aP<|bJ<|aG ?_
  cases h
  exact wG rfl
 refine sqR<|qkMove rfl ?_
 refine aB (iI (i:=0) rfl rfl rfl rfl rfl (by decide)) rfl ?_
 refine qkLd 0 rfl<|qkLss rfl<|qkAsg rfl<|dtN ?_
 refine eN h rfl (fun h=>?_) fun h=>?_
 ·refine sqR ?_
  refine aB (iI (i:=0) rfl rfl rfl rfl rfl (by decide)) rfl ?_
  refine qkLd 0 rfl<|qkAsg rfl<|dtN<|aP<|bJ<|aG ?_
  cases h
  exact wG rfl
 refine dO<|inT<|sqR ?_
 refine aB (iI (i:=1) rfl rfl rfl rfl rfl (by decide)) rfl ?_
 refine qkLd 0 rfl<|qkAsg rfl<|dtN<|aP ?_
 cases h
 exact wG rfl
end
section
def kO  (a5:aL):Option aL:=
 some (a5)
def h_ (U:Nat) (p0:Dx) (p1:bG) (p2:Int) (p3:Int) (a11:oU) (ag10:uT->Option aL):Option aL:=
 if a11.1<(List.length ((at' p0.1.2.2 p3).2.2.2):Int)then(ck (0<=a11.1∧a11.1<(List.length ((at' p0.1.2.2 p3).2.2.2):Int)) (Option.bind (eK U ((((p0.2.1.1.1,p0.2.1.1.2.1,p0.2.1.1.2.2)),((p0.2.1.2.1.1,p0.2.1.2.1.2)),p0.2.1.2.2.1,p0.2.1.2.2.2)) p1 p2 ((at' ((at' p0.1.2.2 p3).2.2.2) a11.1).2.2)) fun r18=>(ck (0<=((at' ((at' p0.1.2.2 p3).2.2.2) a11.1).1)∧((at' ((at' p0.1.2.2 p3).2.2.2) a11.1).1)<(List.length p0.1.2.1:Int)) (ck (0<=p2∧p2<(List.length p0.2.2:Int)) (ck (0<=((at' ((at' p0.1.2.2 p3).2.2.2) a11.1).1)∧((at' ((at' p0.1.2.2 p3).2.2.2) a11.1).1)<(List.length (at' p0.2.2 p2):Int)) (Option.bind (sF U ((at' p0.1.2.1 ((at' ((at' p0.1.2.2 p3).2.2.2) a11.1).1)).2.1) ((((at' (at' p0.2.2 p2) ((at' ((at' p0.1.2.2 p3).2.2.2) a11.1).1)).1),((at' (at' p0.2.2 p2) ((at' ((at' p0.1.2.2 p3).2.2.2) a11.1).1)).2))) r18) fun r24=>(ck (0<=((at' ((at' p0.1.2.2 p3).2.2.2) a11.1).1)∧((at' ((at' p0.1.2.2 p3).2.2.2) a11.1).1)<(List.length a11.2:Int)) (ag10 ((wI .i64 (a11.1+(1:Int))),(List.set a11.2 (Int.toNat ((at' ((at' p0.1.2.2 p3).2.2.2) a11.1).1)) r24))))))))))else(kO  (a11.2))
def iZ (U:Nat) (p0:Dx) (p1:bG) (p2:Int) (p3:Int):Option aL:=
 ck (0<=p2∧p2<(List.length p1:Int)) (ck ((List.length ([]:aL):Int)+(List.length (at' p1 p2):Int)<=1099511627) (ck (0<=p3∧p3<(List.length p0.1.2.2:Int)) (bD (h_ U p0 p1 p2 p3) U ((0:Int),(([]:aL)++(at' p1 p2))))))
theorem TG:aN Tryz.prog 186:=Tryz.call186
theorem Aq (U:Nat) {p0:Dx} {p1:bG} {p2:Int} {p3:Int} (bx0:Nat)  (v1:Value)  (v2:Value)  (bx3:Nat)  (v4:Value)  (v5:Value)  (v6:Value)  (v7:Value)  (z8:mT)  (v9:Value)  (z10:qK)  (v11:Value)  (z12:mT)  (v13:Value)  (z14:qK) (r:aL) (h:iZ U p0 p1 p2 p3=some r):
  aT Tryz.prog 186 #[vP bx0,v13,vI (p2),vI (p3)] [bT bx0 [vS (p0.1.1),v1,v2,vP bx3,v11] 170,Sl aI v1 p0.1.2.1,Sl aE v2 p0.1.2.2,bT bx3 [vS (p0.2.1.1.1),v4,v5,v6,v7,vI (p0.2.1.2.2.1),v9] 218,Sl aI v4 p0.2.1.1.2.1,Sl aE v5 p0.2.1.1.2.2,Sl bK v6 p0.2.1.2.1.1,S2 aZ v7 z8 p0.2.1.2.1.2,S2 bK v9 z10 p0.2.1.2.2.2,S2 aZ v11 z12 p0.2.2,S2 bK v13 z14 p1] (fun x:Value=>x) (fun x l=>Ar bV x r::l) (fun _ l=>l):=by
 refine aT.of Tryz.func186 rfl Tryz.ntmps186 rfl fun c=>?_
 refine sqR<|qkAsg rfl<|dtN<|sqR<|qkMove rfl<|qkMove rfl<|ckE h fun j1 h=>aB (dL rfl rfl (aC.fact 10 rfl) rfl rfl j1) rfl<|aB (dW rfl (aC.fact 10 rfl) rfl rfl j1) rfl<|jC (gR bV)<|ckE h fun j3 h=>aF (fR 0 cW rfl rfl rfl (aC.el (aC.fact 10 rfl) j1.1 j1.2) rfl rfl rfl rfl j3 rfl) rfl fun u2=>qkAsg rfl<|dtN<|aH<|midU (fun a5=>kO  a5=some r) (fun a5 b6=>[(9,u2)]) (fun a5 b6=>[Ar bV u2 a5]) ?_ ?_
 ·refine sqR<|qkMove rfl<|aB (bL rfl) rfl<|qkFld rfl<|qkFld rfl<|aB (cQ rfl (aC.fact 0 rfl) rfl rfl rfl) rfl<|qkMove rfl<|ckE h fun j7 h=>aB (aY rfl rfl (aC.fact 2 rfl) rfl rfl j7) rfl<|aB (mD rfl rfl rfl rfl rfl) rfl<|aB (nZ rfl (aC.fact 2 rfl) rfl rfl rfl uW j7) rfl<|aB (jF rfl (rI (aC.fact 2 rfl) eO j7.1 j7.2) rfl) rfl<|qkMove rfl<|dtN<|aM<|loopL (h_ U p0 p1 p2 p3) (fun a11 b12=>[(0,vP bx0),(1,v13),(2,vI (p2)),(9,u2),(26,(at' p0.1.2.2 p3).2.2.1),(27,vI (List.length ((at' p0.1.2.2 p3).2.2.2):Int)),(28,vI (a11.1))]) (fun a11 b12=>[Ar bV u2 a11.2]) ((0:Int),(([]:aL)++(at' p1 p2))) () h SF (aW.refl _) ?_
  intro k13 a11 b12 h
  refine sqR<|qkLss rfl<|dtN<|aH ?_
  refine eN h rfl (fun h=>?_) fun h=>?_
  ·refine cF<|aH<|aM<|sqR<|ckE h fun j15 h=>aB (aY rfl rfl (rI (aC.fact 2 rfl) eO j7.1 j7.2) rfl rfl j15) rfl<|aB (La (cs:=[vI ((at' ((at' p0.1.2.2 p3).2.2.2) a11.1).1),(at' ((at' p0.1.2.2 p3).2.2.2) a11.1).2.1]) rfl (rI (aC.fact 2 rfl) eO j7.1 j7.2) Gm rfl rfl rfl rfl j15) rfl<|aF (aJ.alloc (cs:=[vI (0:Int),kX]) rfl rfl) rfl fun b16=>bP (Know.one ((rI (rI (aC.fact 2 rfl) eO j7.1 j7.2) zE j15.1 j15.2))) fun ho17=>bB 0 (vs:=[vI ((at' ((at' p0.1.2.2 p3).2.2.2) a11.1).1),(at' ((at' p0.1.2.2 p3).2.2.2) a11.1).2.1]) rfl rfl (dU rfl (dU ho17 rfl)) rfl rfl rfl<|dtN<|aH ?_
   refine JR.start [0,1,3,7,0,0,0,64,255,511] 8 mixedOrders (by decide +kernel) ?_
   refine JR.open (by exact rfl) ?_
   refine jkMove rfl<|jqN rfl (bL rfl)<|jkFld rfl<|bH rfl .nil (qF 0 rfl) (cQ rfl (aC.fact 0 rfl) rfl rfl rfl) aO.z<|jkMove rfl<|jkMove rfl<|jkFld rfl<|jkLd 0 rfl<|bS 8 rfl rfl<|bnE h fun r18 w19 h=>aF (aJ.callQ MB (sT U bx3 v4 v5 v6 v7 z8 v9 z10 v13 z14 ((at' ((at' p0.1.2.2 p3).2.2.2) a11.1).2.1) r18 w19) rfl (aD.cons (aC.fact 3 rfl) (aD.cons (aC.fact 4 rfl) (aD.cons (aC.fact 5 rfl) (aD.cons (aC.fact 6 rfl) (aD.cons (aC.fact 7 rfl) (aD.cons (aC.fact 8 rfl) (aD.cons (aC.fact 10 rfl) (aD.cons (rI (rI (aC.fact 2 rfl) eO j7.1 j7.2) zE j15.1 j15.2) .nil))))))))) rfl fun x20=>qkAsg rfl<|dtN ?_
   refine JR.start [0,0,2,0,8,24,56,120,0,256,1016,2040,4088,0,8192,24576,57344,0,253952,516096,0,1048576,4186112,8380416,0,33554424,67108863,134217727] 26 mixedOrders (by decide +kernel) ?_
   refine JR.open (by exact rfl) ?_
   refine jkMove rfl<|jkFld rfl<|jkLd 0 rfl<|jkMove rfl<|jqN rfl (bL rfl)<|jkFld rfl<|jkFld rfl<|bH rfl .nil (qF 0 rfl) (cQ rfl (aC.fact 0 rfl) rfl rfl rfl) aO.z<|jkFld rfl<|jkLd 0 rfl<|ckE h fun j21 h=>bH rfl .nil (qF 1 rfl) (aY rfl rfl (aC.fact 0 rfl) rfl rfl j21) aO.z<|jqN rfl (mD rfl rfl rfl rfl rfl)<|bH rfl .nil (qF 1 rfl) (nZ rfl (aC.fact 0 rfl) rfl rfl rfl sS j21) aO.z<|jkMove rfl<|jqN rfl (bL rfl)<|jkFld rfl<|bH rfl .nil (qF 0 rfl) (cQ rfl (aC.fact 0 rfl) rfl rfl rfl) aO.z<|jkMove rfl<|ckE h fun j22 h=>bH rfl .nil (qF 9 rfl) (dL rfl rfl (aC.fact 0 rfl) rfl rfl j22) aO.z<|bH rfl .nil (qF 9 rfl) (dW rfl (aC.fact 0 rfl) rfl rfl j22) aO.z<|jkFld rfl<|jkLd 0 rfl<|ckE h fun j23 h=>bH rfl .nil (qF 9 rfl) (aY rfl rfl (aC.el (aC.fact 0 rfl) j22.1 j22.2) rfl rfl j23) aO.z<|bH rfl .nil (qF 9 rfl) (iJ (cs:=[vI ((at' (at' p0.2.2 p2) ((at' ((at' p0.1.2.2 p3).2.2.2) a11.1).1)).1),vI ((at' (at' p0.2.2 p2) ((at' ((at' p0.1.2.2 p3).2.2.2) a11.1).1)).2)]) rfl (aC.el (aC.fact 0 rfl) j22.1 j22.2) bI rfl rfl rfl rfl j23) aO.z<|jkMove rfl<|bnE h fun r24 w25 h=>JR.loud rfl rfl rfl (aJ.callQ VZ (FV U  r24 w25) rfl .nil) rfl (fun x26=>(vG [([0],[])] rfl)) fun x26=>bS 26 rfl rfl<|ckE h fun j27 h=>aB (aY rfl rfl (aV (aC.res 1 rfl) cW) rfl rfl j27) rfl<|vK 1 r24 j27 rfl rfl rfl rfl rfl rfl rfl<|dA<|inT<|aK<|qkAdd rfl<|qkMove rfl<|dtN ?_
   exact mA ((wI .i64 (a11.1+(1:Int))),(List.set a11.2 (Int.toNat ((at' ((at' p0.1.2.2 p3).2.2.2) a11.1).1)) r24)) () h SF (aW.ix [1] rfl rfl) (aD.refl _ _)
  refine fL ?_
  exact iG (a11.2) () h SF rfl
 intro a5 b6 h
 unfold kO at h
 refine sqR<|qkMove rfl<|qkAsg rfl<|dtN<|aP ?_
 cases h
 exact gV (u2) rfl rfl (RV.tmp rfl) (aW.refl _) aD.nil
end
section
def kQ  (a6:bG):Option bG:=
 some (a6)
def iB (a12:Int×bG) (ag11:(Int×bG)->Option bG) (a18:bG):Option bG:=
 ag11 ((wI .i64 (a12.1+(1:Int))),a18)
def fM (U:Nat) (p0:Dx) (p1:bG) (p2:Int) (a12:Int×bG) (ag11:(Int×bG)->Option bG):Option bG:=
 if a12.1<(List.length p1:Int)then(ck (0<=a12.1) (if(cH .u32 (mH .u32 p2 a12.1) (1:Int))=(1:Int)then(Option.bind (cZ U ((((p0.1.1,p0.1.2.1,p0.1.2.2)),((((p0.2.1.1.1,p0.2.1.1.2.1,p0.2.1.1.2.2)),((p0.2.1.2.1.1,p0.2.1.2.1.2)),p0.2.1.2.2.1,p0.2.1.2.2.2)),p0.2.2)) p1 a12.1) fun r22=>(Option.bind (iZ U ((((p0.1.1,p0.1.2.1,p0.1.2.2)),((((p0.2.1.1.1,p0.2.1.1.2.1,p0.2.1.1.2.2)),((p0.2.1.2.1.1,p0.2.1.2.1.2)),p0.2.1.2.2.1,p0.2.1.2.2.2)),p0.2.2)) p1 a12.1 r22) fun r25=>(ck (0<=a12.1∧a12.1<(List.length a12.2:Int)) (iB a12 ag11 (List.set a12.2 (Int.toNat a12.1) r25)))))else(iB a12 ag11 (a12.2))))else(kQ  (a12.2))
def gC (U:Nat) (p0:Dx) (p1:bG) (p2:Int):Option bG:=
 Option.bind (p_ U p1) fun r1=>(bD (fM U p0 p1 p2) U ((0:Int),r1))
theorem Tw:aN Tryz.prog 150:=Tryz.call150
theorem As (U:Nat) {p0:Dx} {p1:bG} {p2:Int} (bx0:Nat)  (v1:Value)  (v2:Value)  (bx3:Nat)  (v4:Value)  (v5:Value)  (v6:Value)  (v7:Value)  (z8:mT)  (v9:Value)  (z10:qK)  (v11:Value)  (z12:mT)  (v13:Value)  (z14:qK) (r:bG) (h:gC U p0 p1 p2=some r):
  aT Tryz.prog 150 #[vP bx0,v13,vU (p2)] [bT bx0 [vS (p0.1.1),v1,v2,vP bx3,v11] 170,Sl aI v1 p0.1.2.1,Sl aE v2 p0.1.2.2,bT bx3 [vS (p0.2.1.1.1),v4,v5,v6,v7,vI (p0.2.1.2.2.1),v9] 218,Sl aI v4 p0.2.1.1.2.1,Sl aE v5 p0.2.1.1.2.2,Sl bK v6 p0.2.1.2.1.1,S2 aZ v7 z8 p0.2.1.2.1.2,S2 bK v9 z10 p0.2.1.2.2.2,S2 aZ v11 z12 p0.2.2,S2 bK v13 z14 p1] (fun x:Gf=>x.1) (fun x l=>Ar dH.raw x.1 x.2::jW bV x.2 r::l) (fun _ l=>l):=by
 refine aT.of Tryz.func150 rfl Tryz.ntmps150 rfl fun c=>?_
 refine sqR<|qkAsg rfl<|dtN<|sqR<|qkMove rfl<|bnE h fun r1 w2 h=>aF (aJ.callQ Mv (Br U v13 z14 r1 w2) rfl (nY [10] rfl)) rfl fun x3=>qkAsg rfl<|dtN<|aH<|midL (B:=fP) (fun a6=>kQ  a6=some r) (fun a6 b7=>[(7,x3.1)]) (fun a6 b7=>[Ar dH.raw x3.1 b7,jW bV b7 a6]) ?_ ?_
 ·refine sqR<|qkMove rfl<|aB (lN rfl (aC.fact 10 rfl) rfl) rfl<|qkMove rfl<|dtN<|aM<|loopL (B:=fP) (fM U p0 p1 p2) (fun a12 b13=>[(0,vP bx0),(1,v13),(2,vU (p2)),(7,x3.1),(12,vI (List.length p1:Int)),(13,vI (a12.1))]) (fun a12 b13=>[Ar dH.raw x3.1 b13,jW bV b13 a12.2]) ((0:Int),r1) (x3.2) h SF (aW.refl _) ?_
  intro k14 a12 b13 h
  refine sqR<|qkLss rfl<|dtN<|aH ?_
  refine eN h rfl (fun h=>?_) fun h=>?_
  ·refine cF<|aH<|midL (B:=fP) (fun a18=>iB a12 (bD (fM U p0 p1 p2) k14) a18=some r) (fun a18 b19=>[(0,vP bx0),(1,v13),(2,vU (p2)),(7,x3.1),(12,vI (List.length p1:Int)),(13,vI (a12.1))]) (fun a18 b19=>[Ar dH.raw x3.1 b19,jW bV b19 a18]) ?_ ?_
   ·refine aM<|sqR<|qkMove rfl<|qkAsg rfl<|dtN<|sqR<|qkMove rfl<|qkMove rfl<|ckE h fun j20 h=>aB (DG rfl rfl j20) rfl<|qkAnd rfl<|qkEql rfl<|dtN ?_
    refine eN h rfl (fun h=>?_) fun h=>?_
    ·refine aK<|qkMove rfl<|qkMove rfl<|qkMove rfl<|qkMove rfl<|qkMove rfl<|qkMove rfl<|qkMove rfl<|qkMove rfl<|bnE h fun r22 w23 h=>aF (aJ.callQ My (uF U bx0 v1 v2 bx3 v4 v5 v6 v7 z8 v9 z10 v11 z12 v13 z14 r22 w23) rfl (nY [0,1,2,3,4,5,6,7,8,9,10] rfl)) rfl fun x24=>bnE h fun r25 w26 h=>aF (aJ.callQ TG (Aq U bx0 v1 v2 bx3 v4 v5 v6 v7 z8 v9 z10 v11 z12 v13 z14 r25 w26) rfl (nY [0,1,2,3,4,5,6,7,8,9,10] rfl)) rfl fun x27=>ckE h fun j28 h=>aB (dL rfl rfl (bF (i:=1) (j:=2) rfl rfl cW) rfl rfl j28) rfl<|bP (Know.one ((aV (aC.res 0 rfl) cW))) fun ho29=>jC (sY (k:=a12.1) 2 0 rfl rfl rfl j28) ?_
     refine mW 0 1 ⟨j28.1,by first|exact j28.2|simpa using j28.2⟩ rfl rfl rfl rfl rfl (by simp) ho29 rfl ?_
     refine dA<|inT ?_
     exact iG (List.set a12.2 (Int.toNat a12.1) r25) (List.set b13 (Int.toNat a12.1) x27) h SF rfl
    refine dO<|inT ?_
    exact iG (a12.2) (b13) h SF rfl
   intro a18 b19 h
   unfold iB at h
   refine aK<|qkAdd rfl<|qkMove rfl<|dtN ?_
   exact xO ((wI .i64 (a12.1+(1:Int))),a18) (b19) h SF rfl
  refine fL ?_
  exact iG (a12.2) (b13) h SF rfl
 intro a6 b7 h
 unfold kQ at h
 refine sqR<|qkMove rfl<|qkAsg rfl<|dtN<|aP ?_
 cases h
 exact gV (x3.1,b7) rfl rfl (RV.tmp rfl) (aW.refl _) aD.nil
end
section
def tU  (a2:Int):Option (Int):=
 some (a2)
def qI (a7:dM) (ag6:c_->Option (Int)) (a12:Int):Option (Int):=
 ag6 (a12,(wI .i64 (a7.2+(1:Int))))
def nV (p0:Int) (g1:Int->Option Bool) (a7:dM) (ag6:c_->Option (Int)):Option (Int):=
 if a7.2<p0 then(Option.bind (g1 a7.2) fun r14=>(if r14=true then(ck (0<=a7.2) (qI a7 ag6 (CU .u32 a7.1 (vN .u32 (1:Int) a7.2))))else(qI a7 ag6 (a7.1))))else(tU  (a7.1))
def vD (U:Nat) (p0:Int) (g1:Int->Option Bool):Option (Int):=
 bD (nV p0 g1) U ((0:Int),(0:Int))
theorem Tq:aN Tryz.prog 114:=Tryz.call114
theorem Iy (U:Nat) {p0:Int} {g1:Int->Option Bool} (f1:FuncId) (cs1:fP) (Lf:List aR) (hb_g1:aN Tryz.prog f1) (hm_g1:∀(y0:Int) (r:Bool),g1 y0=some r->aT Tryz.prog f1 ([vI (y0)]++cs1).toArray Lf (fun _:Unit=>vB (r)) (fun _ l=>l) (fun _ l=>l)) (r:Int) (h:vD U p0 g1=some r):
  aT Tryz.prog 114 #[vI (p0),Value.func (.func f1) #[] (cs1).toArray] ([]++Lf) (fun x:Unit=>vU (r)) (fun x l=>l) (fun _ l=>l):=by
 refine aT.of Tryz.func114 rfl Tryz.ntmps114 rfl fun c=>?_
 unfold vD at h
 refine sqR<|qkAsg rfl<|dtN<|sqR<|qkAsg rfl<|dtN<|aH<|wW (B:=Unit) (fun a2=>tU  a2=some r) (fun a2 b3=>[(5,vU (a2))]) (fun a2 b3=>[]) (fun a2 b3=>([]++Lf)) ?_ ?_
 ·refine sqR<|qkMove rfl<|qkMove rfl<|dtN<|aM<|Em (B:=Unit) (nV p0 g1) (fun a7 b8=>[(1,Value.func (.func f1) #[] (cs1).toArray),(5,vU (a7.1)),(7,vI (p0)),(8,vI (a7.2))]) (fun a7 b8=>[]) (fun a7 b8=>([]++Lf)) ((0:Int),(0:Int)) () h SF (aW.refl _) (aD.refl _ _) ?_
  intro k9 a7 b8 h
  refine sqR<|qkLss rfl<|dtN<|aH ?_
  refine eN h rfl (fun h=>?_) fun h=>?_
  ·refine cF<|aH<|wW (B:=Unit) (fun a12=>qI a7 (bD (nV p0 g1) k9) a12=some r) (fun a12 b13=>[(1,Value.func (.func f1) #[] (cs1).toArray),(5,vU (a12)),(7,vI (p0)),(8,vI (a7.2))]) (fun a12 b13=>[]) (fun a12 b13=>([]++Lf)) ?_ ?_
   ·refine aM<|sqR<|qkMove rfl<|qkAsg rfl<|dtN<|sqR<|qkMove rfl<|qkMove rfl<|bnE h fun r14 w15 h=>aF (oF (vs:=[vI (a7.2)]) (cs:=cs1) hb_g1 rfl (hm_g1 a7.2 r14 w15) rfl (aD.tail _) (fun _ _=>rfl)) rfl fun x16=>dtN ?_
    refine Ab h rfl (fun _ h=>?_) fun _ h=>?_
    ·refine aK<|qkMove rfl<|qkMove rfl<|ckE h fun j18 h=>aB (EV rfl rfl j18) rfl<|aB (Lb rfl rfl) rfl<|qkAsg rfl<|dA<|inT ?_
     exact iG (CU .u32 a7.1 (vN .u32 (1:Int) a7.2)) () h SF rfl
    refine dO<|inT ?_
    exact iG (a7.1) () h SF rfl
   intro a12 b13 h
   unfold qI at h
   refine aK<|qkAdd rfl<|qkMove rfl<|dtN ?_
   exact xO (a12,(wI .i64 (a7.2+(1:Int)))) () h SF rfl
  refine fL ?_
  exact iG (a7.1) () h SF rfl
 intro a2 b3 h
 unfold tU at h
 refine sqR<|qkMove rfl<|qkAsg rfl<|dtN<|aP ?_
 cases h
 exact kW rfl
end
section
def gX (U:Nat) (p0:Int) (p1:Dx) (p2:bG):Option (Bool):=
 Option.bind (cZ U ((((p1.1.1,p1.1.2.1,p1.1.2.2)),((((p1.2.1.1.1,p1.2.1.1.2.1,p1.2.1.1.2.2)),((p1.2.1.2.1.1,p1.2.1.2.1.2)),p1.2.1.2.2.1,p1.2.1.2.2.2)),p1.2.2)) p2 p0) fun r1=>(some (decide ((0:Int)<=r1)))
theorem Ts:aN Tryz.prog 115:=Tryz.call115
theorem wJ (U:Nat) {p0:Int} {p1:Dx} {p2:bG} (bx0:Nat)  (bx1:Nat)  (v2:Value)  (v3:Value)  (bx4:Nat)  (v5:Value)  (v6:Value)  (v7:Value)  (v8:Value)  (z9:mT)  (v10:Value)  (z11:qK)  (v12:Value)  (z13:mT)  (bx14:Nat)  (v15:Value)  (z16:qK) (r:Bool) (h:gX U p0 p1 p2=some r):
  aT Tryz.prog 115 #[vI (p0),vP bx0,vP bx14] [bT bx0 [vP bx1] 103,bT bx1 [vS (p1.1.1),v2,v3,vP bx4,v12] 170,Sl aI v2 p1.1.2.1,Sl aE v3 p1.1.2.2,bT bx4 [vS (p1.2.1.1.1),v5,v6,v7,v8,vI (p1.2.1.2.2.1),v10] 218,Sl aI v5 p1.2.1.1.2.1,Sl aE v6 p1.2.1.1.2.2,Sl bK v7 p1.2.1.2.1.1,S2 aZ v8 z9 p1.2.1.2.1.2,S2 bK v10 z11 p1.2.1.2.2.2,S2 aZ v12 z13 p1.2.2,bT bx14 [v15] 38,S2 bK v15 z16 p2] (fun x:Unit=>vB (r)) (fun x l=>l) (fun _ l=>l):=by
 refine aT.of Tryz.func115 rfl Tryz.ntmps115 rfl fun c=>?_
 refine sqR<|qkAsg rfl<|dtN<|sqR<|aB (cQ rfl (aC.fact 0 rfl) rfl rfl rfl) rfl<|aB (cQ rfl (aC.fact 11 rfl) rfl rfl rfl) rfl<|qkMove rfl<|bnE h fun r1 w2 h=>aF (aJ.callQ My (uF U bx1 v2 v3 bx4 v5 v6 v7 v8 z9 v10 z11 v12 z13 v15 z16 r1 w2) rfl (nY [1,2,3,4,5,6,7,8,9,10,12] rfl)) rfl fun x3=>aB (Bf rfl rfl) rfl<|qkAsg rfl<|dtN<|aP ?_
 cases h
 exact kW rfl
end
section
def cT (U:Nat) (p0:Dx) (p1:bG):Option (Int):=
 Option.bind (vD U (List.length p0.2.2:Int) (fun y0=>gX U y0 ((((p0.1.1,p0.1.2.1,p0.1.2.2)),((((p0.2.1.1.1,p0.2.1.1.2.1,p0.2.1.1.2.2)),((p0.2.1.2.1.1,p0.2.1.2.1.2)),p0.2.1.2.2.1,p0.2.1.2.2.2)),p0.2.2)) p1)) fun r4=>(some (r4))
theorem Qe:aN Tryz.prog 80:=Tryz.call80
theorem rQ (U:Nat) {p0:Dx} {p1:bG} (bx0:Nat)  (v1:Value)  (v2:Value)  (bx3:Nat)  (v4:Value)  (v5:Value)  (v6:Value)  (v7:Value)  (z8:mT)  (v9:Value)  (z10:qK)  (v11:Value)  (z12:mT)  (v13:Value)  (z14:qK) (r:Int) (h:cT U p0 p1=some r):
  aT Tryz.prog 80 #[vP bx0,v13] [bT bx0 [vS (p0.1.1),v1,v2,vP bx3,v11] 170,Sl aI v1 p0.1.2.1,Sl aE v2 p0.1.2.2,bT bx3 [vS (p0.2.1.1.1),v4,v5,v6,v7,vI (p0.2.1.2.2.1),v9] 218,Sl aI v4 p0.2.1.1.2.1,Sl aE v5 p0.2.1.1.2.2,Sl bK v6 p0.2.1.2.1.1,S2 aZ v7 z8 p0.2.1.2.1.2,S2 bK v9 z10 p0.2.1.2.2.2,S2 aZ v11 z12 p0.2.2,S2 bK v13 z14 p1] (fun x:Unit=>vU (r)) (fun x l=>l) (fun _ l=>l):=by
 refine aT.of Tryz.func80 rfl Tryz.ntmps80 rfl fun c=>?_
 refine sqR<|aF (aJ.box (cs:=[vP bx0]) rfl rfl) rfl fun b1=>bP (Know.one (aC.sl (aC.fact 10 rfl))) fun ho3=>?_
 refine aF (aJ.box (cs:=[v13]) rfl (by rw[iN ho3])) rfl fun b2=>?_
 refine qkAsg rfl<|dtN<|sqR<|qkLd 1 rfl<|aB (bL rfl) rfl<|qkFld rfl<|aB (cQ rfl (aC.fact 0 rfl) rfl rfl rfl) rfl<|aB (lN rfl (aC.fact 9 rfl) rfl) rfl<|aB (yJ (cs:=[.tmp 2,.tmp 3]) (vs:=[vP b1,vP b2]) rfl) rfl<|bnE h fun r4 w5 h=>aF (aJ.callQ Tq (Iy U 115 [vP b1,vP b2] [bT b1 [vP bx0] 103,bT bx0 [vS (p0.1.1),v1,v2,vP bx3,v11] 170,Sl aI v1 p0.1.2.1,Sl aE v2 p0.1.2.2,bT bx3 [vS (p0.2.1.1.1),v4,v5,v6,v7,vI (p0.2.1.2.2.1),v9] 218,Sl aI v4 p0.2.1.1.2.1,Sl aE v5 p0.2.1.1.2.2,Sl bK v6 p0.2.1.2.1.1,S2 aZ v7 z8 p0.2.1.2.1.2,S2 bK v9 z10 p0.2.1.2.2.2,S2 aZ v11 z12 p0.2.2,bT b2 [v13] 38,S2 bK v13 z14 p1] Ts (fun y0 r h=>wJ U b1 bx0 v1 v2 bx3 v4 v5 v6 v7 z8 v9 z10 v11 z12 b2 v13 z14 r h) r4 w5) rfl (aD.cons (aC.res 1 rfl) (aD.cons (aC.fact 0 rfl) (aD.cons (aC.fact 1 rfl) (aD.cons (aC.fact 2 rfl) (aD.cons (aC.fact 3 rfl) (aD.cons (aC.fact 4 rfl) (aD.cons (aC.fact 5 rfl) (aD.cons (aC.fact 6 rfl) (aD.cons (aC.fact 7 rfl) (aD.cons (aC.fact 8 rfl) (aD.cons (aC.fact 9 rfl) (aD.cons (aC.res 0 rfl) (nY [10] rfl)))))))))))))) rfl fun x6=>qkAsg rfl<|dtN<|aP ?_
 cases h
 exact wG rfl
end
end Go.Proofs.YtjlbcgddhnjcjaaGreatDoor
end
section
namespace Go.Proofs.YtjlbcgddhnjcjaaGreatDoor
open Go Go.Sx
section
abbrev RL:=E×List (Nat×E)
abbrev yF:=B_×GR×Int×bG
def Ea (R:List RL):Kr:=R.map fun r=>(r.1.ts,r.2.map fun s=>((s.1:Int),s.2.ts))
def GW (nv:Nat) (e:E):Bool:=e.wf nv false&&decide (e.depth<=100)&&decide (e.ts.length<=800)
def uN (nv:Nat) (R:List RL):Bool:=decide (R.length<=20)&&R.all fun r=>GW nv r.1&&decide (r.2.length<=20)&&r.2.all fun s=>decide (s.1<nv)&&GW nv s.2
instance:Inhabited E:=⟨.lf 1 0⟩
def Mt (g:GR) (v i:Nat):Int:=xF (row g (iH (row g v) i).1.toNat) (v:Int)
def d_ (g:GR):bG:=(List.range g.2.length).map fun v=>(List.range (row g v).length).map (Mt g v)
def xQ (S:yF) (c:bG) (v:Nat) (e:E):Int:=e.den (Vj (S,c,(v:Int),[])) (row S.2.1 v).length (-1)
def uR (S:yF) (R:List RL) (c:bG) (v:Nat):Int:=yP (R.map fun r=>xQ S c v r.1)
def Li (kind:Int) (b:dM) (x:Int):Int:=if b.1<=x∧x<=b.2 then x else if kind=3 then -1 else if x<b.1 then b.1 else b.2
def OQ (S:yF) (vars:List Er) (c:bG) (v:Nat) (st:aL) (s:Nat×E):aL:=st.set s.1 (Li (at' vars (s.1:Int)).2.1 (Ff S.2.1 vars v s.1) (xQ S c v s.2))
def zF (S:yF) (vars:List Er) (R:List RL) (c:bG) (v:Nat) (i:Int):aL:=(at' R i).2.foldl (OQ S vars c v) (at' c (v:Int))
def Xi (S:yF) (R:List RL) (c:bG):Nat:=qA (fun v=>decide (0<=uR S R c v)) S.2.1.2.length
def qH (S:yF) (vars:List Er) (R:List RL) (c:bG) (t:Nat):bG:=(List.range c.length).map fun v=>if t.testBit v=true then zF S vars R c v (uR S R c v)else at' c (v:Int)
structure pV (g:GR) (nv:Nat) (c:bG):Prop where
 len:c.length=g.2.length
 row:∀v:Nat,v<g.2.length->(at' c (v:Int)).length=nv
theorem U_.shape {g:GR} {c:bG} {vars:List Er} (h:U_ g c vars):pV g vars.length c:=⟨h.len,h.row⟩
section
variable {S:yF} {nv:Nat} {c:List (List Int)} {v:Nat}
theorem wok (hS:S.2.2.2=d_ S.2.1) (hV:VG S.2.1) (hc:pV S.2.1 nv c) (hv:v<S.2.1.2.length) (ts:List (Int×Int)):YR (S,c,(v:Int),ts) nv S.2.1.2.length v:=by
 refine⟨rfl,hv,rfl,hV.len,hc.len,hc.row,fun u hu i hi=> ?_,by show S.2.2.2.length=_;rw[hS];simp[d_],fun u hu=>by
  show(at' S.2.2.2 (u:Int)).length=_
  rw[hS,d_,xY _ hu,List.length_map,List.length_range]⟩
 obtain⟨w,h1,h2⟩:=hV.to hu hi
 show 0<=(iH (row S.2.1 u) i).1∧(iH (row S.2.1 u) i).1<_
 rw[h2];omega
theorem Ky (hS:S.2.2.2=d_ S.2.1) (hV:VG S.2.1) (hc:pV S.2.1 nv c) (hv:v<S.2.1.2.length) {e:E} (he:GW nv e=true):eK 1000 S c (v:Int) e.ts=some (xQ S c v e):=by
 simp only[GW,Bool.and_eq_true,decide_eq_true_eq]at he
 have h24:=hV.n24
 have hdeg:=(hV.node v hv).deg
 unfold eK
 have:=SA (wok hS hV hc hv e.ts) (deg:=(row S.2.1 v).length) rfl (by omega) he.2 e false 1000 0 (-1) [] [] (by simp) rfl he.1.1 (fun h=>by cases h) (by omega)
 rw[bA (show bE 1000 _ (0:Int) (-1)=_ from this)]
 rfl
end
section
variable {p:B_} {g:GR} {gr:Int} {R:List RL} {nv:Nat} {c:List (List Int)} {v:Nat}
theorem Cz (hz:p.2.2.map vQ=Ea R):p.2.2.length=R.length:=by simpa [Ea]using congrArg List.length hz
theorem Nj (hz:p.2.2.map vQ=Ea R) {i:Nat} (hi:i<R.length):vQ (at' p.2.2 (i:Int))=((at' R (i:Int)).1.ts,(at' R (i:Int)).2.map fun s=>((s.1:Int),s.2.ts)):=by
 have hl:=Cz hz
 have:=congrArg (fun q=>q[i]?) hz
 simp only[Ea,List.getElem?_map,List.getElem?_eq_getElem hi,List.getElem?_eq_getElem (show i<p.2.2.length by omega),Option.map_some,Option.some.injEq]at this
 rw[jY hi,jY (show i<p.2.2.length by omega)];exact this
theorem No (hR:uN nv R=true) {i:Nat} (hi:i<R.length):GW nv (at' R (i:Int)).1=true∧(at' R (i:Int)).2.length<=20∧∀s∈(at' R (i:Int)).2,s.1<nv∧GW nv s.2=true:=by
 simp only[uN,Bool.and_eq_true,List.all_eq_true,decide_eq_true_eq]at hR
 have:=hR.2 (at' R (i:Int)) (by rw[jY hi];exact List.getElem_mem hi)
 exact⟨this.1.1,this.1.2,fun s hs=>this.2 s hs⟩
theorem UI (hR:uN nv R=true):R.length<=20:=by
 simp only[uN,Bool.and_eq_true,decide_eq_true_eq]at hR
 exact hR.1
theorem QS (hV:VG g) (hc:pV g nv c) (hv:v<g.2.length) (hz:p.2.2.map vQ=Ea R) (hR:uN nv R=true) {i:Nat} (hi:i<R.length):iD 1000 (p,g,gr,d_ g) c (v:Int) (i:Int)=some (nz (xQ (p,g,gr,d_ g) c v (at' R (i:Int)).1)):=by
 have hl:=Cz hz
 have e:(at' p.2.2 (i:Int)).2.1.2=(at' R (i:Int)).1.ts:=congrArg Prod.fst (Nj hz hi)
 unfold iD
 dsimp only
 rw[cN (by omega),e]
 rw[bA (show eK 1000 _ c (v:Int) _=_ from Ky (S:=(p,g,gr,d_ g)) rfl hV hc hv (No hR hi).1)]
 rfl
theorem Np (hV:VG g) (hc:pV g nv c) (hv:v<g.2.length) (hz:p.2.2.map vQ=Ea R) (hR:uN nv R=true) (tab:List (List (Int×Int))):cZ 1000 (p,(p,g,gr,d_ g),tab) c (v:Int)=some (uR (p,g,gr,d_ g) R c v):=by
 have hl:=Cz hz
 have h20:=UI hR
 let l:=R.map fun r=>xQ (p,g,gr,d_ g) c v r.1
 have hll:l.length=R.length:=by simp[l]
 have hat:∀i,i<R.length->at' l (i:Int)=xQ (p,g,gr,d_ g) c v (at' R (i:Int)).1:=fun i hi=>by
  rw[jY (by omega),jY hi];simp[l]
 have stp:∀(k:Nat) ag,k<R.length->iA 1000 (p,(p,g,gr,d_ g),tab) c (v:Int) (k:Int) ag=if nz (at' l (k:Int))=true then some (k:Int)else ag (((k+1:Nat):Int)):=by
  intro k ag hk
  unfold iA
  dsimp only
  rw[if_pos (by omega),bA (show iD 1000 _ c (v:Int) (k:Int)=_ from QS hV hc hv hz hR hk),hat k hk,eC (by omega)]
 unfold cZ uR
 by_cases hx:∃i,i<R.length∧at' l (i:Int)≠0
 ·obtain⟨i,hi,h0⟩:=hx
  obtain⟨m,h1,h2,h3⟩:=JC (p:=fun i=>at' l (i:Int)≠0) i h0
  have h3:∀j,j<m->at' l (j:Int)=0:=fun j hj=>Decidable.not_not.1 (h3 j hj)
  rw[show yP _=(m:Int)from Ag (l:=l) (by omega) h2 h3]
  exact dV (K:=some (m:Int)) m (fun k=>(k:Int)) (fun k ag hk=>by rw[stp k ag (by omega),if_neg (by simp[nz,h3 k hk])]) (fun ag=>by rw[stp m ag (by omega),if_pos (by simpa [nz]using h2)]) 1000 (by omega)
 ·have hx:∀j,j<l.length->at' l (j:Int)=0:=fun j hj=>Decidable.not_not.1 fun e=>hx ⟨j,by omega,e⟩
  rw[show yP _=(-1:Int)from Af (l:=l) hx]
  exact dV (K:=some (-1)) R.length (fun k=>(k:Int)) (fun k ag hk=>by rw[stp k ag hk,if_neg (by simp[nz,hx k (by omega)])]) (fun ag=>by
   unfold iA kP
   dsimp only
   rw[if_neg (by omega)]) 1000 (by omega)
theorem JZ (S:yF) (R:List RL) (c:List (List Int)) (v:Nat):uR S R c v = -1∨∃i:Nat,uR S R c v=(i:Int)∧i<R.length∧xQ S c v (at' R (i:Int)).1≠0:=by
 let l:=R.map fun r=>xQ S c v r.1
 by_cases hx:∃i,i<l.length∧at' l (i:Int)≠0
 ·obtain⟨i,hi,h0⟩:=hx
  obtain⟨m,h1,h2,h3⟩:=JC (p:=fun i=>at' l (i:Int)≠0) i h0
  have h3:∀j,j<m->at' l (j:Int)=0:=fun j hj=>Decidable.not_not.1 (h3 j hj)
  have hm:m<R.length:=by simp[l]at hi;omega
  refine .inr ⟨m,Ag (l:=l) (by omega) h2 h3,hm,?_⟩
  have:at' l (m:Int)=xQ S c v (at' R (m:Int)).1:=by rw[jY (by simpa [l]using hm),jY hm];simp[l]
  rw[<-this];exact h2
 ·exact .inl (Af (l:=l) fun j hj=>Decidable.not_not.1 fun e=>hx ⟨j,hj,e⟩)
theorem Lm (hV:VG g) (hc:pV g nv c) (hz:p.2.2.map vQ=Ea R) (hR:uN nv R=true) {tab:List (List (Int×Int))} (ht:tab.length=g.2.length):cT 1000 (p,(p,g,gr,d_ g),tab) c=some ((Xi (p,g,gr,d_ g) R c:Nat):Int):=by
 have h24:=hV.n24
 unfold cT vD
 let q:Nat->Bool:=fun v=>decide (0<=uR (p,g,gr,d_ g) R c v)
 have:=dV (step:=nV (tab.length:Int) (fun y0=>gX 1000 y0 (p,(p,g,gr,d_ g),tab) c)) (K:=some ((qA q g.2.length:Nat):Int)) g.2.length (fun k=>(((qA q k:Nat):Int),(k:Int))) (fun k ag hk=>by
  have hm:=Cu q (k:=k) (by omega)
  unfold nV qI gX
  dsimp only
  rw[if_pos (by omega),bA (show Option.bind (cZ 1000 _ c (k:Int)) _=some (q k) by rw[bA (show cZ 1000 _ c (k:Int)=_ from Np hV hc hk hz hR tab)]),eC (by omega)]
  cases hq:q k with
  |true=>
   rw[if_pos rfl,cN (by omega),EZ hm (by omega)]
   simp only[qA,hq,if_true]
  |false=>
   rw[if_neg (by decide)]
   simp only[qA,hq];rfl) (fun ag=>by
  unfold nV tU
  dsimp only
  rw[if_neg (by omega)]) 1000 (by omega)
 rw[bA (show bD _ 1000 ((0:Int),(0:Int))=_ from this)]
 rfl
end
end
section
theorem Qh (f:Nat) (k:Int) (b:dM) (x:Int):sF f k b x=some (Li k b x):=by
 unfold sF qN Li
 by_cases h1:b.1<=x
 ·by_cases h2:x<=b.2
  ·simp only[h1,h2,and_self,if_true,decide_true]
  ·simp only[h1,h2,and_false,if_true,if_false,decide_false,Bool.false_eq_true]
   split
   ·rfl
   ·split<;>rfl
 ·simp only[h1,false_and,if_false,Bool.false_eq_true]
  split
  ·rfl
  ·split<;>rfl
theorem Kg {S:yF} {vars:List Er} {c:bG} {v:Nat} (l:List (Nat×E)) (st:aL):(l.foldl (OQ S vars c v) st).length=st.length:=by
 induction l generalizing st with
 |nil=>rfl
 |cons s l ih=>rw[List.foldl_cons,ih];simp[OQ]
theorem OD {S:yF} {vars:List Er} {R:List RL} {c:bG} {v:Nat} {i:Int}:(zF S vars R c v i).length=(at' c (v:Int)).length:=Kg _ _
section
variable {p:B_} {g:GR} {gr:Int} {R:List RL} {c:List (List Int)} {v:Nat}
theorem Uy (hV:VG g) (hp:zY g p.2.1) (hc:pV g p.2.1.length c) (hv:v<g.2.length) (hz:p.2.2.map vQ=Ea R) (hR:uN p.2.1.length R=true) {i:Nat} (hi:i<R.length):
  iZ 1000 (p,(p,g,gr,d_ g),zA g p.2.1) c (v:Int) (i:Int)=some (zF (p,g,gr,d_ g) p.2.1 R c v (i:Int)):=by
 have h24:=hV.n24
 have hcl:=hc.len
 have hrow:=hc.row v hv
 have hvl:=hp.len
 have hl:=Cz hz
 have hpa:=Nj hz hi
 obtain⟨-,hs20,hsets⟩:=No hR hi
 have htab:(zA g p.2.1).length=g.2.length:=by simp[zA]
 have htv:at' (zA g p.2.1) (v:Int)=A_ g p.2.1 v:=xY _ hv
 have hrt:(A_ g p.2.1 v).length=p.2.1.length:=by simp[A_]
 have e2:(at' p.2.2 (i:Int)).2.2.2.map (fun s=>(s.1,s.2.2))=(at' R (i:Int)).2.map fun s=>((s.1:Int),s.2.ts):=congrArg Prod.snd hpa
 have hsl:(at' p.2.2 (i:Int)).2.2.2.length=(at' R (i:Int)).2.length:=by simpa using congrArg List.length e2
 unfold iZ
 dsimp only
 rw[cN (by omega),cN (by simp;omega),cN (by omega),List.nil_append]
 unfold zF
 let sets:=(at' R (i:Int)).2
 have:=dV (step:=h_ 1000 (p,(p,g,gr,d_ g),zA g p.2.1) c (v:Int) (i:Int)) (K:=some (sets.foldl (OQ (p,g,gr,d_ g) p.2.1 c v) (at' c (v:Int)))) sets.length (fun k=>((k:Int),(sets.take k).foldl (OQ (p,g,gr,d_ g) p.2.1 c v) (at' c (v:Int)))) (fun k ag hk=>by
  have hk2:k<(at' p.2.2 (i:Int)).2.2.2.length:=by rw[hsl];exact hk
  have ek:((at' (at' p.2.2 (i:Int)).2.2.2 (k:Int)).1,(at' (at' p.2.2 (i:Int)).2.2.2 (k:Int)).2.2)=(((at' sets (k:Int)).1:Int),(at' sets (k:Int)).2.ts):=by
   have:=congrArg (fun q=>q[k]?) e2
   simp only[List.getElem?_map,List.getElem?_eq_getElem hk2,List.getElem?_eq_getElem (show k<(at' R (i:Int)).2.length from hk),Option.map_some,Option.some.injEq]at this
   rw[jY hk2,jY hk];exact this
  have ek1:=congrArg Prod.fst ek
  have ek2:=congrArg Prod.snd ek
  dsimp only at ek1 ek2
  obtain⟨hs1,hs2⟩:=hsets (at' sets (k:Int)) (by rw[jY hk];exact List.getElem_mem hk)
  have hstl:((sets.take k).foldl (OQ (p,g,gr,d_ g) p.2.1 c v) (at' c (v:Int))).length=p.2.1.length:=by rw[Kg,hrow]
  have hcell:at' (A_ g p.2.1 v) ((at' sets (k:Int)).1:Int)=Ff g p.2.1 v (at' sets (k:Int)).1:=xY _ hs1
  have hsk:sets.length<=20:=hs20
  unfold h_
  dsimp only
  rw[if_pos (by omega),cN (by omega),ek1,ek2,bA (show eK 1000 _ c (v:Int) _=_ from Ky (S:=(p,g,gr,d_ g)) rfl hV hc hv hs2),cN (by omega),cN (by omega),htv,cN (by omega),hcell,bA (Qh 1000 _ _ _),cN (by omega),eC (by omega),Int.toNat_natCast,x_ hk,List.foldl_append]
  rfl) (fun ag=>by
  unfold h_ kO
  dsimp only
  rw[if_neg (by show¬(sets.length:Int)<_;rw[hsl];exact Int.lt_irrefl _),List.take_length]) 1000 (by show(at' R (i:Int)).2.length<1000;omega)
 exact this
theorem UL (hV:VG g) (hp:zY g p.2.1) (hc:pV g p.2.1.length c) (hz:p.2.2.map vQ=Ea R) (hR:uN p.2.1.length R=true) {t:Nat} (ht32:t<4294967296) (ht:∀v,t.testBit v=true->0<=uR (p,g,gr,d_ g) R c v):
  gC 1000 (p,(p,g,gr,d_ g),zA g p.2.1) c (t:Int)=some (qH (p,g,gr,d_ g) p.2.1 R c t):=by
 have h24:=hV.n24
 have hcl:=hc.len
 have hvl:=hp.len
 unfold gC
 rw[bA (MJ c (by omega) (fun v hv=>by rw[hc.row v (by omega)];omega))]
 let f:Nat->List Int:=fun v=>if t.testBit v=true then zF (p,g,gr,d_ g) p.2.1 R c v (uR (p,g,gr,d_ g) R c v)else at' c (v:Int)
 let Q:Nat->List (List Int):=fun k=>(List.range k).map f++c.drop k
 have hQ:∀k,k<=c.length->(Q k).length=c.length:=fun k hk=>by simp[Q];omega
 have hset:∀k,k<c.length->(Q k).set k (f k)=Q (k+1):=fun k hk=>by
  show((List.range k).map f++c.drop k).set k (f k)=(List.range (k+1)).map f++c.drop (k+1)
  rw[List.set_append_right _ _ (by simp),List.length_map,List.length_range,Nat.sub_self,List.drop_eq_getElem_cons hk,List.set_cons_zero,List.range_succ,List.map_append,List.map_singleton,List.append_assoc]
  rfl
 have hkeep:∀k,k<c.length->f k=at' c (k:Int)->Q k=Q (k+1):=fun k hk hf=>by
  show(List.range k).map f++c.drop k=(List.range (k+1)).map f++c.drop (k+1)
  rw[List.range_succ,List.drop_eq_getElem_cons hk,List.map_append,List.map_singleton,hf,jY hk]
  simp
 rw[show c=Q 0 by simp[Q]]
 refine dV (step:=fM 1000 (p,(p,g,gr,d_ g),zA g p.2.1) (Q 0) (t:Int)) (K:=some (qH (p,g,gr,d_ g) p.2.1 R (Q 0) t)) c.length (fun k=>((k:Int),Q k)) (fun k ag hk=> ?_) (fun ag=> ?_) 1000 (by omega)
 ·rw[show Q 0=c by simp[Q]]
  unfold fM iB
  dsimp only
  rw[if_pos (by omega),cN (by omega),eC (by omega)]
  by_cases hb:t.testBit k=true
  ·obtain⟨i,hi,hil,_⟩:=(JZ (p,g,gr,d_ g) R c k).resolve_left (fun e=>by have:=ht k hb;omega)
   rw[if_pos ((Lv (by omega) ht32).2 hb),bA (show cZ 1000 _ c (k:Int)=_ from Np hV hc (by omega) hz hR _),hi,bA (show iZ 1000 _ c (k:Int) (i:Int)=_ from Uy hV hp hc (by omega) hz hR hil),cN (by rw[hQ k (by omega)];omega),Int.toNat_natCast]
   have:zF (p,g,gr,d_ g) p.2.1 R c k (i:Int)=f k:=by simp only[f];rw[if_pos hb,hi]
   rw[this,hset k hk]
  ·rw[if_neg (fun q=>hb ((Lv (by omega) ht32).1 q)),hkeep k hk (by simp only[f];rw[if_neg hb])]
 ·rw[show Q 0=c by simp[Q]]
  unfold fM kQ
  dsimp only
  rw[if_neg (by omega)]
  simp[Q,qH,f]
theorem OS {S:yF} {vars:List Er} {t:Nat}:(qH S vars R c t).length=c.length:=by simp[qH]
theorem Kj {S:yF} {vars:List Er} {t:Nat} (hv:v<c.length):at' (qH S vars R c t) (v:Int)=if t.testBit v=true then zF S vars R c v (uR S R c v)else at' c (v:Int):=xY _ hv
theorem pV.step {S:yF} {vars:List Er} {t:Nat} {nv:Nat} {g:GR} (hc:pV g nv c):pV g nv (qH S vars R c t):=⟨by rw[OS,hc.len],fun v hv=>by
 rw[Kj (by rw[hc.len];exact hv)]
 split
 ·rw[OD,hc.row v hv]
 ·exact hc.row v hv⟩
end
end
end Go.Proofs.YtjlbcgddhnjcjaaGreatDoor
end
section
namespace Go.Proofs.YtjlbcgddhnjcjaaGreatDoor
open Go.Sx
section
def lV  (a1:Unit):Option (Bool):=
 some (true)
def lW (p0:aL) (a5:Int) (ag4:(Int)->Option (Bool)):Option (Bool):=
 if a5<(List.length p0:Int)then(ck (0<=a5∧a5<(List.length p0:Int)) (if(rX .u32 (at' p0 a5) (16777215:Int))≠(0:Int)then(some (false))else(ag4 (wI .i64 (a5+(1:Int))))))else(lV  (()))
def iM (U:Nat) (p0:aL):Option (Bool):=
 bD (lW p0) U (0:Int)
theorem MA:aN Tryz.prog 188:=Tryz.call188
theorem wC (U:Nat) {p0:aL} (v0:Value) (r:Bool) (h:iM U p0=some r):
  aT Tryz.prog 188 #[v0] [Sl sW v0 p0] (fun x:Unit=>vB (r)) (fun x l=>l) (fun _ l=>l):=by
 refine aT.of Tryz.func188 rfl Tryz.ntmps188 rfl fun c=>?_
 unfold iM at h
 refine sqR<|qkAsg rfl<|dtN<|aH<|midU (fun a1=>lV  a1=some r) (fun a1 b2=>[]) (fun a1 b2=>[]) ?_ ?_
 ·refine sqR<|qkMove rfl<|qkLen (aC.fact 0 rfl) rfl<|qkMove rfl<|dtN<|aM<|loopL (lW p0) (fun a5 b6=>[(5,v0),(6,vI (List.length p0:Int)),(7,vI (a5))]) (fun a5 b6=>[]) (0:Int) () h SF (aW.refl _) ?_
  intro k7 a5 b6 h
  refine sqR<|qkLss rfl<|dtN<|aH ?_
  refine eN h rfl (fun h=>?_) fun h=>?_
  ·refine cF<|aH<|aM<|sqR<|ckE h fun j9 h=>aB (aY rfl rfl (aC.fact 0 rfl) rfl rfl j9) rfl<|aB (bY rfl (aC.fact 0 rfl) rfl rfl rfl zV j9) rfl<|qkAsg rfl<|dtN<|sqR<|qkMove rfl<|aB (Cf rfl rfl) rfl<|qkNeq rfl<|dtN ?_
   refine eN h rfl (fun h=>?_) fun h=>?_
   ·refine sqR<|qkAsg rfl<|dtN<|aP<|bJ<|aG<|aG<|bJ<|aG ?_
    cases h
    exact kW rfl
   refine dO<|inT<|aK<|qkAdd rfl<|qkMove rfl<|dtN ?_
   exact xO (wI .i64 (a5+(1:Int))) () h SF rfl
  refine fL ?_
  exact iG () (()) h SF rfl
 intro a1 b2 h
 unfold lV at h
 refine sqR<|qkAsg rfl<|dtN<|aP ?_
 cases h
 exact kW rfl
end
section
def jS  (a8:Bool):Option (Bool):=
 some (a8)
def f_ (U:Nat) (p0:Bu) (a3:Bool):Option (Bool):=
 if a3=true then(some (false))else(if(wI .i64 (p0.2.2.1+(1:Int)))<p0.2.2.2.1 then(some (false))else(if p0.1<=p0.2.1 then(if p0.2.1<=(wI .i64 ((24:Int)*p0.1))then(Option.bind (iM U ([p0.2.2.2.2])) fun r13=>(jS  (r13)))else(jS  (false)))else(jS  (false))))
def nK (U:Nat) (p0:Bu):Option (Bool):=
 if p0.1<(0:Int)then(f_ U p0 (true))else(if(4096:Int)<p0.1 then(f_ U p0 (true))else(if p0.2.2.1<(0:Int)then(f_ U p0 (true))else(if p0.2.2.2.1<p0.2.2.1 then(f_ U p0 (true))else(f_ U p0 (decide (p0.1<p0.2.2.2.1))))))
theorem TH:aN Tryz.prog 187:=Tryz.call187
theorem Ee (U:Nat) {p0:Bu} (r:Bool) (h:nK U p0=some r):
  aT Tryz.prog 187 #[Value.agg #[vI (p0.1),vI (p0.2.1),vI (p0.2.2.1),vI (p0.2.2.2.1),vU (p0.2.2.2.2)]] [] (fun x:Unit=>vB (r)) (fun x l=>l) (fun _ l=>l):=by
 refine aT.of Tryz.func187 rfl Tryz.ntmps187 rfl fun c=>?_
 refine sqR<|aF (aJ.box (cs:=[vI (p0.1),vI (p0.2.1),vI (p0.2.2.1),vI (p0.2.2.2.1),vU (p0.2.2.2.2)]) rfl rfl) rfl fun b1=>qkAsg rfl<|dtN<|aH<|aH<|midU (fun a3=>f_ U p0 a3=some r) (fun a3 b4=>[(1,vP b1),(29,vB (a3))]) (fun a3 b4=>[bT b1 [vI (p0.1),vI (p0.2.1),vI (p0.2.2.1),vI (p0.2.2.2.1),vU (p0.2.2.2.2)] 61]) ?_ ?_
 ·refine aK<|qkFld rfl<|qkLd 0 rfl<|qkLss rfl<|qkMove rfl ?_
  refine Bi h rfl (fun _ h=>?_) fun _ h=>?_
  ·refine gdSkip rfl<|gdSkip rfl<|gdSkip rfl<|qkPkT rfl<|qkMove rfl<|gdSkip rfl<|gdSkip rfl<|gdSkip rfl<|qkPkT rfl<|qkMove rfl<|gdSkip rfl<|gdSkip rfl<|gdSkip rfl<|gdSkip rfl<|gdSkip rfl<|qkPkT rfl<|qkMove rfl<|gdSkip rfl<|gdSkip rfl<|gdSkip rfl<|gdSkip rfl<|gdSkip rfl<|qkPkT rfl<|dtN ?_
   exact iG (true) () h SF rfl
  refine aS rfl (dZ rfl rfl rfl rfl rfl) rfl<|aS rfl (fK 0 rfl rfl rfl rfl rfl) rfl<|aS rfl (vM rfl rfl) rfl<|qkPkF rfl<|qkMove rfl ?_
  refine Bi h rfl (fun _ h=>?_) fun _ h=>?_
  ·refine gdSkip rfl<|gdSkip rfl<|gdSkip rfl<|qkPkT rfl<|qkMove rfl<|gdSkip rfl<|gdSkip rfl<|gdSkip rfl<|gdSkip rfl<|gdSkip rfl<|qkPkT rfl<|qkMove rfl<|gdSkip rfl<|gdSkip rfl<|gdSkip rfl<|gdSkip rfl<|gdSkip rfl<|qkPkT rfl<|dtN ?_
   exact iG (true) () h SF rfl
  refine aS rfl (dZ rfl rfl rfl rfl rfl) rfl<|aS rfl (fK 0 rfl rfl rfl rfl rfl) rfl<|aS rfl (Bg rfl rfl) rfl<|qkPkF rfl<|qkMove rfl ?_
  refine Bi h rfl (fun _ h=>?_) fun _ h=>?_
  ·refine gdSkip rfl<|gdSkip rfl<|gdSkip rfl<|gdSkip rfl<|gdSkip rfl<|qkPkT rfl<|qkMove rfl<|gdSkip rfl<|gdSkip rfl<|gdSkip rfl<|gdSkip rfl<|gdSkip rfl<|qkPkT rfl<|dtN ?_
   exact iG (true) () h SF rfl
  refine aS rfl (dZ rfl rfl rfl rfl rfl) rfl<|aS rfl (fK 0 rfl rfl rfl rfl rfl) rfl<|aS rfl (dZ rfl rfl rfl rfl rfl) rfl<|aS rfl (fK 0 rfl rfl rfl rfl rfl) rfl<|aS rfl (vM rfl rfl) rfl<|qkPkF rfl<|qkMove rfl ?_
  refine Bi h rfl (fun _ h=>?_) fun _ h=>?_
  ·refine gdSkip rfl<|gdSkip rfl<|gdSkip rfl<|gdSkip rfl<|gdSkip rfl<|qkPkT rfl<|dtN ?_
   exact iG (true) () h SF rfl
  refine aS rfl (dZ rfl rfl rfl rfl rfl) rfl<|aS rfl (fK 0 rfl rfl rfl rfl rfl) rfl<|aS rfl (dZ rfl rfl rfl rfl rfl) rfl<|aS rfl (fK 0 rfl rfl rfl rfl rfl) rfl<|aS rfl (vM rfl rfl) rfl<|qkPkF rfl<|dtN ?_
  exact iG (decide (p0.1<p0.2.2.2.1)) () h SF rfl
 intro a3 b4 h
 refine Ab h rfl (fun _ h=>?_) fun _ h=>?_
 ·refine sqR<|qkAsg rfl<|dtN<|aP<|aG ?_
  cases h
  exact wG rfl
 refine cF<|aH<|sqR<|qkFld rfl<|qkLd 0 rfl<|qkFld rfl<|qkLd 0 rfl<|qkAdd rfl<|aB (vM rfl rfl) rfl<|dtN ?_
 refine eN h rfl (fun h=>?_) fun h=>?_
 ·refine sqR<|qkAsg rfl<|dtN<|aP<|aG ?_
  cases h
  exact wG rfl
 refine cF<|aH<|midU (fun a8=>jS  a8=some r) (fun a8 b9=>[(2,vB (a8))]) (fun a8 b9=>[]) ?_ ?_
 ·refine aK<|qkFld rfl<|qkLd 0 rfl<|qkFld rfl<|qkLd 0 rfl<|aB (wN rfl rfl) rfl<|qkMove rfl ?_
  refine Bi h rfl (fun _ h=>?_) fun _ h=>?_
  ·refine aS rfl (dZ rfl rfl rfl rfl rfl) rfl<|aS rfl (fK 0 rfl rfl rfl rfl rfl) rfl<|aS rfl (dZ rfl rfl rfl rfl rfl) rfl<|aS rfl (fK 0 rfl rfl rfl rfl rfl) rfl<|aS rfl (yK rfl rfl) rfl<|aS rfl (wN rfl rfl) rfl<|qkPkT rfl<|qkMove rfl ?_
   refine Bi h rfl (fun _ h=>?_) fun _ h=>?_
   ·refine aS rfl (dZ rfl rfl rfl rfl rfl) rfl<|aS rfl (fK 0 rfl rfl rfl rfl rfl) rfl<|AD rfl (cE (e:=mS) ([p0.2.2.2.2]) [(0,vU (p0.2.2.2.2))] rfl rfl rfl rfl (nG (vU (p0.2.2.2.2)) rfl) rfl rfl rfl) rfl fun u12=>bnE h fun r13 w14 h=>AD rfl (aJ.callQ MA (wC U u12 r13 w14) rfl (aD.cons (aV (aC.res 0 rfl) l_) .nil)) rfl fun x15=>qkPkT rfl<|qkAsg rfl<|dtN ?_
    exact cG (r13) () h SF .nil (aD.refl _ _)
   refine gdSkip rfl<|gdSkip rfl<|gdSkip rfl<|gdSkip rfl<|qkPkF rfl<|qkAsg rfl<|dtN ?_
   exact cG (false) () h SF .nil (aD.refl _ _)
  refine gdSkip rfl<|gdSkip rfl<|gdSkip rfl<|gdSkip rfl<|gdSkip rfl<|gdSkip rfl<|qkPkF rfl<|qkMove rfl<|gdSkip rfl<|gdSkip rfl<|gdSkip rfl<|gdSkip rfl<|qkPkF rfl<|qkAsg rfl<|dtN ?_
  exact cG (false) () h SF .nil (aD.refl _ _)
 intro a8 b9 h
 unfold jS at h
 refine aP ?_
 cases h
 exact kW rfl
end
section
def mX (U:Nat) (p0:Int):Option (Int):=
 ck (0<=(24:Int)) (ck (0<=(mH .u32 p0 (24:Int))∧(mH .u32 p0 (24:Int))<(List.length SD:Int)) (ck (0<=(16:Int)) (ck (0<=(cH .u32 (mH .u32 p0 (16:Int)) (255:Int))∧(cH .u32 (mH .u32 p0 (16:Int)) (255:Int))<(List.length SD:Int)) (ck (0<=(8:Int)) (ck (0<=(cH .u32 (mH .u32 p0 (8:Int)) (255:Int))∧(cH .u32 (mH .u32 p0 (8:Int)) (255:Int))<(List.length SD:Int)) (ck (0<=(cH .u32 p0 (255:Int))∧(cH .u32 p0 (255:Int))<(List.length SD:Int)) (some (wI .i64 (wI .u8 ((wI .u8 ((wI .u8 ((at' SD (mH .u32 p0 (24:Int)))+(at' SD (cH .u32 (mH .u32 p0 (16:Int)) (255:Int)))))+(at' SD (cH .u32 (mH .u32 p0 (8:Int)) (255:Int)))))+(at' SD (cH .u32 p0 (255:Int)))))))))))))
theorem TI:aN Tryz.prog 189:=Tryz.call189
theorem BP (U:Nat) {p0:Int} (r:Int) (h:mX U p0=some r):
  aT Tryz.prog 189 #[vU (p0)] [] (fun x:Unit=>vI (r)) (fun x l=>l) (fun _ l=>l):=by
 refine aT.of Tryz.func189 rfl Tryz.ntmps189 rfl fun c=>?_
 refine sqR<|qkAsg rfl<|dtN<|aH ?_
 refine JR.start [0,1,3,0,8,24,56,127,0,256,768,1792,4095,0,8192,24576,65535,131071,262143] 16 mixedOrders (by decide +kernel) ?_
 refine JR.open (by exact rfl) ?_
 refine jkMove rfl<|ckE h fun j1 h=>jqN rfl (DG rfl rfl j1)<|ckE h fun j2 h=>jqN rfl (yI rfl rfl rfl HQ j2)<|jkMove rfl<|ckE h fun j3 h=>jqN rfl (DG rfl rfl j3)<|jqN rfl (Ji rfl rfl)<|ckE h fun j4 h=>jqN rfl (yI rfl rfl rfl HQ j4)<|jqN rfl (uI rfl rfl)<|jkMove rfl<|ckE h fun j5 h=>jqN rfl (DG rfl rfl j5)<|jqN rfl (Ji rfl rfl)<|ckE h fun j6 h=>jqN rfl (yI rfl rfl rfl HQ j6)<|jqN rfl (uI rfl rfl)<|jkMove rfl<|jqN rfl (Ji rfl rfl)<|ckE h fun j7 h=>jqN rfl (yI rfl rfl rfl HQ j7)<|bS 16 rfl rfl<|qkAdd rfl<|aB (ER rfl rfl rfl) rfl<|qkAsg rfl<|dtN<|aP ?_
 cases h
 exact kW rfl
end
section
def oM (p0:Bu) (r12:Int) (a17:dM):Option ((Int×Int×Int×Int×Int)×Int):=
 some ((((wI .i64 (p0.1+(1:Int))),(wI .i64 (p0.2.1+r12)),a17.1,(wI .i64 (p0.2.2.1+(1:Int))),a17.2)),(0:Int))
def oL (U:Nat) (p0:Bu) (p1:Int) (p2:Int) (a8:Bool):Option ((Int×Int×Int×Int×Int)×Int):=
 if a8=true then(some ((((0:Int),(0:Int),(0:Int),(0:Int),(0:Int))),(11:Int)))else(if p0.1=(4096:Int)then(some ((((0:Int),(0:Int),(0:Int),(0:Int),(0:Int))),(3:Int)))else(Option.bind (mX U p1) fun r12=>(if(cH .u32 (rX .u32 p0.2.2.2.2 p1) p2)=(0:Int)then(oM p0 r12 ((wI .i64 (p0.2.2.1+(1:Int))),p2))else(oM p0 r12 (p0.2.2.1,(cH .u32 (rX .u32 p0.2.2.2.2 p1) p2))))))
def nT (U:Nat) (p0:Bu) (p1:Int) (p2:Int):Option ((Int×Int×Int×Int×Int)×Int):=
 Option.bind (nK U ((p0.1,p0.2.1,p0.2.2.1,p0.2.2.2.1,p0.2.2.2.2))) fun r3=>(if(!r3)=true then(some ((((0:Int),(0:Int),(0:Int),(0:Int),(0:Int))),(7:Int)))else(if p1=(0:Int)then(oL U p0 p1 p2 (true))else(Option.bind (iM U ([p1,p2])) fun r22=>(oL U p0 p1 p2 ((!r22))))))
theorem Tx:aN Tryz.prog 151:=Tryz.call151
theorem Gs (U:Nat) {p0:Bu} {p1:Int} {p2:Int} (r:(Int×Int×Int×Int×Int)×Int) (h:nT U p0 p1 p2=some r):
  aT Tryz.prog 151 #[Value.agg #[vI (p0.1),vI (p0.2.1),vI (p0.2.2.1),vI (p0.2.2.2.1),vU (p0.2.2.2.2)],vU (p1),vU (p2)] [] (fun x:Unit=>Value.tuple #[Value.agg #[vI (r.1.1),vI (r.1.2.1),vI (r.1.2.2.1),vI (r.1.2.2.2.1),vU (r.1.2.2.2.2)],vI (r.2)]) (fun x l=>l) (fun _ l=>l):=by
 refine aT.of Tryz.func151 rfl Tryz.ntmps151 rfl fun c=>?_
 refine sqR<|aF (aJ.box (cs:=[vI (p0.1),vI (p0.2.1),vI (p0.2.2.1),vI (p0.2.2.2.1),vU (p0.2.2.2.2)]) rfl rfl) rfl fun b1=>aF (aJ.alloc (cs:=Vp) rfl rfl) rfl fun b2=>qkAsg rfl<|dtN<|aH<|sqR<|qkLdA 1 rfl<|bnE h fun r3 w4 h=>aF (aJ.callQ TH (Ee U  r3 w4) rfl .nil) rfl fun x5=>aB (wO rfl) rfl<|dtN ?_
 refine Ab h rfl (fun _ h=>?_) fun _ h=>?_
 ·refine sqR ?_
  refine aB (C_ (r:=Value.agg #[vI (0:Int),vI (0:Int),vI (0:Int),vI (0:Int),vU (0:Int)]) (by intro w;simp[Instr.build,Instr.fill,dB,cO,cD,dC,dD,cP,eD])) rfl ?_
  refine bB 0 (vs:=Vp) rfl rfl rfl rfl rfl rfl<|qkAsg rfl<|dtN<|aP<|aG ?_
  cases h
  exact fI () rfl rfl (RV.cell 0 rfl rfl rfl rfl) (RV.tmp rfl) .nil aD.nil
 refine cF<|aH<|aH<|midU (fun a8=>oL U p0 p1 p2 a8=some r) (fun a8 b9=>[(1,vU (p1)),(2,vU (p2)),(3,vP b1),(6,vP b2),(20,vB (a8))]) (fun a8 b9=>[bT b2 Vp 61,bT b1 [vI (p0.1),vI (p0.2.1),vI (p0.2.2.1),vI (p0.2.2.2.1),vU (p0.2.2.2.2)] 61]) ?_ ?_
 ·refine aK<|qkMove rfl<|qkEql rfl<|qkMove rfl ?_
  refine Bi h rfl (fun _ h=>?_) fun _ h=>?_
  ·refine gdSkip rfl<|gdSkip rfl<|gdSkip rfl<|gdSkip rfl<|gdSkip rfl<|qkPkT rfl<|dtN ?_
   exact iG (true) () h SF rfl
  refine gyMove rfl<|gyMove rfl<|AD rfl (cE (e:=mS) ([p1,p2]) [(0,vU (p1)),(1,vU (p2))] rfl rfl rfl rfl (QJ (vU (p1)) (vU (p2)) rfl rfl) rfl rfl rfl) rfl fun u21=>bnE h fun r22 w23 h=>AD rfl (aJ.callQ MA (wC U u21 r22 w23) rfl (aD.cons (aV (aC.res 0 rfl) l_) .nil)) rfl fun x24=>aS rfl (wO rfl) rfl<|qkPkF rfl<|dtN ?_
  exact cG ((!r22)) () h SF (aW.ix [1,2] rfl rfl) (aD.refl _ _)
 intro a8 b9 h
 refine Ab h rfl (fun _ h=>?_) fun _ h=>?_
 ·refine sqR ?_
  refine aB (C_ (r:=Value.agg #[vI (0:Int),vI (0:Int),vI (0:Int),vI (0:Int),vU (0:Int)]) (by intro w;simp[Instr.build,Instr.fill,dB,cO,cD,dC,dD,cP,eD])) rfl ?_
  refine bB 0 (vs:=Vp) rfl rfl rfl rfl rfl rfl<|qkAsg rfl<|dtN<|aP<|aG ?_
  cases h
  exact fI () rfl rfl (RV.cell 0 rfl rfl rfl rfl) (RV.tmp rfl) .nil aD.nil
 refine cF<|aH<|sqR<|qkFld rfl<|qkLd 1 rfl<|qkEql rfl<|dtN ?_
 refine eN h rfl (fun h=>?_) fun h=>?_
 ·refine sqR ?_
  refine aB (C_ (r:=Value.agg #[vI (0:Int),vI (0:Int),vI (0:Int),vI (0:Int),vU (0:Int)]) (by intro w;simp[Instr.build,Instr.fill,dB,cO,cD,dC,dD,cP,eD])) rfl ?_
  refine bB 0 (vs:=Vp) rfl rfl rfl rfl rfl rfl<|qkAsg rfl<|dtN<|aP<|aG ?_
  cases h
  exact fI () rfl rfl (RV.cell 0 rfl rfl rfl rfl) (RV.tmp rfl) .nil aD.nil
 refine cF<|sqR<|qkFld rfl<|qkLd 1 rfl<|qkAdd rfl<|qkFld rfl<|gY 1 rfl rfl rfl rfl rfl rfl<|dtN<|aH ?_
 refine JR.start [0,1,0,4,15,31,63] 4 mixedOrders (by decide +kernel) ?_
 refine JR.open (by exact rfl) ?_
 refine jkFld rfl<|jkLd 1 rfl<|jkMove rfl<|bnE h fun r12 w13 h=>JR.loud rfl rfl rfl (aJ.callQ TI (BP U  r12 w13) rfl .nil) rfl (fun x14=>(vG [([1],[])] rfl)) fun x14=>bS 4 rfl rfl<|qkAdd rfl<|qkFld rfl<|gY 1 rfl rfl rfl rfl rfl rfl<|dtN<|sqR<|qkFld rfl<|qkLd 1 rfl<|qkAdd rfl<|qkFld rfl<|gY 1 rfl rfl rfl rfl rfl rfl<|dtN<|sqR<|qkFld rfl<|qkLd 1 rfl<|qkMove rfl<|aB (Cf rfl rfl) rfl<|qkMove rfl<|qkAnd rfl<|qkFld rfl<|gY 1 rfl rfl rfl rfl rfl rfl<|dtN<|aH<|midU (fun a17=>oM p0 r12 a17=some r) (fun a17 b18=>[(3,vP b1),(6,vP b2)]) (fun a17 b18=>[bT b2 Vp 61,bT b1 [vI (wI .i64 (p0.1+(1:Int))),vI (wI .i64 (p0.2.1+r12)),vI (a17.1),vI (wI .i64 (p0.2.2.1+(1:Int))),vU (a17.2)] 61]) ?_ ?_
 ·refine sqR<|qkFld rfl<|qkLd 1 rfl<|qkEql rfl<|dtN ?_
  refine eN h rfl (fun h=>?_) fun h=>?_
  ·refine sqR<|qkFld rfl<|qkLd 1 rfl<|qkFld rfl<|gY 1 rfl rfl rfl rfl rfl rfl<|dtN<|aK<|qkMove rfl<|qkFld rfl<|gY 1 rfl rfl rfl rfl rfl rfl<|dtN ?_
   exact iG ((wI .i64 (p0.2.2.1+(1:Int))),p2) () h SF rfl
  refine cF ?_
  exact iG (p0.2.2.1,(cH .u32 (rX .u32 p0.2.2.2.2 p1) p2)) () h SF rfl
 intro a17 b18 h
 unfold oM at h
 refine sqR<|qkLdA 1 rfl<|bB 0 (vs:=[vI (wI .i64 (p0.1+(1:Int))),vI (wI .i64 (p0.2.1+r12)),vI (a17.1),vI (wI .i64 (p0.2.2.1+(1:Int))),vU (a17.2)]) rfl rfl rfl rfl rfl rfl<|qkAsg rfl<|dtN<|aP ?_
 cases h
 exact fI () rfl rfl (RV.cell 0 rfl rfl rfl rfl) (RV.tmp rfl) .nil aD.nil
end
end Go.Proofs.YtjlbcgddhnjcjaaGreatDoor
end
section
namespace Go.Proofs.YtjlbcgddhnjcjaaGreatDoor
open Go Go.Sx
section
abbrev CT:=Bu
theorem Bm (l:aL) (hl:l.length<=900):∃b,iM 1000 l=some b:=by
 unfold iM
 have:=u_ (step:=lW l) (Q:=fun _:Bool=>True) (fun i:Int=>∃k:Nat,i=(k:Int)∧k<=l.length) (fun i=>l.length - i.toNat) (fun i ag hI hrec=>by
  obtain⟨k,rfl,hk⟩:=hI
  unfold lW lV
  by_cases hlt:k<l.length
  ·rw[if_pos (by omega),cN (by omega)]
   split
   ·exact⟨_,rfl,trivial⟩
   ·rw[eC (by omega)]
    exact hrec _ ⟨k+1,rfl,by omega⟩ (by omega)
  ·rw[if_neg (by omega)]
   exact⟨_,rfl,trivial⟩) 1000 0 ⟨0,rfl,by omega⟩ (by omega)
 obtain⟨b,hb,_⟩:=this
 exact⟨b,hb⟩
theorem HG (k:CT):∃b,nK 1000 k=some b:=by
 obtain⟨q,hq⟩:=Bm [k.2.2.2.2] (by simp)
 have key:∀a,∃b,f_ 1000 k a=some b:=by
  intro a
  unfold f_ jS
  split
  ·exact⟨_,rfl⟩
  ·split
   ·exact⟨_,rfl⟩
   ·split
    ·split
     ·rw[bA hq];exact⟨_,rfl⟩
     ·exact⟨_,rfl⟩
    ·exact⟨_,rfl⟩
 unfold nK
 repeat' split
 all_goals exact key _
theorem OG {t:Nat} (ht:t<4294967296):∃n,mX 1000 (t:Int)=some n:=by
 have hb:(List.length SD:Int)=256:=by decide +kernel
 have h255:∀a:Nat,a<4294967296->0<=cH .u32 (a:Int) 255∧cH .u32 (a:Int) 255<256:=fun a ha=>by
  rw[show(255:Int)=((255:Nat):Int)from rfl,DI ha (by omega)]
  have:a &&& 255<=255:=Nat.and_le_right
  omega
 have hs:∀k:Nat,k<32->mH .u32 (t:Int) (k:Int)=((t / 2^k:Nat):Int):=fun k hk=>HM hk
 have s24:mH .u32 (t:Int) 24=((t / 2^24:Nat):Int):=hs 24 (by omega)
 have s16:mH .u32 (t:Int) 16=((t / 2^16:Nat):Int):=hs 16 (by omega)
 have s8:mH .u32 (t:Int) 8=((t / 2^8:Nat):Int):=hs 8 (by omega)
 unfold mX
 rw[hb,s24,s16,s8,cN (by decide),cN (by omega),cN (by decide),cN (h255 _ (by omega)),cN (by decide),cN (h255 _ (by omega)),cN (h255 _ ht)]
 exact⟨_,rfl⟩
theorem PQ (k:CT) {t:Nat} (ht:t<4294967296) (e:Int):∃r,nT 1000 k (t:Int) e=some r:=by
 obtain⟨b,hb⟩:=HG k
 obtain⟨q,hq⟩:=Bm [(t:Int),e] (by simp)
 obtain⟨n,hn⟩:=OG ht
 have key:∀a,∃r,oL 1000 k (t:Int) e a=some r:=by
  intro a
  unfold oL oM
  split
  ·exact⟨_,rfl⟩
  ·split
   ·exact⟨_,rfl⟩
   ·rw[bA hn]
    split<;>exact⟨_,rfl⟩
 unfold nT
 rw[bA (show nK 1000 _=some b from hb)]
 split
 ·exact⟨_,rfl⟩
 ·split
  ·exact key _
  ·rw[bA hq];exact key _

def dG (p:B_) (g:GR):yF:=(p,g,jK g g.2.length,d_ g)
end
section
def yB (S:yF) (R:List RL) (lv:Nat) (c:bG):Nat:=Xi S R c &&& lv
theorem TZ (S:yF) (R:List RL) (c:bG) (v:Nat):(Xi S R c).testBit v=(decide (v<S.2.1.2.length)&&decide (0<=uR S R c v)):=AP _ v _
theorem Eu (S:yF) (R:List RL) (lv:Nat) (c:bG) (v:Nat):(yB S R lv c).testBit v=true↔v<S.2.1.2.length∧0<=uR S R c v∧lv.testBit v=true:=by
 unfold yB
 rw[Nat.testBit_and,TZ,Bool.and_eq_true,Bool.and_eq_true,decide_eq_true_eq,decide_eq_true_eq,and_assoc]
theorem Wm {S:yF} (hV:VG S.2.1) (R:List RL) (c:bG):Xi S R c<4294967296:=Cu _ (by have:=hV.n24;omega)
theorem Wn (S:yF) (R:List RL) (lv:Nat) (c:bG):Pj S.2.1 (yB S R lv c):=fun i hi=>((Eu S R lv c i).1 hi).1
def Aj (ch:iO):aL:=ch.map fun t=>((t:Nat):Int)
end
end Go.Proofs.YtjlbcgddhnjcjaaGreatDoor
end
section
namespace Go.Proofs.YtjlbcgddhnjcjaaGreatDoor
open Go.Sx
section
def nE  (a2:Bool):Option (Bool):=
 some (a2)
def sE (U:Nat) (p0:Int):Option (Bool):=
 if(1:Int)<=p0 then(nE  (decide (p0<=(4:Int))))else(nE  (false))
theorem Tn:aN Tryz.prog 102:=Tryz.call102
theorem FU (U:Nat) {p0:Int} (r:Bool) (h:sE U p0=some r):
  aT Tryz.prog 102 #[vI (p0)] [] (fun x:Unit=>vB (r)) (fun x l=>l) (fun _ l=>l):=by
 refine aT.of Tryz.func102 rfl Tryz.ntmps102 rfl fun c=>?_
 refine sqR<|qkAsg rfl<|dtN<|aH<|midU (fun a2=>nE  a2=some r) (fun a2 b3=>[(2,vB (a2))]) (fun a2 b3=>[]) ?_ ?_
 ·refine aK<|qkMove rfl<|aB (Bf rfl rfl) rfl<|qkMove rfl ?_
  refine Bi h rfl (fun _ h=>?_) fun _ h=>?_
  ·refine gyMove rfl<|aS rfl (wN rfl rfl) rfl<|qkPkT rfl<|qkAsg rfl<|dtN ?_
   exact iG (decide (p0<=(4:Int))) () h SF rfl
  refine gdSkip rfl<|gdSkip rfl<|qkPkF rfl<|qkAsg rfl<|dtN ?_
  exact iG (false) () h SF rfl
 intro a2 b3 h
 unfold nE at h
 refine aP ?_
 cases h
 exact kW rfl
end
section
def uE (U:Nat) (p0:vF) (p1:dN) (p2:Int) (p3:bG) (p4:Int):Option (Int):=
 Option.bind (oQ U ((p0.1,p0.2.1,p0.2.2)) ((p1.1,p1.2)) p3) fun r3=>(if r3≠(0:Int)then(some (r3))else(Option.bind (sE U p2) fun r7=>(if(!r7)=true then(some (12:Int))else(if(4096:Int)<p4 then(some (3:Int))else(some (0:Int))))))
theorem VV:aN Tryz.prog 59:=Tryz.call59
theorem Kn (U:Nat) {p0:vF} {p1:dN} {p2:Int} {p3:bG} {p4:Int} (v0:Value)  (v1:Value)  (v2:Value)  (v3:Value)  (z4:mT)  (v5:Value)  (z6:qK) (r:Int) (h:uE U p0 p1 p2 p3 p4=some r):
  aT Tryz.prog 59 #[Value.agg #[vS (p0.1),v0,v1],Value.agg #[v2,v3],vI (p2),v5,vI (p4)] [Sl aI v0 p0.2.1,Sl aE v1 p0.2.2,PF (Value.agg #[vS p0.1,v0,v1]),Sl bK v2 p1.1,S2 aZ v3 z4 p1.2,S2 bK v5 z6 p3] (fun x:Unit=>vI (r)) (fun x l=>l) (fun _ l=>l):=by
 refine aT.of Tryz.func59 rfl Tryz.ntmps59 rfl fun c=>?_
 refine sqR<|aF (aJ.box (cs:=[vS (p0.1),v0,v1]) rfl rfl) rfl fun b1=>aF (aJ.box (cs:=[v2,v3]) rfl rfl) rfl fun b2=>qkAsg rfl<|dtN<|aH<|sqR<|qkLdA 1 rfl<|qkLdA 0 rfl<|qkMove rfl<|bnE h fun r3 w4 h=>aF (aJ.callQ Tm (FY U v0 v1 v2 v3 z4 v5 z6 r3 w4) rfl (nY [0,1,2,3,4,5] rfl)) rfl fun x5=>qkAsg rfl<|dtN<|sqR<|qkMove rfl<|qkNeq rfl<|dtN ?_
 refine eN h rfl (fun h=>?_) fun h=>?_
 ·refine sqR<|qkMove rfl<|qkAsg rfl<|dtN<|aP<|aG ?_
  cases h
  exact wG rfl
 refine cF<|aH<|sqR<|qkMove rfl<|bnE h fun r7 w8 h=>aF (aJ.callQ Tn (FU U  r7 w8) rfl .nil) rfl fun x9=>aB (wO rfl) rfl<|dtN ?_
 refine Ab h rfl (fun _ h=>?_) fun _ h=>?_
 ·refine sqR<|qkAsg rfl<|dtN<|aP<|aG ?_
  cases h
  exact wG rfl
 refine cF<|aH<|sqR<|qkMove rfl<|aB (vM rfl rfl) rfl<|dtN ?_
 refine eN h rfl (fun h=>?_) fun h=>?_
 ·refine sqR<|qkAsg rfl<|dtN<|aP<|aG ?_
  cases h
  exact wG rfl
 refine cF<|sqR<|qkAsg rfl<|dtN<|aP ?_
 cases h
 exact wG rfl
end
section
def pF (U:Nat) (p0:bG) (p1:Int) (p2:Bu):Option (Unit):=
 some (())
theorem Qb:aN Tryz.prog 61:=Tryz.call61
theorem CQ (U:Nat) {p0:bG} {p1:Int} {p2:Bu} (v0:Value)  (z1:qK) (r:Unit) (h:pF U p0 p1 p2=some r):
  aT Tryz.prog 61 #[v0,vU (p1),Value.agg #[vI (p2.1),vI (p2.2.1),vI (p2.2.2.1),vI (p2.2.2.2.1),vU (p2.2.2.2.2)]] [S2 bK v0 z1 p0] (fun x:Unit=>Value.tuple #[]) (fun x l=>l) (fun _ l=>l):=by
 refine aT.of Tryz.func61 rfl Tryz.ntmps61 rfl fun c=>?_
 unfold pF at h
 refine aK<|aF (aJ.box (cs:=[vI (p2.1),vI (p2.2.1),vI (p2.2.2.1),vI (p2.2.2.2.1),vU (p2.2.2.2.2)]) rfl rfl) rfl fun b1=>dA ?_
 cases h
 exact AE () rfl rfl .normal (.inr rfl) .nil aD.nil
end
section
def qT (U:Nat) (p0:Int):Option ((Int×Int×Int×Int×Int)):=
 some (((0:Int),(0:Int),(0:Int),(0:Int),(cH .u32 p0 (16777215:Int))))
theorem Tv:aN Tryz.prog 148:=Tryz.call148
theorem Ed (U:Nat) {p0:Int} (r:(Int×Int×Int×Int×Int)) (h:qT U p0=some r):
  aT Tryz.prog 148 #[vU (p0)] [] (fun x:Unit=>Value.agg #[vI (r.1),vI (r.2.1),vI (r.2.2.1),vI (r.2.2.2.1),vU (r.2.2.2.2)]) (fun x l=>l) (fun _ l=>l):=by
 refine aT.of Tryz.func148 rfl Tryz.ntmps148 rfl fun c=>?_
 unfold qT at h
 refine sqR<|aF (aJ.alloc (cs:=Vp) rfl rfl) rfl fun b1=>dtN<|sqR<|qkMove rfl<|qkAnd rfl ?_
 refine aB (PM (r:=Value.agg #[vI (0:Int),vI (0:Int),vI (0:Int),vI (0:Int),vU (cH .u32 p0 (16777215:Int))]) rfl (by intro w;simp[Instr.build,Instr.fill,dB,cO,cD,dC,dD,cP,eD])) rfl ?_
 refine bB 0 (vs:=[vI (0:Int),vI (0:Int),vI (0:Int),vI (0:Int),vU (cH .u32 p0 (16777215:Int))]) rfl rfl rfl rfl rfl rfl<|dtN<|aP ?_
 cases h
 exact gV () rfl rfl (RV.cell 0 rfl rfl rfl rfl) .nil aD.nil
end
section
def xI  (a35:Int×Int×Int×Int×Int×Int×aL×aL×bG):Option zB:=
 some (((a35.2.2.2.2.2.2.1,a35.2.2.2.2.2.2.2.1,a35.2.2.2.2.2.2.2.2,((a35.1,a35.2.1,a35.2.2.1,a35.2.2.2.1,a35.2.2.2.2.1)))),a35.2.2.2.2.2.1)
def tP  (a57:aL×aL×bG×Int×Int×Int×Int×Int×Int):Option zB:=
 xI  (a57.2.2.2.1,a57.2.2.2.2.1,a57.2.2.2.2.2.1,a57.2.2.2.2.2.2.1,a57.2.2.2.2.2.2.2.1,a57.2.2.2.2.2.2.2.2,a57.1,a57.2.1,a57.2.2.1)
def qC  (a94:aL×Int×Int×Int×Int×Int×bG×aL):Option zB:=
 tP  (a94.2.2.2.2.2.2.2,a94.1,a94.2.2.2.2.2.2.1,a94.2.1,a94.2.2.1,a94.2.2.2.1,a94.2.2.2.2.1,a94.2.2.2.2.2.1,(0:Int))
def xJ (U:Nat) (p0:vF) (p1:dN) (p2:Int) (a20:Int×aL×dQ×Int×bG) (a117:Int×aL×Int×Int×Int×Int×Int×Int×bG×aL) (ag116:(Int×aL×Int×Int×Int×Int×Int×Int×bG×aL)->Option zB) (a122:Int):Option zB:=
 if¬(a117.1≠(0:Int))then(qC  (a117.2.1,a117.2.2.2.1,a117.2.2.2.2.1,a117.2.2.2.2.2.1,a117.2.2.2.2.2.2.1,a117.2.2.2.2.2.2.2.1,a117.2.2.2.2.2.2.2.2.1,a117.2.2.2.2.2.2.2.2.2))else(Option.bind (dY U a20.2.1 p2 a117.1 a122) fun r125=>(if(!r125)=true then(tP  (([]:aL),([]:aL),([]:bG),(0:Int),(0:Int),(0:Int),(0:Int),(0:Int),(11:Int)))else(Option.bind (gC U ((((p0.1,p0.2.1,p0.2.2)),((((p0.1,p0.2.1,p0.2.2)),((p1.1,p1.2)),a20.2.2.2.1,a20.2.2.2.2)),a20.2.2.1)) a117.2.2.2.2.2.2.2.2.1 a122) fun r129=>(Option.bind (cT U ((((p0.1,p0.2.1,p0.2.2)),((((p0.1,p0.2.1,p0.2.2)),((p1.1,p1.2)),a20.2.2.2.1,a20.2.2.2.2)),a20.2.2.1)) r129) fun r132=>(Option.bind (nT U ((a117.2.2.2.1,a117.2.2.2.2.1,a117.2.2.2.2.2.1,a117.2.2.2.2.2.2.1,a117.2.2.2.2.2.2.2.1)) a122 (cH .u32 r132 a20.1)) fun r135=>(Option.bind (pF U r129 (cH .u32 r132 a20.1) ((r135.1.1,r135.1.2.1,r135.1.2.2.1,r135.1.2.2.2.1,r135.1.2.2.2.2))) fun r138=>(ck ((List.length a117.2.2.2.2.2.2.2.2.2:Int)+(List.length ([a122]):Int)<=1099511627) (ck ((List.length a117.2.1:Int)+(List.length ([(cH .u32 r132 a20.1)]):Int)<=1099511627) (ag116 ((cH .u32 r132 a20.1),(a117.2.1++([(cH .u32 r132 a20.1)])),(wI .i64 (a117.2.2.1+(1:Int))),r135.1.1,r135.1.2.1,r135.1.2.2.1,r135.1.2.2.2.1,r135.1.2.2.2.2,r129,(a117.2.2.2.2.2.2.2.2.2++[a122])))))))))))
def qE (U:Nat) (p0:vF) (p1:dN) (p2:Int) (p4:aL) (a20:Int×aL×dQ×Int×bG) (a117:Int×aL×Int×Int×Int×Int×Int×Int×bG×aL) (ag116:(Int×aL×Int×Int×Int×Int×Int×Int×bG×aL)->Option zB):Option zB:=
 if a117.2.2.1<(List.length p4:Int)then(ck (0<=a117.2.2.1∧a117.2.2.1<(List.length p4:Int)) (Option.bind (cM U a20.2.1 p2 a117.1 (at' p4 a117.2.2.1)) fun r150=>(xJ U p0 p1 p2 a20 a117 ag116 (r150))))else(qC  (a117.2.1,a117.2.2.2.1,a117.2.2.2.2.1,a117.2.2.2.2.2.1,a117.2.2.2.2.2.2.1,a117.2.2.2.2.2.2.2.1,a117.2.2.2.2.2.2.2.2.1,a117.2.2.2.2.2.2.2.2.2))
def xH (U:Nat) (p0:vF) (p1:dN) (p2:Int) (p3:bG) (p4:aL) (a20:Int×aL×dQ×Int×bG):Option zB:=
 Option.bind (p_ U p3) fun r65=>(Option.bind (cT U ((((p0.1,p0.2.1,p0.2.2)),((((p0.1,p0.2.1,p0.2.2)),((p1.1,p1.2)),a20.2.2.2.1,a20.2.2.2.2)),a20.2.2.1)) r65) fun r68=>(Option.bind (qT U (cH .u32 r68 a20.1)) fun r71=>(Option.bind (pF U r65 (cH .u32 r68 a20.1) ((r71.1,r71.2.1,r71.2.2.1,r71.2.2.2.1,r71.2.2.2.2))) fun r75=>(ck ((List.length ([]:aL):Int)+(List.length ([(cH .u32 r68 a20.1)]):Int)<=1099511627) (bD (qE U p0 p1 p2 p4 a20) U ((cH .u32 r68 a20.1),(([]:aL)++([(cH .u32 r68 a20.1)])),(0:Int),r71.1,r71.2.1,r71.2.2.1,r71.2.2.2.1,r71.2.2.2.2,r65,([]:aL)))))))
def tQ (U:Nat) (p0:vF) (p1:dN) (p2:Int) (p3:bG) (p4:aL) (a165:dQ×Int×bG):Option zB:=
 Option.bind (jH U ((p1.1,p1.2))) fun r167=>(Option.bind (uD U ((p1.1,p1.2))) fun r170=>(xH U p0 p1 p2 p3 p4 (r170,r167,a165.1,a165.2.1,a165.2.2)))
def tR (U:Nat) (p0:vF) (p1:dN) (p2:Int) (p3:bG) (p4:aL) (a182:Int×bG):Option zB:=
 Option.bind (kH U ((p0.1,p0.2.1,p0.2.2)) ((p1.1,p1.2))) fun r184=>(tQ U p0 p1 p2 p3 p4 (r184,a182.1,a182.2))
def qD (U:Nat) (p0:vF) (p1:dN) (p2:Int) (p3:bG) (p4:aL) (a198:Int×bG):Option zB:=
 tR U p0 p1 p2 p3 p4 (a198.1,a198.2)
def tS (p1:dN) (a205:Int×Int×bG) (ag204:(Int×Int×bG)->Option zB) (a211:bG):Option zB:=
 ag204 ((wI .i64 (a205.1+(1:Int))),(max a205.2.1 (at' p1.1 a205.1)),a211)
def nU (U:Nat) (p1:dN) (a205:Int×Int×bG) (ag204:(Int×Int×bG)->Option zB) (a219:Int×bG) (ag218:(Int×bG)->Option zB):Option zB:=
 if a219.1<(List.length (at' p1.2 a205.1):Int)then(ck (0<=a219.1∧a219.1<(List.length (at' p1.2 a205.1):Int)) (ck (0<=a205.1∧a205.1<(List.length a219.2:Int)) (Option.bind (oP U ((p1.1,p1.2)) ((at' (at' p1.2 a205.1) a219.1).1) a205.1) fun r228=>(ck ((List.length (at' a219.2 a205.1):Int)+(List.length ([r228]):Int)<=1099511627) (ck (0<=a205.1∧a205.1<(List.length (List.set a219.2 (Int.toNat a205.1) ((at' a219.2 a205.1)++[r228])):Int)) (ag218 ((wI .i64 (a219.1+(1:Int))),(List.set a219.2 (Int.toNat a205.1) ((at' a219.2 a205.1)++[r228])))))))))else(tS p1 a205 ag204 (a219.2))
def jQ (U:Nat) (p0:vF) (p1:dN) (p2:Int) (p3:bG) (p4:aL) (a205:Int×Int×bG) (ag204:(Int×Int×bG)->Option zB):Option zB:=
 if a205.1<(List.length p1.2:Int)then(ck (0<=a205.1∧a205.1<(List.length p1.2:Int)) (ck (0<=a205.1∧a205.1<(List.length p1.1:Int)) (bD (nU U p1 a205 ag204) U ((0:Int),a205.2.2))))else(qD U p0 p1 p2 p3 p4 (a205.2.1,a205.2.2))
def lL (U:Nat) (p0:vF) (p1:dN) (p2:Int) (p3:bG) (p4:aL):Option zB:=
 Option.bind (uE U ((p0.1,p0.2.1,p0.2.2)) ((p1.1,p1.2)) p2 p3 (List.length p4:Int)) fun r4=>(if r4≠(0:Int)then(some (((([]:aL),([]:aL),([]:bG),(((0:Int),(0:Int),(0:Int),(0:Int),(0:Int))))),r4))else(ck (0<=(List.length p1.2:Int)∧(List.length p1.2:Int)<=1099511627) (bD (jQ U p0 p1 p2 p3 p4) U ((0:Int),(0:Int),(List.replicate (Int.toNat (List.length p1.2:Int)) ([]:aL))))))
theorem PY:aN Tryz.prog 30:=Tryz.call30
theorem CP (U:Nat) {p0:vF} {p1:dN} {p2:Int} {p3:bG} {p4:aL} (v0:Value)  (v1:Value)  (v2:Value)  (v3:Value)  (z4:mT)  (v5:Value)  (z6:qK)  (v7:Value) (r:(aL×aL×bG×(Int×Int×Int×Int×Int))×Int) (h:lL U p0 p1 p2 p3 p4=some r):
  aT Tryz.prog 30 #[Value.agg #[vS (p0.1),v0,v1],Value.agg #[v2,v3],vI (p2),v5,v7] [Sl aI v0 p0.2.1,Sl aE v1 p0.2.2,PF (Value.agg #[vS p0.1,v0,v1]),Sl bK v2 p1.1,S2 aZ v3 z4 p1.2,S2 bK v5 z6 p3,Sl sW v7 p4,Gb 0 (cellsOf CX rU)] (fun x:Value×Value×Value×List Value=>Value.tuple #[Value.agg #[x.1,x.2.1,x.2.2.1,vI (r.1.2.2.2.1),vI (r.1.2.2.2.2.1),vI (r.1.2.2.2.2.2.1),vI (r.1.2.2.2.2.2.2.1),vU (r.1.2.2.2.2.2.2.2)],vI (r.2)]) (fun x l=>Ar mS x.1 r.1.1::Ar mS x.2.1 r.1.2.1::Ar dH.raw x.2.2.1 x.2.2.2::jW bV x.2.2.2 r.1.2.2.1::l) (fun _ l=>l):=by
 refine aT.of Tryz.func30 rfl Tryz.ntmps30 rfl fun c=>?_
 refine sqR<|aF (aJ.box (cs:=[vS (p0.1),v0,v1]) rfl rfl) rfl fun b1=>aF (aJ.box (cs:=[v2,v3]) rfl rfl) rfl fun b2=>aF (aJ.alloc (cs:=Dz) rfl rfl) rfl fun b3=>qkAsg rfl<|dtN<|aH<|sqR<|qkLdA 2 rfl<|qkLdA 1 rfl<|qkMove rfl<|qkMove rfl<|qkMove rfl<|qkLen (aC.fact 6 rfl) rfl<|bnE h fun r4 w5 h=>aF (aJ.callQ VV (Kn U v0 v1 v2 v3 z4 v5 z6 r4 w5) rfl (nY [0,1,2,3,4,5] rfl)) rfl fun x6=>qkAsg rfl<|dtN<|sqR<|qkMove rfl<|qkNeq rfl<|dtN ?_
 refine eN h rfl (fun h=>?_) fun h=>?_
 ·refine sqR ?_
  refine aB (C_ (r:=Value.agg #[kX,kX,kX,vI (0:Int),vI (0:Int),vI (0:Int),vI (0:Int),vU (0:Int)]) (by intro w;simp[Instr.build,Instr.fill,dB,cO,cD,dC,dD,cP,eD])) rfl ?_
  refine qkMove rfl<|bB 0 (vs:=Dz) rfl rfl rfl rfl rfl rfl<|qkAsg rfl<|dtN<|aP<|aG<|jC (gR mS)<|jC (gR mS)<|jC (gR dH.raw) (jC (t_ bV) ?_)
  cases h
  exact fI ((kX),(kX),(kX),([]:fP)) rfl rfl (RV.cell 4 rfl rfl rfl rfl) (RV.tmp rfl) (aW.ix [2,3,1,0] rfl rfl) aD.nil
 refine cF<|sqR<|qkLdA 2 rfl<|qkLdA 1 rfl<|qkMove rfl<|Bz (A:=Int×aL×dQ×Int×bG) (B:=Nat×Value×Nat×Value×List Value×Value×List Value) (vs:=[Value.agg #[vS (p0.1),v0,v1],Value.agg #[v2,v3],vI (p2),Value.func (.func 61) #[] #[]]) (fun a20=>xH U p0 p1 p2 p3 p4 a20=some r) (fun a20 b21=>Value.agg #[vP b21.1,b21.2.1,vI (p2),vU (a20.1),Value.func (.func 61) #[] #[]]) (fun a20 b21=>[Ar mS b21.2.1 a20.2.1,bT b21.1 [vS (p0.1),v0,v1,vP b21.2.2.1,b21.2.2.2.1] 170,Ar dH.raw b21.2.2.2.1 b21.2.2.2.2.1,jW bR b21.2.2.2.2.1 a20.2.2.1,bT b21.2.2.1 [vS (p0.1),v0,v1,v2,v3,vI (a20.2.2.2.1),b21.2.2.2.2.2.1] 218,Ar dH.raw b21.2.2.2.2.2.1 b21.2.2.2.2.2.2,jW bV b21.2.2.2.2.2.2 a20.2.2.2.2,bT b3 Dz 63]) (fun a20 b21=>[Sl aI v0 p0.2.1,Sl aE v1 p0.2.2,PF (Value.agg #[vS p0.1,v0,v1]),Sl bK v2 p1.1,S2 aZ v3 z4 p1.2,S2 bK v5 z6 p3,Sl sW v7 p4,Gb 0 (cellsOf CX rU)]) (uQ.fn (show aN Tryz.prog 60 from Tryz.call60) rfl) Tryz.func60 rfl Tryz.ntmps60 rfl rfl ?_ ?_
 ·refine sqR<|aF (aJ.box (cs:=[vS (p0.1),v0,v1]) rfl rfl) rfl fun b153=>aF (aJ.box (cs:=[v2,v3]) rfl rfl) rfl fun b154=>aF (aJ.alloc (cs:=Xc) rfl rfl) rfl fun b155=>dtN<|aH ?_
  refine JR.start [0,0,3,0,15,0,0,95,0,511,1023] 9 mixedOrders (by decide +kernel) ?_
  refine JR.open (by exact rfl) ?_
  refine jkLdA 2 rfl<|jkLdA 1 rfl<|Mi (A:=dQ×Int×bG) (B:=Nat×Nat×Value×List Value×Value×List Value) (vs:=[Value.agg #[vS (p0.1),v0,v1],Value.agg #[v2,v3]]) (fun a165=>tQ U p0 p1 p2 p3 p4 a165=some r) (fun a165 b166=>vP b166.1) (fun a165 b166=>[bT b166.1 [vS (p0.1),v0,v1,vP b166.2.1,b166.2.2.1] 170,Ar dH.raw b166.2.2.1 b166.2.2.2.1,jW bR b166.2.2.2.1 a165.1,bT b166.2.1 [vS (p0.1),v0,v1,v2,v3,vI (a165.2.1),b166.2.2.2.2.1] 218,Ar dH.raw b166.2.2.2.2.1 b166.2.2.2.2.2,jW bV b166.2.2.2.2.2 a165.2.2,bT b155 Xc 107,bT b154 [v2,v3] 29,bT b153 [vS (p0.1),v0,v1] 36,bT b3 Dz 63]) (fun a165 b166=>[Sl aI v0 p0.2.1,Sl aE v1 p0.2.2,PF (Value.agg #[vS p0.1,v0,v1]),Sl bK v2 p1.1,S2 aZ v3 z4 p1.2,S2 bK v5 z6 p3,Sl sW v7 p4,Gb 0 (cellsOf CX rU)]) rfl rfl rfl (uQ.fn (show aN Tryz.prog 79 from Tryz.call79) rfl) Tryz.func79 rfl Tryz.ntmps79 rfl rfl (fun _ _=>(vG [] rfl)) ?_ ?_
  ·refine sqR<|aF (aJ.box (cs:=[vS (p0.1),v0,v1]) rfl rfl) rfl fun b175=>aF (aJ.box (cs:=[v2,v3]) rfl rfl) rfl fun b176=>qkAsg rfl<|dtN<|aH ?_
   refine JR.start [0,0,0,6,0,0,62,127,255,511] 7 mixedOrders (by decide +kernel) ?_
   refine JR.open (by exact rfl) ?_
   refine jkLdA 1 rfl<|jkLdA 1 rfl<|jkLdA 0 rfl<|Mi (A:=Int×bG) (B:=Nat×Value×List Value) (vs:=[Value.agg #[vS (p0.1),v0,v1],Value.agg #[v2,v3]]) (fun a182=>tR U p0 p1 p2 p3 p4 a182=some r) (fun a182 b183=>vP b183.1) (fun a182 b183=>[bT b183.1 [vS (p0.1),v0,v1,v2,v3,vI (a182.1),b183.2.1] 218,Ar dH.raw b183.2.1 b183.2.2,jW bV b183.2.2 a182.2,bT b176 [v2,v3] 29,bT b175 [vS (p0.1),v0,v1] 36,bT b155 Xc 107,bT b154 [v2,v3] 29,bT b153 [vS (p0.1),v0,v1] 36,bT b3 Dz 63]) (fun a182 b183=>[Sl aI v0 p0.2.1,Sl aE v1 p0.2.2,PF (Value.agg #[vS p0.1,v0,v1]),Sl bK v2 p1.1,S2 aZ v3 z4 p1.2,S2 bK v5 z6 p3,Sl sW v7 p4,Gb 0 (cellsOf CX rU)]) rfl rfl rfl (uQ.fn (show aN Tryz.prog 113 from Tryz.call113) rfl) Tryz.func113 rfl Tryz.ntmps113 rfl rfl (fun _ _=>(vG [([4],[])] rfl)) ?_ ?_
   ·refine sqR<|aF (aJ.box (cs:=[vS (p0.1),v0,v1]) rfl rfl) rfl fun b189=>aF (aJ.box (cs:=[v2,v3]) rfl rfl) rfl fun b190=>qkAsg rfl<|dtN<|aH ?_
    refine JR.start [0,0,0,4,12,28,63,127,255] 6 mixedOrders (by decide +kernel) ?_
    refine JR.open (by exact rfl) ?_
    refine jkLdA 1 rfl<|jkLdA 0 rfl<|jkFld rfl<|jkLd 0 rfl<|bH rfl .nil (qF 4 rfl) (lN rfl (aC.fact 0 rfl) rfl) aO.z<|ckE h fun j191 h=>JR.stp (tZ bV (Int.toNat (List.length p1.2:Int)))<|JR.loud rfl rfl rfl (oG (e:=dH.raw) (kX) rfl rfl rfl rfl j191 rfl rfl rfl) rfl (fun u192=>(vG [([2],[]),([3],[])] rfl)) fun u192=>bS 6 rfl rfl<|bP (Know.one (aC.sl (bF (i:=0) (j:=1) rfl rfl cW))) fun ho193=>?_
    refine aB (PN (r:=Value.agg #[vS (p0.1),v0,v1,v2,v3,vI (0:Int),u192]) rfl rfl rfl (by intro w;simp[Instr.build,Instr.fill,dB,cO,cD,dC,dD,cP,eD,iN ho193])) rfl ?_
    refine aF (aJ.box (cs:=[vS (p0.1),v0,v1,v2,v3,vI (0:Int),u192]) rfl rfl) rfl fun b194=>qkAsg rfl<|dtN<|aH<|midL (B:=fP) (fun a198=>qD U p0 p1 p2 p3 p4 a198=some r) (fun a198 b199=>[(5,vP b194)]) (fun a198 b199=>[bT b194 [vS (p0.1),v0,v1,v2,v3,vI (a198.1),u192] 218,Ar dH.raw u192 b199,jW bV b199 a198.2,bT b176 [v2,v3] 29,bT b175 [vS (p0.1),v0,v1] 36,bT b155 Xc 107,bT b154 [v2,v3] 29,bT b153 [vS (p0.1),v0,v1] 36,bT b3 Dz 63]) ?_ ?_
    ·refine sqR<|qkFld rfl<|qkLd 3 rfl<|aB (lN rfl (aC.fact 4 rfl) rfl) rfl<|qkMove rfl<|dtN<|aM<|loopL (B:=fP) (jQ U p0 p1 p2 p3 p4) (fun a205 b206=>[(3,vP b190),(5,vP b194),(19,v3),(20,vI (List.length p1.2:Int)),(21,vI (a205.1))]) (fun a205 b206=>[bT b194 [vS (p0.1),v0,v1,v2,v3,vI (a205.2.1),u192] 218,Ar dH.raw u192 b206,jW bV b206 a205.2.2,bT b190 [v2,v3] 29,bT b176 [v2,v3] 29,bT b175 [vS (p0.1),v0,v1] 36,bT b155 Xc 107,bT b154 [v2,v3] 29,bT b153 [vS (p0.1),v0,v1] 36,bT b3 Dz 63]) ((0:Int),(0:Int),(List.replicate (Int.toNat (List.length p1.2:Int)) ([]:aL))) (List.replicate (Int.toNat (List.length p1.2:Int)) (kX)) h SF (aW.ix [0,1,2,3,5,6,7,8,9,10] rfl rfl) ?_
     intro k207 a205 b206 h
     refine sqR<|qkLss rfl<|dtN<|aH ?_
     refine eN h rfl (fun h=>?_) fun h=>?_
     ·refine cF<|aH<|midL (B:=fP) (fun a211=>tS p1 a205 (bD (jQ U p0 p1 p2 p3 p4) k207) a211=some r) (fun a211 b212=>[(3,vP b190),(5,vP b194),(19,v3),(20,vI (List.length p1.2:Int)),(21,vI (a205.1))]) (fun a211 b212=>[bT b194 [vS (p0.1),v0,v1,v2,v3,vI (max a205.2.1 (at' p1.1 a205.1)),u192] 218,Ar dH.raw u192 b212,jW bV b212 a211,bT b190 [v2,v3] 29,bT b176 [v2,v3] 29,bT b175 [vS (p0.1),v0,v1] 36,bT b155 Xc 107,bT b154 [v2,v3] 29,bT b153 [vS (p0.1),v0,v1] 36,bT b3 Dz 63]) ?_ ?_
      ·refine aM<|sqR<|qkMove rfl<|ckE h fun j213 h=>aB (dL rfl rfl (aC.fact 4 rfl) rfl rfl j213) rfl<|aB (dW rfl (aC.fact 4 rfl) rfl rfl j213) rfl<|qkAsg rfl<|qkAsg rfl<|dtN<|aH ?_
       refine JR.start [0,0,2,6,14,0,32,0,224,480,1022,2047,4095,8191] 11 mixedOrders (by decide +kernel) ?_
       refine JR.open (by exact rfl) ?_
       refine jkMove rfl<|jkMove rfl<|jqN rfl (bL rfl)<|jkFld rfl<|jkLd 0 rfl<|jkFld rfl<|jkLd 3 rfl<|jkMove rfl<|ckE h fun j214 h=>bH rfl .nil (qF 3 rfl) (aY rfl rfl (aC.fact 0 rfl) rfl rfl j214) aO.z<|bH rfl .nil (qF 3 rfl) (bY rfl (aC.fact 0 rfl) rfl rfl rfl eI j214) aO.z<|jqN rfl (ES rfl rfl)<|bS 11 rfl rfl<|aB (bL rfl) rfl<|qkFld rfl<|gY 0 rfl rfl rfl rfl rfl rfl<|dtN<|sqR<|qkMove rfl<|aB (jF rfl (aC.el (aC.fact 4 rfl) j213.1 j213.2) rfl) rfl<|qkMove rfl<|dtN<|aM<|loopL (B:=fP) (nU U p1 a205 (bD (jQ U p0 p1 p2 p3 p4) k207)) (fun a219 b220=>[(3,vP b190),(5,vP b194),(6,vI (a205.1)),(19,v3),(20,vI (List.length p1.2:Int)),(21,vI (a205.1)),(39,(at' z4 a205.1).1),(40,vI (List.length (at' p1.2 a205.1):Int)),(41,vI (a219.1))]) (fun a219 b220=>[bT b194 [vS (p0.1),v0,v1,v2,v3,vI (max a205.2.1 (at' p1.1 a205.1)),u192] 218,Ar dH.raw u192 b220,jW bV b220 a219.2,bT b190 [v2,v3] 29,bT b176 [v2,v3] 29,bT b175 [vS (p0.1),v0,v1] 36,bT b155 Xc 107,bT b154 [v2,v3] 29,bT b153 [vS (p0.1),v0,v1] 36,bT b3 Dz 63]) ((0:Int),a205.2.2) (b206) h SF (aW.refl _) ?_
       intro k221 a219 b220 h
       refine sqR<|qkLss rfl<|dtN<|aH ?_
       refine eN h rfl (fun h=>?_) fun h=>?_
       ·refine cF<|aH<|aM<|sqR<|ckE h fun j223 h=>aB (aY rfl rfl (aC.el (aC.fact 4 rfl) j213.1 j213.2) rfl rfl j223) rfl<|aB (iJ (cs:=[vI ((at' (at' p1.2 a205.1) a219.1).1),vI ((at' (at' p1.2 a205.1) a219.1).2)]) rfl (aC.el (aC.fact 4 rfl) j213.1 j213.2) bI rfl rfl rfl rfl j223) rfl<|aF (aJ.alloc (cs:=Sp) rfl rfl) rfl fun b224=>bB 0 (vs:=[vI ((at' (at' p1.2 a205.1) a219.1).1),vI ((at' (at' p1.2 a205.1) a219.1).2)]) rfl rfl rfl rfl rfl rfl<|dtN ?_
        refine JR.start [0,1,3,7,0,0,32,96,224,0,992,2016,0,0,8192,0,61440,126976,262112,524287,1048575] 19 mixedOrders (by decide +kernel) ?_
        refine JR.open (by exact rfl) ?_
        refine jkMove rfl<|jqN rfl (bL rfl)<|jkFld rfl<|jkLd 1 rfl<|jkMove rfl<|jkMove rfl<|jqN rfl (bL rfl)<|jkFld rfl<|jkLd 1 rfl<|jkMove rfl<|ckE h fun j225 h=>dX (cJ 3 rfl) fun hl226=>?_
        refine bH rfl (aW.cons 2 rfl .nil) .nil (gZ 0 rfl rfl rfl rfl rfl j225.1 (by have q1:=j225.2;have q2:=hl226;(try simp only[List.length_set]at q1);(try simp only[List.length_set]at q2);(try simp only[List.length_set]);omega)) aO.z ?_
        refine dX (cJ 3 rfl) fun hl227=>bH rfl (aW.cons 2 rfl .nil) .nil (mE 0 rfl rfl hl227 rfl rfl j225) aO.z<|jkLdA 4 rfl<|jkFld rfl<|jkLd 0 rfl<|jkMove rfl<|bnE h fun r228 w229 h=>JR.loud rfl rfl rfl (aJ.callQ VW (FW U v2 v3 z4 r228 w229) rfl (nY [3,4] rfl)) rfl (fun x230=>(vG [([2],[]),([2],[]),([1],[]),([1],[])] rfl)) fun x230=>JR.loud rfl rfl rfl (cE (e:=bV) ([r228]) [(0,vI (r228))] rfl rfl rfl rfl (nG (vI (r228)) rfl) rfl rfl rfl) rfl (fun u231=>(vG [([3],[]),([3],[]),([2],[]),([2],[])] rfl)) fun u231=>ckE h fun j233 h=>JR.loud rfl rfl rfl (nD 4 cW rfl rfl rfl (aV (aC.res 0 rfl) cW) rfl rfl rfl rfl j225 j233 rfl) rfl (fun u232=>(vG [([2],[])] rfl)) fun u232=>bS 19 rfl rfl<|ckE h fun j234 h=>bP (cJ 4 rfl) fun hl235=>?_
        refine aB (gZ 3 rfl rfl rfl rfl rfl j234.1 (by have q1:=j234.2;have q2:=hl235;(try simp only[List.length_set]at q1);(try simp only[List.length_set]at q2);(try simp only[List.length_set]);omega)) rfl ?_
        refine bP (wM 4 (k:=a205.1) rfl ⟨j234.1,by first|exact j234.2|simpa using j234.2⟩) fun ho236=>?_
        refine mW 3 4 ⟨j234.1,by first|exact j234.2|simpa using j234.2⟩ rfl rfl rfl rfl rfl (by simp) ho236 rfl ?_
        refine dA<|inT<|aK<|qkAdd rfl<|qkMove rfl<|dtN ?_
        exact mA ((wI .i64 (a219.1+(1:Int))),(List.set a219.2 (Int.toNat a205.1) ((at' a219.2 a205.1)++[r228]))) (List.set b220 (Int.toNat a205.1) u232) h SF (aW.ix [2,3,4,5,6,7,8,9,10,11] rfl rfl) (aD.refl _ _)
       refine rE<|eS<|eS<|vJ<|inT ?_
       exact iG (a219.2) (b220) h SF rfl
      intro a211 b212 h
      unfold tS at h
      refine aK<|qkAdd rfl<|qkMove rfl<|dtN ?_
      exact xO ((wI .i64 (a205.1+(1:Int))),(max a205.2.1 (at' p1.1 a205.1)),a211) (b212) h SF rfl
     refine fL ?_
     exact cG (a205.2.1,a205.2.2) (b206) h SF (aW.ix [0,1,2,4,5,6,7,8,9] rfl rfl) (aD.refl _ _)
    intro a198 b199 h
    unfold qD at h
    refine sqR<|qkMove rfl<|qkAsg rfl<|dtN<|aP ?_
    exact wX (a198.1,a198.2) (b194,u192,b199) h (.inl rfl) (Gk.r1 rfl (RV.tmp rfl)) rfl (aW.refl _) (aD.refl _ _)
   intro a182 b183 h
   unfold tR at h
   refine bH rfl (aW.cons 4 rfl .nil) .nil (oJ 0 rfl rfl rfl rfl) (aO.h (aW.ix [1] rfl rfl) .nil aO.z)<|bH rfl (aW.cons 3 rfl .nil) .nil (oJ 0 rfl rfl rfl rfl) (aO.h (aW.ix [0] rfl rfl) .nil aO.z)<|bnE h fun r184 w185 h=>JR.loud rfl rfl rfl (aJ.callQ Qd (Aw U v0 v1 v2 v3 z4 r184 w185) rfl (nY [0,1,2,3,4] rfl)) rfl (fun x186=>(vG [([6],[])] rfl)) fun x186=>bS 7 rfl rfl<|bP (Know.one (aC.sl (bF (i:=0) (j:=1) rfl rfl bI))) fun ho187=>?_
   refine aB (PN (r:=Value.agg #[vS (p0.1),v0,v1,Value.pointer (some ⟨b183.1,0,none⟩),x186.1]) rfl rfl rfl (by intro w;simp[Instr.build,Instr.fill,dB,cO,cD,dC,dD,cP,eD,iN ho187])) rfl ?_
   refine aF (aJ.box (cs:=[vS (p0.1),v0,v1,vP b183.1,x186.1]) rfl rfl) rfl fun b188=>qkAsg rfl<|dtN<|aP ?_
   exact wX (r184,a182.1,a182.2) (b188,b183.1,x186.1,x186.2,b183.2.1,b183.2.2) h (.inl rfl) (Gk.r1 rfl (RV.tmp rfl)) rfl (aW.ix [0,1,2,3,4,5,8,9,10,11] rfl rfl) (aD.refl _ _)
  intro a165 b166 h
  unfold tQ at h
  refine bH rfl (aW.cons 7 rfl .nil) .nil (oJ 0 rfl rfl rfl rfl) (aO.h (aW.ix [1] rfl rfl) .nil aO.z)<|bnE h fun r167 w168 h=>JR.loud rfl rfl rfl (aJ.callQ To (Ef U v2 v3 z4 r167 w168) rfl (nY [3,4] rfl)) rfl (fun x169=>(vG [] rfl)) fun x169=>jqN rfl (lO rfl)<|bH rfl (aW.cons 8 rfl .nil) .nil (oJ 0 rfl rfl rfl rfl) (aO.h (aW.ix [7] rfl rfl) .nil (aO.h (aW.ix [1] rfl rfl) .nil aO.z))<|bnE h fun r170 w171 h=>JR.loud rfl rfl rfl (aJ.callQ Tl (Kl U v2 v3 z4 r170 w171) rfl (nY [3,4] rfl)) rfl (fun x172=>(vG [] rfl)) fun x172=>jqN rfl (lO rfl)<|bS 9 rfl rfl<|bP (Know.one ((aV (aC.res 0 rfl) l_))) fun ho173=>?_
  refine aB (Y.bld5 (r:=Value.agg #[Value.pointer (some ⟨b166.1,0,none⟩),x169,vI (p2),vU (r170),Value.func (.func 61) #[] #[]]) rfl rfl rfl rfl rfl (by intro w;simp[Instr.build,Instr.fill,dB,cO,cD,dC,dD,cP,eD,iN ho173])) rfl ?_
  refine bP (Know.one ((aV (aC.res 0 rfl) l_))) fun ho174=>bB 7 (vs:=[vP b166.1,x169,vI (p2),vU (r170),Value.func (.func 61) #[] #[]]) rfl rfl (dU rfl (dU ho174 (dU rfl (dU rfl (dU rfl rfl))))) rfl rfl rfl<|dtN<|aP ?_
  exact wX (r170,r167,a165.1,a165.2.1,a165.2.2) (b166.1,x169,b166.2.1,b166.2.2.1,b166.2.2.2.1,b166.2.2.2.2.1,b166.2.2.2.2.2) h (.inl rfl) (Gk.r1 rfl (RV.cell 7 rfl rfl rfl rfl)) rfl (aW.ix [0,1,2,3,4,5,6,10] rfl rfl) (aD.refl _ _)
 intro a20 b21 h
 refine qkMove rfl<|qkMove rfl<|Bz (A:=Int×Int×Int×Int×Int×Int×aL×aL×bG) (B:=Value×Value×Value×List Value) (vs:=[Value.agg #[vP b21.1,b21.2.1,vI (p2),vU (a20.1),Value.func (.func 61) #[] #[]],v5,v7]) (fun a35=>xI  a35=some r) (fun a35 b36=>Value.tuple #[Value.agg #[b36.1,b36.2.1,b36.2.2.1,vI (a35.1),vI (a35.2.1),vI (a35.2.2.1),vI (a35.2.2.2.1),vU (a35.2.2.2.2.1)],vI (a35.2.2.2.2.2.1)]) (fun a35 b36=>[bT b3 Dz 63,Ar mS b36.1 a35.2.2.2.2.2.2.1,Ar mS b36.2.1 a35.2.2.2.2.2.2.2.1,Ar dH.raw b36.2.2.1 b36.2.2.2,jW bV b36.2.2.2 a35.2.2.2.2.2.2.2.2]) (fun a35 b36=>[Sl aI v0 p0.2.1,Sl aE v1 p0.2.2,PF (Value.agg #[vS p0.1,v0,v1]),Sl bK v2 p1.1,S2 aZ v3 z4 p1.2,S2 bK v5 z6 p3,Sl sW v7 p4,Gb 0 (cellsOf CX rU)]) (uQ.fn (show aN Tryz.prog 62 from Tryz.call62) rfl) Tryz.func62 rfl Tryz.ntmps62 rfl rfl ?_ ?_
 ·refine sqR<|aF (aJ.box (cs:=[vP b21.1,b21.2.1,vI (p2),vU (a20.1),Value.func (.func 61) #[] #[]]) rfl rfl) rfl fun b40=>bP (Know.one ((aC.fact 6 rfl))) fun ho42=>?_
  refine aF (aJ.box (cs:=[v7]) rfl (by rw[iN ho42])) rfl fun b41=>?_
  refine aF (aJ.alloc (cs:=Dz) rfl rfl) rfl fun b43=>qkAsg rfl<|dtN<|sqR<|qkLdA 2 rfl<|qkMove rfl<|qkLd 1 rfl<|qkLen (aC.fact 6 rfl) rfl<|aB (yJ (cs:=[.tmp 3,.tmp 5]) (vs:=[vP b40,vP b41]) rfl) rfl<|Bz (A:=aL×aL×bG×Int×Int×Int×Int×Int×Int) (B:=Value×Value×Value×List Value) (vs:=[Value.agg #[vP b21.1,b21.2.1,vI (p2),vU (a20.1),Value.func (.func 61) #[] #[]],v5,vI (List.length p4:Int),Value.func (.func 105) #[] #[vP b40,vP b41]]) (fun a57=>tP  a57=some r) (fun a57 b58=>Value.tuple #[Value.agg #[b58.1,b58.2.1,b58.2.2.1,vI (a57.2.2.2.1),vI (a57.2.2.2.2.1),vI (a57.2.2.2.2.2.1),vI (a57.2.2.2.2.2.2.1),vU (a57.2.2.2.2.2.2.2.1)],vI (a57.2.2.2.2.2.2.2.2)]) (fun a57 b58=>[bT b43 Dz 63,bT b3 Dz 63,Ar mS b58.1 a57.1,Ar mS b58.2.1 a57.2.1,Ar dH.raw b58.2.2.1 b58.2.2.2,jW bV b58.2.2.2 a57.2.2.1]) (fun a57 b58=>[Sl aI v0 p0.2.1,Sl aE v1 p0.2.2,PF (Value.agg #[vS p0.1,v0,v1]),Sl bK v2 p1.1,S2 aZ v3 z4 p1.2,S2 bK v5 z6 p3,Sl sW v7 p4,Gb 0 (cellsOf CX rU)]) (uQ.fn (show aN Tryz.prog 104 from Tryz.call104) rfl) Tryz.func104 rfl Tryz.ntmps104 rfl rfl ?_ ?_
  ·refine sqR<|aF (aJ.box (cs:=[vP b21.1,b21.2.1,vI (p2),vU (a20.1),Value.func (.func 61) #[] #[]]) rfl rfl) rfl fun b62=>aF (aJ.alloc (cs:=Dz) rfl rfl) rfl fun b63=>qkAsg rfl<|dtN<|sqR<|aF (aJ.alloc (cs:=Dz) rfl rfl) rfl fun b64=>dtN<|sqR<|qkMove rfl<|bnE h fun r65 w66 h=>aF (aJ.callQ Mv (Br U v5 z6 r65 w66) rfl (nY [5] rfl)) rfl fun x67=>qkAsg rfl<|dtN<|aH ?_
   refine JR.start [0,1,0,7,0,16,63,127] 6 mixedOrders (by decide +kernel) ?_
   refine JR.open (by exact rfl) ?_
   refine jkFld rfl<|jkLd 4 rfl<|jkMove rfl<|bnE h fun r68 w69 h=>JR.loud rfl rfl rfl (aJ.callQ Qe (rQ U b21.1 v0 v1 b21.2.2.1 v0 v1 v2 v3 z4 b21.2.2.2.2.2.1 (List.zip b21.2.2.2.2.2.2 a20.2.2.2.2) b21.2.2.2.1 (List.zip b21.2.2.2.2.1 a20.2.2.1) x67.1 (List.zip x67.2 r65) r68 w69) rfl (aD.cons (aC.res 9 rfl) (aD.cons (aC.fact 0 rfl) (aD.cons (aC.fact 1 rfl) (aD.cons (aC.res 12 rfl) (aD.cons (aC.fact 0 rfl) (aD.cons (aC.fact 1 rfl) (aD.cons (aC.fact 3 rfl) (aD.cons (aC.fact 4 rfl) (aD.cons (bF (i:=13) (j:=14) rfl rfl cW) (aD.cons (bF (i:=10) (j:=11) rfl rfl bI) (aD.cons (bF (i:=0) (j:=1) rfl rfl cW) .nil)))))))))))) rfl (fun x70=>(vG [] rfl)) fun x70=>jqN rfl (dZ rfl rfl rfl rfl rfl)<|bH rfl (aW.cons 4 rfl .nil) .nil (fK 0 rfl rfl rfl rfl rfl) (aO.h (aW.ix [4] rfl rfl) .nil aO.z)<|bS 6 rfl rfl<|qkAnd rfl<|qkAsg rfl<|dtN<|sqR<|qkMove rfl<|bnE h fun r71 w72 h=>aF (aJ.callQ Tv (Ed U  r71 w72) rfl .nil) rfl fun x73=>aF (aJ.alloc (cs:=Vp) rfl rfl) rfl fun b74=>bB 0 (vs:=[vI (r71.1),vI (r71.2.1),vI (r71.2.2.1),vI (r71.2.2.2.1),vU (r71.2.2.2.2)]) rfl rfl rfl rfl rfl rfl<|dtN<|sqR<|qkFld rfl<|qkLd 5 rfl<|qkMove rfl<|qkMove rfl<|qkLdA 0 rfl<|bnE h fun r75 w76 h=>aF (oF (vs:=[x67.1,vU (cH .u32 r68 a20.1),Value.agg #[vI (r71.1),vI (r71.2.1),vI (r71.2.2.1),vI (r71.2.2.2.1),vU (r71.2.2.2.2)]]) (cs:=[]) Qb rfl (CQ U x67.1 (List.zip x67.2 r65) r75 w76) rfl (aD.cons (bF (i:=1) (j:=2) rfl rfl cW) .nil) (fun _ _=>rfl)) rfl fun x77=>dtN<|sqR<|qkFld rfl<|qkLd 3 rfl<|qkMove rfl<|aF (cE (e:=mS) ([(cH .u32 r68 a20.1)]) [(0,vU (cH .u32 r68 a20.1))] rfl rfl rfl rfl (nG (vU (cH .u32 r68 a20.1)) rfl) rfl rfl rfl) rfl fun u78=>jC (gR mS)<|ckE h fun j80 h=>aF (fR 0 l_ rfl rfl rfl (aV (aC.res 1 rfl) l_) rfl rfl rfl rfl j80 rfl) rfl fun u79=>qkFld rfl<|bP (Know.one ((aV (aC.res 0 rfl) l_))) fun ho81=>gY 5 rfl rfl ho81 rfl rfl rfl<|dtN<|aH<|midL (B:=Value×List Value×Value×Value) (fun a94=>qC  a94=some r) (fun a94 b95=>[(1,b95.1),(8,vP b63),(10,vP b64),(12,vP b74)]) (fun a94 b95=>[Ar mS b95.2.2.2 a94.1,bT b74 [vI (a94.2.1),vI (a94.2.2.1),vI (a94.2.2.2.1),vI (a94.2.2.2.2.1),vU (a94.2.2.2.2.2.1)] 61,Ar dH.raw b95.1 b95.2.1,jW bV b95.2.1 a94.2.2.2.2.2.2.1,bT b64 [b95.2.2.1,b95.2.2.2,kX,vI (0:Int),vI (0:Int),vI (0:Int),vI (0:Int),vU (0:Int)] 63,bT b63 Dz 63,bT b43 Dz 63,bT b3 Dz 63,Ar mS b95.2.2.1 a94.2.2.2.2.2.2.2]) ?_ ?_
   ·refine sqR<|qkMove rfl<|qkMove rfl<|dtN<|aM<|jC (gR mS)<|loopL (B:=Value×List Value×Value×Value) (qE U p0 p1 p2 p4 a20) (fun a117 b118=>[(1,b118.1),(3,Value.func (.func 105) #[] #[vP b40,vP b41]),(4,vP b62),(8,vP b63),(10,vP b64),(11,vU (a117.1)),(12,vP b74),(39,vI (List.length p4:Int)),(40,vI (a117.2.2.1))]) (fun a117 b118=>[Ar mS b118.2.2.2 a117.2.1,bT b74 [vI (a117.2.2.2.1),vI (a117.2.2.2.2.1),vI (a117.2.2.2.2.2.1),vI (a117.2.2.2.2.2.2.1),vU (a117.2.2.2.2.2.2.2.1)] 61,Ar dH.raw b118.1 b118.2.1,jW bV b118.2.1 a117.2.2.2.2.2.2.2.2.1,bT b64 [b118.2.2.1,b118.2.2.2,kX,vI (0:Int),vI (0:Int),vI (0:Int),vI (0:Int),vU (0:Int)] 63,bT b63 Dz 63,bT b62 [vP b21.1,b21.2.1,vI (p2),vU (a20.1),Value.func (.func 61) #[] #[]] 107,bT b43 Dz 63,bT b41 [v7] 25,bT b40 [vP b21.1,b21.2.1,vI (p2),vU (a20.1),Value.func (.func 61) #[] #[]] 107,Ar mS b21.2.1 a20.2.1,bT b21.1 [vS (p0.1),v0,v1,vP b21.2.2.1,b21.2.2.2.1] 170,Ar dH.raw b21.2.2.2.1 b21.2.2.2.2.1,jW bR b21.2.2.2.2.1 a20.2.2.1,bT b21.2.2.1 [vS (p0.1),v0,v1,v2,v3,vI (a20.2.2.2.1),b21.2.2.2.2.2.1] 218,Ar dH.raw b21.2.2.2.2.2.1 b21.2.2.2.2.2.2,jW bV b21.2.2.2.2.2.2 a20.2.2.2.2,bT b3 Dz 63,Ar mS b118.2.2.1 a117.2.2.2.2.2.2.2.2.2]) ((cH .u32 r68 a20.1),(([]:aL)++([(cH .u32 r68 a20.1)])),(0:Int),r71.1,r71.2.1,r71.2.2.1,r71.2.2.2.1,r71.2.2.2.2,r65,([]:aL)) (x67.1,x67.2,(kX),u79) h SF (aW.ix [1,3,4,5,6,7,8,9,10,11,12,13,14,15,16,17,18,19,0] rfl rfl) ?_
    intro k119 a117 b118 h
    refine sqR<|qkLss rfl<|dtN<|aH ?_
    refine eN h rfl (fun h=>?_) fun h=>?_
    ·refine cF<|aH<|aM<|sqR<|qkMove rfl<|qkAsg rfl<|dtN<|sqR<|qkMove rfl<|qkMove rfl<|qkMove rfl<|Bz (A:=Int) (B:=Unit) (vs:=[vI (a117.2.2.1),vU (a117.1),vP b40,vP b41]) (fun a122=>xJ U p0 p1 p2 a20 a117 (bD (qE U p0 p1 p2 p4 a20) k119) a122=some r) (fun a122 b123=>Value.tuple #[vU (a122),vB (decide (a117.1≠(0:Int)))]) (fun a122 b123=>[Ar mS b118.2.2.2 a117.2.1,bT b74 [vI (a117.2.2.2.1),vI (a117.2.2.2.2.1),vI (a117.2.2.2.2.2.1),vI (a117.2.2.2.2.2.2.1),vU (a117.2.2.2.2.2.2.2.1)] 61,Ar dH.raw b118.1 b118.2.1,jW bV b118.2.1 a117.2.2.2.2.2.2.2.2.1,bT b64 [b118.2.2.1,b118.2.2.2,kX,vI (0:Int),vI (0:Int),vI (0:Int),vI (0:Int),vU (0:Int)] 63,bT b63 Dz 63,bT b62 [vP b21.1,b21.2.1,vI (p2),vU (a20.1),Value.func (.func 61) #[] #[]] 107,bT b43 Dz 63,bT b41 [v7] 25,bT b40 [vP b21.1,b21.2.1,vI (p2),vU (a20.1),Value.func (.func 61) #[] #[]] 107,Ar mS b21.2.1 a20.2.1,bT b21.1 [vS (p0.1),v0,v1,vP b21.2.2.1,b21.2.2.2.1] 170,Ar dH.raw b21.2.2.2.1 b21.2.2.2.2.1,jW bR b21.2.2.2.2.1 a20.2.2.1,bT b21.2.2.1 [vS (p0.1),v0,v1,v2,v3,vI (a20.2.2.2.1),b21.2.2.2.2.2.1] 218,Ar dH.raw b21.2.2.2.2.2.1 b21.2.2.2.2.2.2,jW bV b21.2.2.2.2.2.2 a20.2.2.2.2,bT b3 Dz 63,Ar mS b118.2.2.1 a117.2.2.2.2.2.2.2.2.2]) (fun a122 b123=>[Sl aI v0 p0.2.1,Sl aE v1 p0.2.2,PF (Value.agg #[vS p0.1,v0,v1]),Sl bK v2 p1.1,S2 aZ v3 z4 p1.2,S2 bK v5 z6 p3,Sl sW v7 p4,Gb 0 (cellsOf CX rU)]) (NJ (us:=[vI (a117.2.2.1),vU (a117.1)]) (cs:=[vP b40,vP b41]) (show aN Tryz.prog 105 from Tryz.call105) rfl rfl rfl) Tryz.func105 rfl Tryz.ntmps105 rfl rfl ?_ ?_
     ·refine sqR<|qkAsg rfl<|qkAsg rfl<|dtN<|aH ?_
      refine JR.start [0,1,0,4,0,0,0,96,224,511,0,1024,1023,8191] 13 mixedOrders (by decide +kernel) ?_
      refine JR.open (by exact rfl) ?_
      refine jkFld rfl<|jkLd 9 rfl<|jkFld rfl<|jkLd 9 rfl<|jkMove rfl<|jkLd 8 rfl<|jkMove rfl<|ckE h fun j149 h=>bH rfl .nil (qF 6 rfl) (aY rfl rfl (aC.fact 0 rfl) rfl rfl j149) aO.z<|bH rfl .nil (qF 6 rfl) (bY rfl (aC.fact 0 rfl) rfl rfl rfl zV j149) aO.z<|bnE h fun r150 w151 h=>JR.loud rfl rfl rfl (aJ.callQ Mu (sN U b21.2.1 r150 w151) rfl (aD.cons (aV (aC.res 10 rfl) l_) (nY [7] rfl))) rfl (fun x152=>(vG [] rfl)) fun x152=>jqN rfl (lO rfl)<|jqN rfl (EU rfl rfl)<|jqN rfl (vL rfl)<|bS 13 rfl rfl<|qkAsg rfl<|dtN<|aP ?_
      exact wX (r150) () h (.inl rfl) (Gk.r2 rfl (RV.tmp rfl) (RV.tmp rfl)) rfl (aW.refl _) (aD.refl _ _)
     intro a122 b123 h
     refine qkMove rfl<|qkExt rfl<|qkExt rfl<|qkAsg rfl<|qkAsg rfl<|dtN<|aH<|sqR<|qkMove rfl<|aB (VD rfl) rfl<|dtN ?_
     refine eN h rfl (fun h=>?_) fun h=>?_
     ·refine rE<|eS<|SQ rfl<|eS<|eS<|vJ<|uU ?_
      exact cG (a117.2.1,a117.2.2.2.1,a117.2.2.2.2.1,a117.2.2.2.2.2.1,a117.2.2.2.2.2.2.1,a117.2.2.2.2.2.2.2.1,a117.2.2.2.2.2.2.2.2.1,a117.2.2.2.2.2.2.2.2.2) (b118.1,b118.2.1,b118.2.2.1,b118.2.2.2) h SF (aW.ix [0,1,2,3,4,5,7,17,18] rfl rfl) (aD.refl _ _)
     refine cF<|aH<|sqR<|qkFld rfl<|qkLd 6 rfl<|qkFld rfl<|qkLd 6 rfl<|qkMove rfl<|qkMove rfl<|bnE h fun r125 w126 h=>aF (aJ.callQ Mz (sM U b21.2.1 r125 w126) rfl (aD.cons (aV (aC.res 10 rfl) l_) (nY [7] rfl))) rfl fun x127=>aB (wO rfl) rfl<|dtN ?_
     refine Ab h rfl (fun _ h=>?_) fun _ h=>?_
     ·refine sqR ?_
      refine aB (C_ (r:=Value.agg #[kX,kX,kX,vI (0:Int),vI (0:Int),vI (0:Int),vI (0:Int),vU (0:Int)]) (by intro w;simp[Instr.build,Instr.fill,dB,cO,cD,dC,dD,cP,eD])) rfl ?_
      refine bB 5 (vs:=Dz) rfl rfl rfl rfl rfl rfl<|qkAsg rfl<|dtN<|aP<|aG<|bJ<|aG<|aG<|bJ<|aG<|jC (gR mS)<|jC (gR mS)<|jC (gR dH.raw) (jC (t_ bV) ?_)
      exact wX (([]:aL),([]:aL),([]:bG),(0:Int),(0:Int),(0:Int),(0:Int),(0:Int),(11:Int)) ((kX),(kX),(kX),([]:fP)) h (.inl rfl) (Gk.r2 rfl (RV.cell 9 rfl rfl rfl rfl) (RV.tmp rfl)) rfl (aW.ix [11,21,2,3,1,0] rfl rfl) (aD.refl _ _)
     refine cF<|sqR<|qkFld rfl<|qkLd 6 rfl<|qkMove rfl<|qkMove rfl<|bnE h fun r129 w130 h=>aF (aJ.callQ Tw (As U b21.1 v0 v1 b21.2.2.1 v0 v1 v2 v3 z4 b21.2.2.2.2.2.1 (List.zip b21.2.2.2.2.2.2 a20.2.2.2.2) b21.2.2.2.1 (List.zip b21.2.2.2.2.1 a20.2.2.1) b118.1 (List.zip b118.2.1 a117.2.2.2.2.2.2.2.2.1) r129 w130) rfl (aD.cons (aC.res 11 rfl) (aD.cons (aC.fact 0 rfl) (aD.cons (aC.fact 1 rfl) (aD.cons (aC.res 14 rfl) (aD.cons (aC.fact 0 rfl) (aD.cons (aC.fact 1 rfl) (aD.cons (aC.fact 3 rfl) (aD.cons (aC.fact 4 rfl) (aD.cons (bF (i:=15) (j:=16) rfl rfl cW) (aD.cons (bF (i:=12) (j:=13) rfl rfl bI) (aD.cons (bF (i:=2) (j:=3) rfl rfl cW) .nil)))))))))))) rfl fun x131=>qkAsg rfl<|dtN<|aH ?_
     refine JR.start [0,1,0,7,0,16,63,127] 6 mixedOrders (by decide +kernel) ?_
     refine JR.open (by exact rfl) ?_
     refine jkFld rfl<|jkLd 8 rfl<|jkMove rfl<|bnE h fun r132 w133 h=>JR.loud rfl rfl rfl (aJ.callQ Qe (rQ U b21.1 v0 v1 b21.2.2.1 v0 v1 v2 v3 z4 b21.2.2.2.2.2.1 (List.zip b21.2.2.2.2.2.2 a20.2.2.2.2) b21.2.2.2.1 (List.zip b21.2.2.2.2.1 a20.2.2.1) x131.1 (List.zip x131.2 r129) r132 w133) rfl (aD.cons (aC.res 13 rfl) (aD.cons (aC.fact 0 rfl) (aD.cons (aC.fact 1 rfl) (aD.cons (aC.res 16 rfl) (aD.cons (aC.fact 0 rfl) (aD.cons (aC.fact 1 rfl) (aD.cons (aC.fact 3 rfl) (aD.cons (aC.fact 4 rfl) (aD.cons (bF (i:=17) (j:=18) rfl rfl cW) (aD.cons (bF (i:=14) (j:=15) rfl rfl bI) (aD.cons (bF (i:=0) (j:=1) rfl rfl cW) .nil)))))))))))) rfl (fun x134=>(vG [] rfl)) fun x134=>jqN rfl (dZ rfl rfl rfl rfl rfl)<|bH rfl (aW.cons 8 rfl .nil) .nil (fK 0 rfl rfl rfl rfl rfl) (aO.h (aW.ix [8] rfl rfl) .nil aO.z)<|bS 6 rfl rfl<|qkAnd rfl<|qkAsg rfl<|dtN<|sqR<|qkLdA 3 rfl<|qkMove rfl<|qkMove rfl<|bnE h fun r135 w136 h=>aF (aJ.callQ Tx (Gs U  r135 w136) rfl .nil) rfl fun x137=>qkMove rfl<|qkExt rfl<|qkExt rfl<|bB 3 (vs:=[vI (r135.1.1),vI (r135.1.2.1),vI (r135.1.2.2.1),vI (r135.1.2.2.2.1),vU (r135.1.2.2.2.2)]) rfl rfl rfl rfl rfl rfl<|dtN<|sqR<|qkFld rfl<|qkLd 8 rfl<|qkMove rfl<|qkMove rfl<|qkLdA 3 rfl<|bnE h fun r138 w139 h=>aF (oF (vs:=[x131.1,vU (cH .u32 r132 a20.1),Value.agg #[vI (r135.1.1),vI (r135.1.2.1),vI (r135.1.2.2.1),vI (r135.1.2.2.2.1),vU (r135.1.2.2.2.2)]]) (cs:=[]) Qb rfl (CQ U x131.1 (List.zip x131.2 r129) r138 w139) rfl (aD.cons (bF (i:=0) (j:=1) rfl rfl cW) .nil) (fun _ _=>rfl)) rfl fun x140=>dtN<|sqR<|qkFld rfl<|qkLd 6 rfl<|qkMove rfl<|aF (cE (e:=mS) ([a122]) [(0,vU (a122))] rfl rfl rfl rfl (nG (vU (a122)) rfl) rfl rfl rfl) rfl fun u141=>ckE h fun j143 h=>aF (fR 21 l_ rfl rfl rfl (aV (aC.res 0 rfl) l_) rfl rfl rfl rfl j143 rfl) rfl fun u142=>qkFld rfl<|bP (Know.one ((aV (aC.res 21 rfl) l_))) fun ho144=>gY 7 rfl rfl ho144 rfl rfl rfl<|dtN<|aK<|qkFld rfl<|qkLd 7 rfl<|qkMove rfl<|aF (cE (e:=mS) ([(cH .u32 r132 a20.1)]) [(0,vU (cH .u32 r132 a20.1))] rfl rfl rfl rfl (nG (vU (cH .u32 r132 a20.1)) rfl) rfl rfl rfl) rfl fun u145=>ckE h fun j147 h=>aF (fR 4 l_ rfl rfl rfl (aV (aC.res 0 rfl) l_) rfl rfl rfl rfl j147 rfl) rfl fun u146=>qkFld rfl<|bP (Know.one ((aV (aC.res 4 rfl) l_))) fun ho148=>gY 8 rfl rfl ho148 rfl rfl rfl<|dA<|inT<|aK<|qkAdd rfl<|qkMove rfl<|dtN ?_
     exact mA ((cH .u32 r132 a20.1),(a117.2.1++([(cH .u32 r132 a20.1)])),(wI .i64 (a117.2.2.1+(1:Int))),r135.1.1,r135.1.2.1,r135.1.2.2.1,r135.1.2.2.2.1,r135.1.2.2.2.2,r129,(a117.2.2.2.2.2.2.2.2.2++[a122])) (x131.1,x131.2,u142,u146) h SF (aW.ix [4,5,2,3,8,9,10,11,12,13,14,15,16,17,18,19,20,21,22] rfl rfl) (aD.refl _ _)
    refine fL ?_
    exact cG (a117.2.1,a117.2.2.2.1,a117.2.2.2.2.1,a117.2.2.2.2.2.1,a117.2.2.2.2.2.2.1,a117.2.2.2.2.2.2.2.1,a117.2.2.2.2.2.2.2.2.1,a117.2.2.2.2.2.2.2.2.2) (b118.1,b118.2.1,b118.2.2.1,b118.2.2.2) h SF (aW.ix [0,1,2,3,4,5,7,17,18] rfl rfl) (aD.refl _ _)
   intro a94 b95 h
   unfold qC at h
   refine aH ?_
   refine JR.start [0,0,1,5,15,31] 4 mixedOrders (by decide +kernel) ?_
   refine JR.open (by exact rfl) ?_
   refine jkMove rfl<|jkLdA 1 rfl<|jkFld rfl<|dX (Know.one (aC.sl (bF (i:=2) (j:=3) rfl rfl cW))) fun ho97=>zS rfl rfl rfl (IP 4 rfl rfl ho97 rfl rfl rfl) (fun x96=>(vG [([1],[])] rfl)) fun x96=>bS 4 rfl rfl<|qkFld rfl<|Mh (EP 4 (us:=[vI (a94.2.1),vI (a94.2.2.1),vI (a94.2.2.2.1),vI (a94.2.2.2.2.1),vU (a94.2.2.2.2.2.1)]) rfl rfl rfl rfl rfl rfl rfl rfl rfl) fun x98=>dtN<|sqR<|qkLdA 4 rfl<|bP (Know.one ((aV (aC.res 8 rfl) l_))) fun ho99=>bP (Know.one ((aV (aC.res 0 rfl) l_))) fun ho100=>bP (Know.one (aC.sl (bF (i:=2) (j:=3) rfl rfl cW))) fun ho101=>bB 5 (vs:=[b95.2.2.1,b95.2.2.2,b95.1,vI (a94.2.1),vI (a94.2.2.1),vI (a94.2.2.2.1),vI (a94.2.2.2.2.1),vU (a94.2.2.2.2.2.1)]) rfl rfl (dU ho99 (dU ho100 (dU ho101 (dU rfl (dU rfl (dU rfl (dU rfl (dU rfl rfl)))))))) rfl rfl rfl<|qkAsg rfl<|dtN<|aP ?_
   exact wX (a94.2.2.2.2.2.2.2,a94.1,a94.2.2.2.2.2.2.1,a94.2.1,a94.2.2.1,a94.2.2.2.1,a94.2.2.2.2.1,a94.2.2.2.2.2.1,(0:Int)) (b95.2.2.1,b95.2.2.2,b95.1,b95.2.1) h (.inl rfl) (Gk.r2 rfl (RV.cell 5 rfl rfl rfl rfl) (RV.tmp rfl)) rfl (aW.ix [6,7,8,0,2,3] rfl rfl) (aD.refl _ _)
  intro a57 b58 h
  unfold tP at h
  refine qkExt rfl<|qkExt rfl<|bP (Know.one ((aV (aC.res 2 rfl) l_))) fun ho59=>bP (Know.one ((aV (aC.res 3 rfl) l_))) fun ho60=>bP (Know.one (aC.sl (bF (i:=4) (j:=5) rfl rfl cW))) fun ho61=>bB 0 (vs:=[b58.1,b58.2.1,b58.2.2.1,vI (a57.2.2.2.1),vI (a57.2.2.2.2.1),vI (a57.2.2.2.2.2.1),vI (a57.2.2.2.2.2.2.1),vU (a57.2.2.2.2.2.2.2.1)]) rfl rfl (dU ho59 (dU ho60 (dU ho61 (dU rfl (dU rfl (dU rfl (dU rfl (dU rfl rfl)))))))) rfl rfl rfl<|qkAsg rfl<|dtN<|aP ?_
  exact wX (a57.2.2.2.1,a57.2.2.2.2.1,a57.2.2.2.2.2.1,a57.2.2.2.2.2.2.1,a57.2.2.2.2.2.2.2.1,a57.2.2.2.2.2.2.2.2,a57.1,a57.2.1,a57.2.2.1) (b58.1,b58.2.1,b58.2.2.1,b58.2.2.2) h (.inl rfl) (Gk.r2 rfl (RV.cell 0 rfl rfl rfl rfl) (RV.tmp rfl)) rfl (aW.ix [1,2,3,4,5] rfl rfl) (aD.refl _ _)
 intro a35 b36 h
 unfold xI at h
 refine qkExt rfl<|qkExt rfl<|bP (Know.one ((aV (aC.res 1 rfl) l_))) fun ho37=>bP (Know.one ((aV (aC.res 2 rfl) l_))) fun ho38=>bP (Know.one (aC.sl (bF (i:=3) (j:=4) rfl rfl cW))) fun ho39=>bB 0 (vs:=[b36.1,b36.2.1,b36.2.2.1,vI (a35.1),vI (a35.2.1),vI (a35.2.2.1),vI (a35.2.2.2.1),vU (a35.2.2.2.2.1)]) rfl rfl (dU ho37 (dU ho38 (dU ho39 (dU rfl (dU rfl (dU rfl (dU rfl (dU rfl rfl)))))))) rfl rfl rfl<|qkAsg rfl<|dtN<|aP ?_
 cases h
 exact fI (b36.1,b36.2.1,b36.2.2.1,b36.2.2.2) rfl rfl (RV.cell 0 rfl rfl rfl rfl) (RV.tmp rfl) (aW.ix [1,2,3,4] rfl rfl) aD.nil
end
end Go.Proofs.YtjlbcgddhnjcjaaGreatDoor
end
section
namespace Go.Proofs.YtjlbcgddhnjcjaaGreatDoor
open Go Go.Sx
section
theorem OO {g:GR} (hV:VG g) (p:B_) (kind:Int) (c:bG) (ws:aL):
  bD (jQ 1000 p g kind c ws) 1000 ((0:Int),(0:Int),(List.replicate (Int.toNat (List.length g.2:Int)) ([]:aL)))=qD 1000 p g kind c ws (jK g g.2.length,d_ g):=by
 have h24:=hV.n24
 have hlen:=hV.len
 let f:Nat->aL:=fun v=>(List.range (row g v).length).map (Mt g v)
 let Q:Nat->bG:=fun k=>(List.range k).map f++List.replicate (g.2.length - k) []
 have hQ:∀k,k<=g.2.length->(Q k).length=g.2.length:=fun k hk=>by simp[Q];omega
 rw[show List.replicate (Int.toNat (List.length g.2:Int)) ([]:aL)=Q 0 by simp[Q]]
 refine dV (step:=jQ 1000 p g kind c ws) g.2.length (fun k=>((k:Int),jK g k,Q k)) (fun k ag hk=> ?_) (fun ag=> ?_) 1000 (by omega)
 ·have hdeg:=(hV.node k hk).deg
  have hq:k<(Q k).length:=by rw[hQ k (by omega)];exact hk
  unfold jQ
  dsimp only
  rw[if_pos (by omega),cN (by omega),cN (by omega)]
  let Rw:Nat->aL:=fun j=>(List.range j).map (Mt g k)
  have e0:Q k=(Q k).set k (Rw 0):=by
   have:at' (Q k) (k:Int)=Rw 0:=by
    rw[jY hq];simp[Q,Rw]
   rw[<-this]
   exact(FQ (Q k) (k:Int) (by simpa using hq) (by omega)).symm
  rw[show(Q k)=(Q k).set k (Rw 0)from e0]
  have hgen:∀A:bG,A.length=g.2.length->bD (nU 1000 g ((k:Int),jK g k,(Q k).set k (Rw 0)) ag) 1000 ((0:Int),A.set k (Rw 0))=ag (((k+1:Nat):Int),jK g (k+1),A.set k (f k)):=by
   intro A hA
   refine dV (step:=nU 1000 g ((k:Int),jK g k,(Q k).set k (Rw 0)) ag) (K:=ag (((k+1:Nat):Int),jK g (k+1),A.set k (f k))) (row g k).length (fun j=>((j:Int),A.set k (Rw j))) (fun j ag2 hj=> ?_) (fun ag2=> ?_) 1000 (by omega)
   ·obtain⟨u,hu,hue⟩:=hV.to hk hj
    have hdu:=(hV.node u hu).deg
    have a1:at' (A.set k (Rw j)) (k:Int)=Rw j:=by rw[rW _ _ _ _ (by omega),if_pos rfl]
    have hRl:(Rw j).length=j:=by simp[Rw]
    unfold nU
    dsimp only
    rw[if_pos (show(j:Int)<((row g k).length:Int) by omega),cN (show 0<=(j:Int)∧(j:Int)<((row g k).length:Int) by omega),cN (by simp only[List.length_set];omega),show at' (at' g.2 (k:Int)) (j:Int)=iH (row g k) j from rfl,hue,bA (show oP 1000 _ (u:Int) (k:Int)=_ from OI g u (k:Int) hu (by omega)),a1,cN (by rw[hRl];simp;omega),cN (by simp only[List.length_set];omega),eC (by omega),Int.toNat_natCast,List.set_set]
    have:Rw j++[xF (row g u) (k:Int)]=Rw (j+1):=by
     simp only[Rw];rw[List.range_succ,List.map_append,List.map_singleton,Mt,hue,Int.toNat_natCast]
    rw[this]
   ·unfold nU tS
    dsimp only
    rw[if_neg (show¬((row g k).length:Int)<((row g k).length:Int)from Int.lt_irrefl _),eC (by omega)]
    rfl
  have:=hgen (Q k) (hQ k (by omega))
  rw[tO f [] g.2.length k hk]at this
  exact this
 ·unfold jQ
  dsimp only
  rw[if_neg (by omega)]
  simp[Q,d_,f]
def jM (g:GR):Nat:=2^g.2.length - 1
theorem Mo {g:GR} (hV:VG g):jM g<4294967296:=by
 have h24:=hV.n24
 have:(2:Nat)^g.2.length<=2^24:=Nat.pow_le_pow_right (by omega) h24
 unfold jM;omega
section
variable {p:B_} {g:GR} {R:List RL}
theorem Lo (hV:VG g) (hp:zY g p.2.1) (hz:p.2.2.map vQ=Ea R) (hR:uN p.2.1.length R=true) {kind:Int} (hk1:1<=kind) (hk4:kind<=4) {c0:List (List Int)} (hc0:U_ g c0 p.2.1) {ws:List Int} (hws:ws.length<=900) (hw:∀k:Nat,k<ws.length->∃m:Nat,at' ws (k:Int)=(m:Int)∧m<4294967296)
  (P:Nat->List (List Int)->List Nat->CT->Prop) (h0:P 0 c0 [] (0,0,0,0,cH .u32 ((yB (dG p g) R (jM g) c0:Nat):Int) 16777215))
  (hstep:∀k c ch cnt t cnt' err,k<ws.length->pV g p.2.1.length c->P k c ch cnt->yB (dG p g) R (jM g) c≠0->t≠0->(∀i,t.testBit i=true->(yB (dG p g) R (jM g) c).testBit i=true)->(kind<=2->∀v u,t.testBit v=true->t.testBit u=true->¬EJ g v u)->(kind=4->t=yB (dG p g) R (jM g) c)->(∃net,jH 1000 g=some net∧cM 1000 net kind ((yB (dG p g) R (jM g) c:Nat):Int) (at' ws (k:Int))=some (t:Int))->
   nT 1000 cnt (t:Int) ((yB (dG p g) R (jM g) (qH (dG p g) p.2.1 R c t):Nat):Int)=some (cnt',err)->P (k+1) (qH (dG p g) p.2.1 R c t) (ch++[t]) cnt'):
  ∃k c ch cnt ens,lL 1000 p g kind c0 ws=some ((Aj ch,ens,c,cnt),0)∧P k c ch cnt∧pV g p.2.1.length c∧k<=ws.length∧ch.length=k∧ens.length=k+1∧at' ens (k:Int)=((yB (dG p g) R (jM g) c:Nat):Int)∧(k=ws.length∨yB (dG p g) R (jM g) c=0):=by
 have h24:=hV.n24
 have hvl:=hp.len
 let S:=dG p g
 have hVS:VG S.2.1:=hV
 obtain⟨net,hnet,hN⟩:=WL hV
 have hcheck:uE 1000 p g kind c0 (ws.length:Int)=some 0:=by
  unfold uE
  rw[bA (show oQ 1000 _ _ c0=_ from Qj hV hp hc0),if_neg (by decide)]
  have:sE 1000 kind=some true:=by
   unfold sE nE
   rw[if_pos hk1,decide_eq_true hk4]
  rw[bA this,if_neg (by decide),if_neg (by omega)]
 unfold lL
 rw[bA (show uE 1000 _ _ kind c0 _=_ from hcheck),if_neg (by decide),cN (by omega),OO hV p kind c0 ws]
 unfold qD tR
 rw[bA (show kH 1000 _ _=_ from Ko hV hp)]
 unfold tQ
 rw[bA (show jH 1000 _=_ from hnet),bA (show uD 1000 _=some ((jM g:Nat):Int)from VE hV)]
 have hen:∀c,pV g p.2.1.length c->cT 1000 (p,(p,g,jK g g.2.length,d_ g),zA g p.2.1) c=some ((Xi S R c:Nat):Int):=fun c hc=>Lm hV hc hz hR (by simp[zA])
 have hand:∀c,cH .u32 ((Xi S R c:Nat):Int) ((jM g:Nat):Int)=((yB S R (jM g) c:Nat):Int):=fun c=>DI (Wm hVS R c) (Mo hV)
 unfold xH
 dsimp only
 rw[bA (MJ c0 (by rw[hc0.len];omega) (fun v hv=>by rw[hc0.row v (by rw[<-hc0.len];exact hv)];omega)),bA (show cT 1000 _ c0=_ from hen c0 hc0.shape),hand,bA (show qT 1000 _=some (0,0,0,0,cH .u32 ((yB S R (jM g) c0:Nat):Int) 16777215)from rfl),bA (show pF 1000 _ _ _=some ()from rfl),cN (by simp),List.nil_append]
 let A20:Int×List Int×(List (List (Int×Int)))×Int×List (List Int):=(((jM g:Nat):Int),net,zA g p.2.1,jK g g.2.length,d_ g)
 have fin:∀k c ch cnt ens,P k c ch cnt->pV g p.2.1.length c->k<=ws.length->ch.length=k->ens.length=k+1->at' ens (k:Int)=((yB S R (jM g) c:Nat):Int)->(k=ws.length∨yB S R (jM g) c=0)->
   OK (fun r:(List Int×List Int×List (List Int)×CT)×Int=>∃k c ch cnt ens,r=((Aj ch,ens,c,cnt),0)∧P k c ch cnt∧pV g p.2.1.length c∧k<=ws.length∧ch.length=k∧ens.length=k+1∧at' ens (k:Int)=((yB S R (jM g) c:Nat):Int)∧(k=ws.length∨yB S R (jM g) c=0)) (qC (ens,cnt.1,cnt.2.1,cnt.2.2.1,cnt.2.2.2.1,cnt.2.2.2.2,c,Aj ch)):=
  fun k c ch cnt ens a1 a2 a3 a4 a5 a6 a7=>⟨_,rfl,k,c,ch,cnt,ens,rfl,a1,a2,a3,a4,a5,a6,a7⟩
 have key:=u_ (step:=qE 1000 p g kind ws A20) (Q:=fun r:(List Int×List Int×List (List Int)×CT)×Int=>∃k c ch cnt ens,r=((Aj ch,ens,c,cnt),0)∧P k c ch cnt∧pV g p.2.1.length c∧k<=ws.length∧ch.length=k∧ens.length=k+1∧at' ens (k:Int)=((yB S R (jM g) c:Nat):Int)∧(k=ws.length∨yB S R (jM g) c=0))
  (fun x=>∃(k:Nat) (c:List (List Int)) (ch:List Nat) (cnt:CT) (ens:List Int),x=(((yB S R (jM g) c:Nat):Int),ens,(k:Int),cnt.1,cnt.2.1,cnt.2.2.1,cnt.2.2.2.1,cnt.2.2.2.2,c,Aj ch)∧P k c ch cnt∧pV g p.2.1.length c∧k<=ws.length∧ch.length=k∧ens.length=k+1∧at' ens (k:Int)=((yB S R (jM g) c:Nat):Int)) (fun x=>ws.length - x.2.2.1.toNat) (fun x ag hI hrec=>by
  obtain⟨k,c,ch,cnt,ens,rfl,b1,b2,b3,b4,b5,b6⟩:=hI
  unfold qE
  dsimp only
  by_cases hlt:k<ws.length
  rotate_left
  ·rw[if_neg (by omega)]
   exact fin k c ch cnt ens b1 b2 b3 b4 b5 b6 (.inl (by omega))
  obtain⟨w,hwe,hw32⟩:=hw k hlt
  have hin:Pj g (yB S R (jM g) c):=Wn S R (jM g) c
  obtain⟨t,ht,hsub,hne⟩:=LN hV hN hk1 hk4 hin hw32
  rw[if_pos (by omega),cN (by omega),hwe,bA (show cM 1000 net kind _ _=_ from ht)]
  unfold xJ
  dsimp only
  by_cases he0:yB S R (jM g) c=0
  ·rw[if_pos (by omega)]
   exact fin k c ch cnt ens b1 b2 b3 b4 b5 b6 (.inr he0)
  obtain⟨ht0,hperm,hk2,hk4'⟩:=hne he0
  have ht32:t<4294967296:=by have:=Pj.lt hV (fun i hi=>hin i (hsub i hi));omega
  rw[if_neg (by omega),bA (show dY 1000 net kind _ _=_ from hperm),if_neg (by decide)]
  have hst:gC 1000 (p,(p,g,jK g g.2.length,d_ g),zA g p.2.1) c (t:Int)=some (qH S p.2.1 R c t):=UL (gr:=jK g g.2.length) hV hp b2 hz hR ht32 (fun v hv=>((Eu S R (jM g) c v).1 (hsub v hv)).2.1)
  have hsh:pV g p.2.1.length (qH S p.2.1 R c t):=b2.step
  obtain⟨⟨cnt',err⟩,hadd⟩:=PQ cnt ht32 ((yB S R (jM g) (qH S p.2.1 R c t):Nat):Int)
  rw[bA (show gC 1000 _ c (t:Int)=_ from hst),bA (show cT 1000 _ _=_ from hen _ hsh),hand,bA (show nT 1000 _ (t:Int) _=_ from hadd),bA (show pF 1000 _ _ _=some ()from rfl),cN (by simp[Aj];omega),cN (by simp;omega),eC (by omega)]
  refine hrec _ ⟨k+1,qH S p.2.1 R c t,ch++[t],cnt',ens++[((yB S R (jM g) (qH S p.2.1 R c t):Nat):Int)],by simp[Aj],hstep k c ch cnt t cnt' err hlt b2 b1 he0 ht0 hsub hk2 hk4' ⟨net,hnet,by rw[hwe];exact ht⟩ hadd,hsh,by omega,by simp[b4],by simp[b5],?_⟩ (by dsimp only;omega)
  exact HK (pre:=ens) (rest:=[]) (by simp) b5) 1000 (((yB S R (jM g) c0:Nat):Int),[((yB S R (jM g) c0:Nat):Int)],(0:Int),0,0,0,0,cH .u32 ((yB S R (jM g) c0:Nat):Int) 16777215,c0,[])
  ⟨0,c0,[],(0,0,0,0,cH .u32 ((yB S R (jM g) c0:Nat):Int) 16777215),[((yB S R (jM g) c0:Nat):Int)],rfl,h0,hc0.shape,by omega,rfl,rfl,rfl⟩ (by dsimp only;omega)
 obtain⟨r,hr,k,c,ch,cnt,ens,rfl,hrest⟩:=key
 exact⟨k,c,ch,cnt,ens,hr,hrest⟩
end
end
section
noncomputable def nxt (g:GR) (kind:Int) (en:Nat) (w:Int):Nat:=(((jH 1000 g).bind fun net=>cM 1000 net kind (en:Int) w).getD 0).toNat
noncomputable def J_ (p:B_) (vars:List Er) (R:List RL) (g:GR) (kind:Int) (ws:aL) (c0:bG):Nat->bG
 |0=>c0
 |k+1=>qH (dG p g) vars R (J_ p vars R g kind ws c0 k) (nxt g kind (yB (dG p g) R (jM g) (J_ p vars R g kind ws c0 k)) (at' ws (k:Int)))
theorem Lq {p:B_} {g:GR} {R:List RL} (hV:VG g) (hp:zY g p.2.1) (hz:p.2.2.map vQ=Ea R) (hR:uN p.2.1.length R=true) {kind:Int} (hk1:1<=kind) (hk4:kind<=4) {c0:bG} (hc0:U_ g c0 p.2.1) {ws:aL} (hws:ws.length<=900) (hw:∀k:Nat,k<ws.length->∃m:Nat,at' ws (k:Int)=(m:Int)∧m<4294967296)
  (P:Nat->bG->iO->Prop) (h0:P 0 c0 [])
  (hstep:∀k c ch t,k<ws.length->pV g p.2.1.length c->P k c ch->yB (dG p g) R (jM g) c≠0->t≠0->(∀i,t.testBit i=true->(yB (dG p g) R (jM g) c).testBit i=true)->(kind<=2->∀v u,t.testBit v=true->t.testBit u=true->¬EJ g v u)->P (k+1) (qH (dG p g) p.2.1 R c t) (ch++[t])):
  ∃k c ch cnt ens,lL 1000 p g kind c0 ws=some ((Aj ch,ens,c,cnt),0)∧P k c ch∧pV g p.2.1.length c∧k<=ws.length∧ch.length=k∧ens.length=k+1∧at' ens (k:Int)=((yB (dG p g) R (jM g) c:Nat):Int)∧(k=ws.length∨yB (dG p g) R (jM g) c=0)∧c=J_ p p.2.1 R g kind ws c0 k∧∀j,j<k->yB (dG p g) R (jM g) (J_ p p.2.1 R g kind ws c0 j)≠0:=by
 obtain⟨k,c,ch,cnt,ens,h1,⟨h2,h2c,h2e⟩,h3,h4,h5,h6,h7,h8⟩:=Lo hV hp hz hR hk1 hk4 hc0 hws hw (fun k c ch _=>P k c ch∧c=J_ p p.2.1 R g kind ws c0 k∧∀j,j<k->yB (dG p g) R (jM g) (J_ p p.2.1 R g kind ws c0 j)≠0) ⟨h0,rfl,fun j hj=>by omega⟩
  (fun k c ch cnt t cnt' err hk hsh hI hne ht0 hsub hind _ hres _=>by
   obtain⟨a,rfl,b⟩:=hI
   obtain⟨net,hn,hr⟩:=hres
   refine⟨hstep k _ ch t hk hsh a hne ht0 hsub hind,?_,fun j hj=> ?_⟩
   ·have:nxt g kind (yB (dG p g) R (jM g) (J_ p p.2.1 R g kind ws c0 k)) (at' ws (k:Int))=t:=by
     unfold nxt
     rw[bA hn,hr];simp
    rw[J_,this]
   ·by_cases e:j<k
    ·exact b j e
    ·obtain rfl:j=k:=by omega
     exact hne)
 exact⟨k,c,ch,cnt,ens,h1,h2,h3,h4,h5,h6,h7,h8,h2c,h2e⟩
end
end Go.Proofs.YtjlbcgddhnjcjaaGreatDoor
end
section
namespace Go.Proofs.YtjlbcgddhnjcjaaGreatDoor
open Go.Sx
def rA  (a3:aL):Option aL:=
 some (a3)
def nO (a9:aL×Int) (ag8:(aL×Int)->Option aL) (a15:aL):Option aL:=
 ag8 (a15,(wI .i64 (a9.2+(1:Int))))
def lE (p0:aL) (p1:Int) (a9:aL×Int) (ag8:(aL×Int)->Option aL):Option aL:=
 if a9.2<p1 then(if(List.length p0:Int)=(0:Int)then(ck ((List.length a9.1:Int)+(List.length ([(4294967295:Int)]):Int)<=1099511627) (nO a9 ag8 (a9.1++([(4294967295:Int)]))))else(ck ((List.length p0:Int)≠0) (ck (0<=(Int.tmod a9.2 (List.length p0:Int))∧(Int.tmod a9.2 (List.length p0:Int))<(List.length p0:Int)) (ck ((List.length p0:Int)≠0) (ck ((24:Int)≠0) (ck (0<=(wI .u64 (Int.tmod (wI .i64 (Int.tdiv a9.2 (List.length p0:Int))) (24:Int)))) (ck (0<=(wI .u64 ((24:Int) - (wI .u64 (Int.tmod (wI .i64 (Int.tdiv a9.2 (List.length p0:Int))) (24:Int)))))) (ck ((List.length a9.1:Int)+(List.length ([(cH .u32 (CU .u32 (vN .u32 (cH .u32 (at' p0 (Int.tmod a9.2 (List.length p0:Int))) (16777215:Int)) (wI .u64 (Int.tmod (wI .i64 (Int.tdiv a9.2 (List.length p0:Int))) (24:Int)))) (mH .u32 (cH .u32 (at' p0 (Int.tmod a9.2 (List.length p0:Int))) (16777215:Int)) (wI .u64 ((24:Int) - (wI .u64 (Int.tmod (wI .i64 (Int.tdiv a9.2 (List.length p0:Int))) (24:Int))))))) (16777215:Int))]):Int)<=1099511627) (nO a9 ag8 (a9.1++([(cH .u32 (CU .u32 (vN .u32 (cH .u32 (at' p0 (Int.tmod a9.2 (List.length p0:Int))) (16777215:Int)) (wI .u64 (Int.tmod (wI .i64 (Int.tdiv a9.2 (List.length p0:Int))) (24:Int)))) (mH .u32 (cH .u32 (at' p0 (Int.tmod a9.2 (List.length p0:Int))) (16777215:Int)) (wI .u64 ((24:Int) - (wI .u64 (Int.tmod (wI .i64 (Int.tdiv a9.2 (List.length p0:Int))) (24:Int))))))) (16777215:Int))])))))))))))else(rA  (a9.1))
def mQ (U:Nat) (p0:aL) (p1:Int):Option aL:=
 bD (lE p0 p1) U (([]:aL),(0:Int))
theorem VL:aN Tryz.prog 16:=Tryz.call16
theorem Gc (U:Nat) {p0:aL} {p1:Int} (v0:Value) (r:aL) (h:mQ U p0 p1=some r):
  aT Tryz.prog 16 #[v0,vI (p1)] [Sl sW v0 p0] (fun x:Value=>x) (fun x l=>Ar mS x r::l) (fun _ l=>l):=by
 refine aT.of Tryz.func16 rfl Tryz.ntmps16 rfl fun c=>?_
 unfold mQ at h
 refine sqR<|qkAsg rfl<|dtN<|sqR<|qkAsg rfl<|dtN<|aH<|midL (B:=Value) (fun a3=>rA  a3=some r) (fun a3 b4=>[(5,b4)]) (fun a3 b4=>[Ar mS b4 a3]) ?_ ?_
 ·refine sqR<|qkAsg rfl<|dtN<|aM<|jC (gR mS)<|loopL (B:=Value) (lE p0 p1) (fun a9 b10=>[(0,v0),(1,vI (p1)),(5,b10),(6,vI (a9.2))]) (fun a9 b10=>[Ar mS b10 a9.1]) (([]:aL),(0:Int)) (kX) h SF (aW.refl _) ?_
  intro k11 a9 b10 h
  refine aH<|sqR<|qkMove rfl<|qkMove rfl<|qkLss rfl<|dtN ?_
  refine eN h rfl (fun h=>?_) fun h=>?_
  ·refine cF<|aH<|midL (B:=Value) (fun a15=>nO a9 (bD (lE p0 p1) k11) a15=some r) (fun a15 b16=>[(0,v0),(1,vI (p1)),(5,b16),(6,vI (a9.2))]) (fun a15 b16=>[Ar mS b16 a15]) ?_ ?_
   ·refine aM<|aH<|sqR<|qkMove rfl<|qkLen (aC.fact 0 rfl) rfl<|qkEql rfl<|dtN ?_
    refine eN h rfl (fun h=>?_) fun h=>?_
    ·refine sqR<|qkMove rfl<|aF (cE (e:=mS) ([(4294967295:Int)]) [(0,vU (4294967295:Int))] rfl rfl rfl rfl (nG (vU (4294967295:Int)) rfl) rfl rfl rfl) rfl fun u18=>ckE h fun j20 h=>aF (fR 1 l_ rfl rfl rfl (aV (aC.res 0 rfl) l_) rfl rfl rfl rfl j20 rfl) rfl fun u19=>qkAsg rfl<|dtN<|rE<|eS<|vJ<|uU ?_
     exact cG (a9.1++([(4294967295:Int)])) (u19) h SF (aW.ix [1] rfl rfl) (aD.refl _ _)
    refine cF<|aH ?_
    refine JR.start [0,0,0,4,14,31,63,0,0,256,896,1920,3968,127,16383] 14 mixedOrders (by decide +kernel) ?_
    refine JR.open (by exact rfl) ?_
    refine jkMove rfl<|jkMove rfl<|jkMove rfl<|bH rfl .nil (qF 0 rfl) (jF rfl (aC.fact 0 rfl) rfl) aO.z<|ckE h fun j21 h=>jqN rfl (Jn rfl rfl j21)<|ckE h fun j22 h=>bH rfl .nil (qF 0 rfl) (aY rfl rfl (aC.fact 0 rfl) rfl rfl j22) aO.z<|bH rfl .nil (qF 0 rfl) (bY rfl (aC.fact 0 rfl) rfl rfl rfl zV j22) aO.z<|jkMove rfl<|jkMove rfl<|bH rfl .nil (qF 0 rfl) (jF rfl (aC.fact 0 rfl) rfl) aO.z<|ckE h fun j23 h=>jqN rfl (PP rfl rfl j23)<|ckE h fun j24 h=>jqN rfl (Jn rfl rfl j24)<|jqN rfl (ER rfl rfl rfl)<|jqN rfl (vL rfl)<|bS 14 rfl rfl<|qkAsg rfl<|dtN<|sqR<|qkMove rfl<|qkAnd rfl<|qkAsg rfl<|dtN<|aK<|qkMove rfl<|qkMove rfl<|qkMove rfl<|ckE h fun j25 h=>aB (EV rfl rfl j25) rfl<|qkMove rfl<|qkMove rfl<|aB (nW rfl rfl) rfl<|ckE h fun j26 h=>aB (DG rfl rfl j26) rfl<|aB (Lb rfl rfl) rfl<|qkAnd rfl<|aF (cE (e:=mS) ([(cH .u32 (CU .u32 (vN .u32 (cH .u32 (at' p0 (Int.tmod a9.2 (List.length p0:Int))) (16777215:Int)) (wI .u64 (Int.tmod (wI .i64 (Int.tdiv a9.2 (List.length p0:Int))) (24:Int)))) (mH .u32 (cH .u32 (at' p0 (Int.tmod a9.2 (List.length p0:Int))) (16777215:Int)) (wI .u64 ((24:Int) - (wI .u64 (Int.tmod (wI .i64 (Int.tdiv a9.2 (List.length p0:Int))) (24:Int))))))) (16777215:Int))]) [(0,vU (cH .u32 (CU .u32 (vN .u32 (cH .u32 (at' p0 (Int.tmod a9.2 (List.length p0:Int))) (16777215:Int)) (wI .u64 (Int.tmod (wI .i64 (Int.tdiv a9.2 (List.length p0:Int))) (24:Int)))) (mH .u32 (cH .u32 (at' p0 (Int.tmod a9.2 (List.length p0:Int))) (16777215:Int)) (wI .u64 ((24:Int) - (wI .u64 (Int.tmod (wI .i64 (Int.tdiv a9.2 (List.length p0:Int))) (24:Int))))))) (16777215:Int)))] rfl rfl rfl rfl (nG (vU (cH .u32 (CU .u32 (vN .u32 (cH .u32 (at' p0 (Int.tmod a9.2 (List.length p0:Int))) (16777215:Int)) (wI .u64 (Int.tmod (wI .i64 (Int.tdiv a9.2 (List.length p0:Int))) (24:Int)))) (mH .u32 (cH .u32 (at' p0 (Int.tmod a9.2 (List.length p0:Int))) (16777215:Int)) (wI .u64 ((24:Int) - (wI .u64 (Int.tmod (wI .i64 (Int.tdiv a9.2 (List.length p0:Int))) (24:Int))))))) (16777215:Int))) rfl) rfl rfl rfl) rfl fun u27=>ckE h fun j29 h=>aF (fR 1 l_ rfl rfl rfl (aV (aC.res 0 rfl) l_) rfl rfl rfl rfl j29 rfl) rfl fun u28=>qkAsg rfl<|dA<|inT ?_
    exact cG (a9.1++([(cH .u32 (CU .u32 (vN .u32 (cH .u32 (at' p0 (Int.tmod a9.2 (List.length p0:Int))) (16777215:Int)) (wI .u64 (Int.tmod (wI .i64 (Int.tdiv a9.2 (List.length p0:Int))) (24:Int)))) (mH .u32 (cH .u32 (at' p0 (Int.tmod a9.2 (List.length p0:Int))) (16777215:Int)) (wI .u64 ((24:Int) - (wI .u64 (Int.tmod (wI .i64 (Int.tdiv a9.2 (List.length p0:Int))) (24:Int))))))) (16777215:Int))])) (u28) h SF (aW.ix [1] rfl rfl) (aD.refl _ _)
   intro a15 b16 h
   unfold nO at h
   refine aK<|qkMove rfl<|qkAdd rfl<|qkAsg rfl<|dtN ?_
   exact xO (a15,(wI .i64 (a9.2+(1:Int)))) (b16) h SF rfl
  refine fL ?_
  exact iG (a9.1) (b10) h SF rfl
 intro a3 b4 h
 unfold rA at h
 refine sqR<|qkMove rfl<|qkAsg rfl<|dtN<|aP ?_
 cases h
 exact gV (b4) rfl rfl (RV.tmp rfl) (aW.refl _) aD.nil
end Go.Proofs.YtjlbcgddhnjcjaaGreatDoor
end
section
namespace Go.Proofs.YtjlbcgddhnjcjaaGreatDoor
open Go Go.Sx
theorem KA (x:Int):0<=wI .u64 x:=by
 rw[Bv]
 have:IntKind.u64.wrap x=x%18446744073709551616:=rfl
 rw[this];omega
theorem OX (l:aL) {n:Nat} (hn:n<=900):∃ws,mQ 1000 l (n:Int)=some ws∧ws.length=n∧∀k:Nat,k<ws.length->∃m:Nat,at' ws (k:Int)=(m:Int)∧m<4294967296:=by
 unfold mQ
 obtain⟨⟨ws,i⟩,⟨hi,hl,hb⟩,he⟩:=pX (step:=lE l (n:Int)) (K:=fun z=>some z.1) n
  (fun k z=>z.2=(k:Int)∧z.1.length=k∧∀j:Nat,j<k->∃m:Nat,at' z.1 (j:Int)=(m:Int)∧m<4294967296) (fun k z ag hk hI=>by
  obtain⟨ws,i⟩:=z
  obtain⟨hi,hl,hb⟩:=hI
  dsimp only at hi hl hb
  subst hi
  have snoc:∀m:Nat,m<4294967296->∀j:Nat,j<k+1->∃m':Nat,at' (ws++[(m:Int)]) (j:Int)=(m':Int)∧m'<4294967296:=fun m hm j hj=>by
   rw[Iu ws _ (by omega)]
   by_cases e:j<ws.length
   ·rw[if_pos e];exact hb j (by omega)
   ·rw[if_neg e];exact⟨m,rfl,hm⟩
  have hin:∀m:Nat,(List.length ws:Int)+(List.length [(m:Int)]:Int)<=1099511627:=fun m=>by simp;omega
  unfold lE nO
  dsimp only
  rw[if_pos (by omega),eC (by omega)]
  by_cases h0:l.length=0
  ·rw[if_pos (by omega),cN (show(List.length ws:Int)+(List.length [(4294967295:Int)]:Int)<=1099511627 from hin 4294967295)]
   exact⟨_,⟨rfl,by simp[hl],snoc 4294967295 (by omega)⟩,rfl⟩
  ·have e1:Int.tmod (k:Int) (l.length:Int)=((k%l.length:Nat):Int):=rfl
   have hlt:k%l.length<l.length:=Nat.mod_lt _ (by omega)
   rw[if_neg (by omega),cN (by omega),cN (by rw[e1];omega),cN (by omega),cN (by decide),cN (KA _),cN (KA _)]
   have hX:∀X:Int,∃m:Nat,cH .u32 X (16777215:Int)=(m:Int)∧m<4294967296:=fun X=>⟨_,Es _ _,Nat.lt_of_le_of_lt Nat.and_le_left (HC _)⟩
   obtain⟨m,hm,hm32⟩:=hX (CU .u32 (vN .u32 (cH .u32 (at' l (Int.tmod (k:Int) (l.length:Int))) (16777215:Int)) (wI .u64 (Int.tmod (wI .i64 (Int.tdiv (k:Int) (l.length:Int))) (24:Int)))) (mH .u32 (cH .u32 (at' l (Int.tmod (k:Int) (l.length:Int))) (16777215:Int)) (wI .u64 ((24:Int) - (wI .u64 (Int.tmod (wI .i64 (Int.tdiv (k:Int) (l.length:Int))) (24:Int)))))))
   rw[hm,cN (hin m)]
   exact⟨_,⟨rfl,by simp[hl],snoc m hm32⟩,rfl⟩) (fun z ag hI=>by
  obtain⟨ws,i⟩:=z
  obtain⟨hi,hl,hb⟩:=hI
  dsimp only at hi
  subst hi
  unfold lE rA
  dsimp only
  rw[if_neg (by omega)]) 1000 (([]:aL),(0:Int)) ⟨rfl,rfl,fun j hj=>by omega⟩ (by omega)
 exact⟨ws,he,hl,fun k hk=>hb k (by dsimp only at hl;omega)⟩

def zN (ch:iO) (v:Nat):Nat:=ch.countP fun t=>t.testBit v
theorem Oe (ch:iO) (t v:Nat):zN (ch++[t]) v=zN ch v+if t.testBit v=true then 1 else 0:=by
 unfold zN
 rw[List.countP_append]
 cases h:t.testBit v<;>simp[h]
def ID (c:bG) (v:Nat):Int:=at' (at' c (v:Int)) 0
def LG (g:GR) (c:bG) (v i:Nat):Int:=at' (at' c (iH (row g v) i).1) 0
theorem Nc {g:GR} {c:bG} {v i u:Nat} (h:(iH (row g v) i).1=(u:Int)):LG g c v i=ID c u:=by unfold LG ID;rw[h]
end Go.Proofs.YtjlbcgddhnjcjaaGreatDoor
end
