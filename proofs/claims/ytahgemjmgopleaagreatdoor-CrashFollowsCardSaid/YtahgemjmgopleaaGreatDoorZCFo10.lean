/- Models and proofs. Conditions: none. -/
import Derived.Test.YtahgemjmgopleaaGreatDoorZCFo9
import Derived.Test.YtahgemjmgopleaaGreatDoorZCFo6
import Derived.Test.YtahgemjmgopleaaGreatDoorZCFo8
import Derived.Test.YtahgemjmgopleaaGreatDoorZCFo7
import Derived.Test.YtahgemjmgopleaaGreatDoorZCFo5
import Derived.Test.YtahgemjmgopleaaGreatDoorZCFo2
set_option linter.unusedVariables false
set_option linter.unusedSimpArgs false
set_option maxHeartbeats 4000000
set_option maxRecDepth 20000
namespace Go.Proofs.YtahgemjmgopleaaGreatDoor
open Go Go.Sx
theorem Xl {g:GR} (a:VG g):nK 1000 g=some (gO g g.1.length):=by
 have d:=a.n24;have b:=a.len;unfold nK;refine cQ (F:=λk:Nat=>((gO g k,(k:Int)):eV)) g.1.length (λk c e=> ?_) (λc=> ?_) 1000 (by omega)
 ·unfold tU;simp only;rw[if_pos (by omega),cV (by omega),wr (by omega) (by omega)];rfl
 ·unfold tU tT;simp only;rw[if_neg (by omega)]
section
variable {p:BW} {g:GR} {R:List RL} {c:List (List Int)} {v:Nat}
theorem Zn (b:VG g) (j:jQ g p.2.1) {x:Nat} (k:x<p.2.1.length) (r:v<g.2.length):lS 1000 p g (v:Int) (x:Int)=some (zV g p.2.1 v x):=by
 obtain⟨⟨s,t⟩,⟨l,m⟩,n,o⟩:=j.small x k;have f:=j.kind x k;have q:=b.n24;have i:=b.len;have d:=Jp b g.1.length (by omega);show lS 1000 p g (v:Int) (x:Int)=some (lo g (at' p.2.1 (x:Int)) v,hi g (at' p.2.1 (x:Int)) v);unfold lS;generalize u:at' p.2.1 (x:Int)=y at s t l m n o f;have w:0<=y.2.2.2.2.1*(g.2.length:Int):=Int.mul_nonneg l (by omega);have z:y.2.2.2.2.1*(g.2.length:Int)<=100000*24:=Int.mul_le_mul m (by omega) (by omega) (by omega);have A:0<=y.2.2.2.2.2*gO g g.1.length:=Int.mul_nonneg n d.1;have B:y.2.2.2.2.2*gO g g.1.length<=100000*255:=Int.mul_le_mul o d.2 d.1 (by omega);have a:0<=(x:Int)∧(x:Int)<(p.2.1.length:Int):=by omega
 rw[cV a];unfold lo hi;rcases f with h|h|h
 ·simp only[h];rw[if_neg (by decide),if_neg (by decide),cV a,cV a,cV a,cV a,bA (Xl b),if_neg (by decide),if_neg (by decide),if_neg (by decide),if_neg (by decide),wr (x:=y.2.2.2.2.1*_) (by omega) (by omega),wr (x:=y.2.2.2.2.2*_) (by omega) (by omega),wr (x:=y.2.2.2.1+_) (by omega) (by omega),wr (by omega) (by omega)]
 ·simp only[h];rw[if_pos trivial,if_pos trivial,if_pos trivial]
 ·have e:=(b.node v r).deg;simp only[h];rw[if_neg (by decide),if_pos trivial,cV (by omega),if_neg (by decide),if_pos trivial,if_neg (by decide),if_pos trivial];show some ((-1:Int),wI .i64 (((row g v).length:Int) - 1))=_;rw[wr (by omega) (by omega)]
theorem ahj (b:VG g) (d:jQ g p.2.1):Al 1000 p g=some 0:=by
 have l:=b.n1;have j:=d.len;unfold Al;rw[bA (show Ed 1000 _=some true from rfl),if_neg (by decide),bA (show iZ 1000 g=some true from(Fv g).1 b),if_neg (by decide)];refine cQ (step:=tC 1000 p g) (K:=some 0) p.2.1.length (λk=>(k:Int)) (λk f e=> ?_) (λf=> ?_) 1000 (by omega)
 ·unfold tC BA;rw[if_pos (by omega),bA (show lS 1000 _ _ (0:Int) (k:Int)=_ from Zn b d e (v:=0) (by omega)),cV (by omega),dL (by omega)];by_cases a:(at' p.2.1 (k:Int)).2.1=1
  ·obtain⟨m,n,o⟩:=d.range k e a;rw[if_pos a];have h:(zV g p.2.1 0 k).1=lo g (at' p.2.1 (k:Int)) 0:=rfl;have i:(zV g p.2.1 0 k).2=hi g (at' p.2.1 (k:Int)) 0:=rfl;rw[h,i,wr (by omega) (by omega),bA (rT 1000 _ _ _),zA5 (by omega),if_neg (by decide)]
  ·rw[if_neg a,if_neg (by decide)]
 ·unfold tC Bz;rw[if_neg (by omega)]
theorem Qc (b:VG g) (h:jQ g p.2.1) (d:HC g c p.2.1):kL 1000 p g c=some 0:=by
 have l:=b.n24;have e:=d.len;have n:=h.len;unfold kL;rw[bA (show Al 1000 _ _=some 0 from ahj b h),if_neg (by decide),if_neg (by simp[e])];refine cQ (step:=oI 1000 p g c) (K:=some 0) g.2.length (λk=>(k:Int)) (λk i f=> ?_) (λi=> ?_) 1000 (by omega)
 ·have r:=d.row k f;unfold oI;rw[if_pos (by omega),cV (by omega),if_neg (by omega)];refine cQ (step:=u_ 1000 p g c (k:Int) i) p.2.1.length (λx=>(x:Int)) (λx a j=> ?_) (λa=> ?_) 1000 (by omega)
  ·obtain⟨o,q⟩:=d.ok k f x j;unfold u_;have m:decide ((zV g p.2.1 k x).1<=at' (at' c (k:Int)) (x:Int)∧at' (at' c (k:Int)) (x:Int)<=(zV g p.2.1 k x).2)=true:=zA5 ⟨o,q⟩;rw[cV (by omega),if_pos (by omega),bA (show lS 1000 _ _ (k:Int) (x:Int)=_ from Zn b h j f),cV (by omega),cV (by omega),bA (rT 1000 _ _ _),m,if_neg (by decide),dL (by omega)]
  ·unfold u_ AC;rw[cV (by omega),if_neg (by omega),dL (by omega)]
 ·unfold oI AB;rw[if_neg (by omega)]
theorem adL (c:List (List Int)) (h:c.length<=900) (d:∀v,v<c.length->(at' c (v:Int)).length<=1000):vW 1000 c=some c:=by
 unfold vW;refine cQ (step:=xE c) (K:=some c) c.length (λk=>(c.take k,(k:Int))) (λk b a=> ?_) (λb=> ?_) 1000 (by omega)
 ·have:=d k a;unfold xE;dsimp only;rw[if_pos (by omega),cV (by omega),cV (by simp;omega),cV (by simp;omega),List.nil_append,Bq a,dL (by omega)]
 ·unfold xE BB;dsimp only;rw[if_neg (by omega),List.take_length]
def KQ (p:BW) (g:GR) (R:List RL):Prop:=∀c,HC g c p.2.1->∀v:Nat,v<g.2.length->∀r∈R,eZ 1000 g c (v:Int) (-1) r.1.ts 0=some (BX (bI p g) c v r.1)∧∀s∈r.2,eZ 1000 g c (v:Int) (-1) s.2.ts 0=some (BX (bI p g) c v s.2)
theorem Zx (x:KQ p g R) (z:HC g c p.2.1) (B:v<g.2.length) (t:p.2.2.map tH=Dx R) (y:pC p.2.1.length R=true):nD 1000 p g c (v:Int)=some (tW (bI p g) R c v):=by
 have D:=EF t;have w:=We y;let l:=R.map λr=>BX (bI p g) c v r.1;have A:l.length=R.length:=by simp[l]
 have n:∀i,i<R.length->at' l (i:Int)=BX (bI p g) c v (at' R (i:Int)).1:=λi q=>by
  rw[jI (by omega),jI q];simp[l]
 have d:∀(k:Nat) a,k<R.length->vA 1000 p g c (v:Int) (k:Int) a=if at' l (k:Int)≠0 then some (k:Int)else a (((k+1:Nat):Int)):=by
  intro k a b;have e:(at' p.2.2 (k:Int)).2.1.2=(at' R (k:Int)).1.ts:=congrArg Prod.fst (LZ t b);unfold vA;rw[if_pos (by omega),cV (by omega),e,bA (show eZ 1000 _ c (v:Int) (-1) _ 0=_ from(x c z v B _ (by rw[jI b];exact List.getElem_mem b)).1),n k b,dL (by omega)]
 unfold nD tW;by_cases f:∃i,i<R.length∧at' l (i:Int)≠0
 ·obtain⟨i,q,u⟩:=f;obtain⟨m,C,o,h⟩:=OT (p:=λi=>at' l (i:Int)≠0) i u;have h:∀j,j<m->at' l (j:Int)=0:=λj s=>zAy.1 (h j s);rw[show C_ _=(m:Int)from DI (l:=l) (by omega) o h];exact cQ (K:=some (m:Int)) m (λk=>(k:Int)) (λk a b=>by rw[d k a (by omega),if_neg (by simp[h k b])]) (λa=>by rw[d m a (by omega),if_pos o]) 1000 (by omega)
 ·have f:∀j,j<l.length->at' l (j:Int)=0:=λj s=>zAy.1 λe=>f ⟨j,by omega,e⟩;rw[show C_ _=(-1:Int)from DG (l:=l) f];exact cQ (K:=some (-1)) R.length (λk=>(k:Int)) (λk a b=>by rw[d k a b,if_neg (by simp[f k (by omega)])]) (λa=>by
   unfold vA AH;rw[if_neg (by omega)]) 1000 (by omega)
theorem Sp (hV:VG g) (hA:KQ p g R) (hc:HC g c p.2.1) (hz:p.2.2.map tH=Dx R) (hR:pC p.2.1.length R=true):kY 1000 p g c=some ((Rj (bI p g) R c:Nat):Int):=by
 have h24:=hV.n24;have hcl:=hc.len;let q:Nat->Bool:=λv=>decide (0<=tW (bI p g) R c v);unfold kY;exact cQ (step:=nN 1000 p g c) (K:=some ((pY q g.2.length:Nat):Int)) g.2.length (λk=>(((pY q k:Nat):Int),(k:Int))) (λk ag hk=>by
  have hm:=Hr q (k:=k) (by omega);unfold nN rO;dsimp only;rw[if_pos (by omega),bA (show nD 1000 _ _ c (k:Int)=_ from Zx hA hc hk hz hR),dL (by omega)];cases hq:q k with
  |true=>
   rw[if_pos (zBg hq),XN (by omega),cV (by omega),Gn hm (by omega)];simp only[pY,hq,if_true]
  |false=>
   rw[if_neg (of_decide_eq_false hq)];simp only[pY,hq];rfl) (λag=>by
  unfold nN wA;dsimp only;rw[if_neg (by omega)]) 1000 (by omega)
theorem Rp (hV:VG g) (hp:jQ g p.2.1) (hA:KQ p g R) (hc:HC g c p.2.1) (hz:p.2.2.map tH=Dx R) (hR:pC p.2.1.length R=true):pF 1000 p g c=some ((Rj (bI p g) R c:Nat):Int):=by
 unfold pF;have:wZ 1000 p g c=some true:=by
  unfold wZ;rw[bA (show kL 1000 _ _ c=_ from Qc hV hp hc)];rfl
 rw[bA (show wZ 1000 _ _ c=_ from this),if_neg (by decide),bA (show kY 1000 _ _ c=_ from Sp hV hA hc hz hR)]
theorem aeU (k:VG g) (i:jQ g p.2.1) {x:Nat} (j:x<p.2.1.length) (l:v<g.2.length) (y:Int):wY 1000 p g (v:Int) (x:Int) y=some (Gq (at' p.2.1 (x:Int)).2.1 (zV g p.2.1 v x) y):=by
 have e:=adU i j v;have f:(zV g p.2.1 v x).1<=(zV g p.2.1 v x).2:=e;unfold wY;rw[bA (show lS 1000 _ _ (v:Int) (x:Int)=_ from Zn k i j l),cV (by omega)];generalize zV g p.2.1 v x=b at f;unfold AA Gq;by_cases d:(at' p.2.1 (x:Int)).2.1=3
 ·rw[if_pos d,bA (rT 1000 _ _ _)];by_cases a:b.1<=y∧y<=b.2
  ·rw[zA5 a,if_neg (by decide),if_pos a,Int.max_eq_left a.1,Int.min_eq_left a.2]
  ·rw[zA7 a,if_pos (by decide),if_neg a,if_pos d]
 ·rw[if_neg d,if_neg (by decide)];by_cases a:b.1<=y∧y<=b.2
  ·rw[if_pos a,Int.max_eq_left a.1,Int.min_eq_left a.2]
  ·rw[if_neg a,if_neg d];by_cases h:y<b.1
   ·rw[if_pos h,Int.max_eq_right (by omega),Int.min_eq_left f]
   ·rw[if_neg h,Int.max_eq_left (by omega),Int.min_eq_right (by omega)]
theorem ahE (E:VG g) (F:jQ g p.2.1) (C:KQ p g R) (t:HC g c p.2.1) (u:v<g.2.length) (z:p.2.2.map tH=Dx R) (D:pC p.2.1.length R=true) (P:0<=tW (bI p g) R c v):An 1000 p g c (v:Int)=some (As (bI p g) p.2.1 R c v (tW (bI p g) R c v)):=by
 have I:=E.n24;have J:=t.len;have n:=t.row v u;have O:=F.len;have Q:=EF z;unfold An;rw[cV (by omega),cV (by simp;omega),bA (show nD 1000 _ _ c (v:Int)=_ from Zx C t u z D),List.nil_append];obtain⟨i,L,b,_⟩:=(Nq (bI p g) R c v).resolve_left (λe=>by omega);rw[L,cV (by omega)];have x:=LZ z b;obtain⟨-,o,f⟩:=QG D b;have A:(at' p.2.2 (i:Int)).2.2.2.map (λs=>(s.1,s.2.2))=(at' R (i:Int)).2.map λs=>((s.1:Int),s.2.ts):=congrArg Prod.snd x;have r:(at' p.2.2 (i:Int)).2.2.2.length=(at' R (i:Int)).2.length:=by simpa using congrArg List.length A
 unfold As;let a:=(at' R (i:Int)).2;exact cQ (step:=xJ 1000 p g c (v:Int) (i:Int)) (K:=some (a.foldl (HL (bI p g) p.2.1 c v) (at' c (v:Int)))) a.length (λk=>((k:Int),(a.take k).foldl (HL (bI p g) p.2.1 c v) (at' c (v:Int)))) (λk H h=>by
  have m:k<(at' p.2.2 (i:Int)).2.2.2.length:=by rw[r];exact h
  have B:((at' (at' p.2.2 (i:Int)).2.2.2 (k:Int)).1,(at' (at' p.2.2 (i:Int)).2.2.2 (k:Int)).2.2)=(((at' a (k:Int)).1:Int),(at' a (k:Int)).2.ts):=by
   have:=congrArg (λq=>q[k]?) A;simp only[List.getElem?_map,zA0 m,zA0 (show k<(at' R (i:Int)).2.length from h),Option.map_some,Option.some.injEq]at this;rw[jI m,jI h];exact this
  have j:=congrArg Prod.fst B;have l:=congrArg Prod.snd B;dsimp only at j l;have d:at' a (k:Int)∈(at' R (i:Int)).2:=by rw[jI h];exact List.getElem_mem h
  obtain⟨y,M⟩:=f _ d;have G:((a.take k).foldl (HL (bI p g) p.2.1 c v) (at' c (v:Int))).length=p.2.1.length:=by rw[Nr,n]
  have N:a.length<=20:=o;have w:=(C c t v u _ (by rw[jI b];exact List.getElem_mem b)).2 _ d;unfold xJ;dsimp only;rw[if_pos (by omega)];simp only[cV (show 0<=(k:Int)∧(k:Int)<((at' p.2.2 (i:Int)).2.2.2.length:Int) by omega)];rw[j,l,bA (show eZ 1000 _ c (v:Int) (-1) _ 0=_ from w),bA (show wY 1000 _ _ (v:Int) _ _=_ from aeU E F y u _),cV (by omega),dL (by omega),zAh,Bq h,List.foldl_append];rfl) (λH=>by
  unfold xJ BJ;dsimp only;rw[if_neg (by show¬(a.length:Int)<_;rw[r];exact Int.lt_irrefl _),List.take_length]) 1000 (by show(at' R (i:Int)).2.length<1000;omega)
theorem ahP (hV:VG g) (hp:jQ g p.2.1) (hA:KQ p g R) (hc:HC g c p.2.1) (hz:p.2.2.map tH=Dx R) (hR:pC p.2.1.length R=true) {t:Nat} (ht32:t<4294967296) (ht0:t≠0) (ht:∀v,t.testBit v=true->(Rj (bI p g) R c).testBit v=true):
  Am 1000 p g c (t:Int)=some (gT (bI p g) p.2.1 R c t,0):=by
 have h24:=hV.n24;have hcl:=hc.len;have hvl:=hp.len;have hVS:VG (bI p g).2.1:=hV;have hbit:∀v,t.testBit v=true->v<g.2.length∧0<=tW (bI p g) R c v:=λv hv=>by
  have h:=ht v hv;rw[LN,zA3,zA8,zA8]at h;exact h
 have hz0:wU t (Rj (bI p g) R c)=0:=Ht λv=>by
  rw[Bf ht32 (MF hVS R c)];cases hx:t.testBit v with
  |false=>simp
  |true=>rw[ht v hx];simp
 unfold Am;rw[bA (show kL 1000 _ _ c=_ from Qc hV hp hc),if_neg (by decide),if_neg (by omega),bA (show kY 1000 _ _ c=_ from Sp hV hA hc hz hR),uH,hz0,zA7 (by simp)];unfold BH;rw[if_neg (by decide),bA (adL c (by omega) (λv hv=>by rw[hc.row v (by omega)];omega))];let f:Nat->List Int:=λv=>if t.testBit v=true then As (bI p g) p.2.1 R c v (tW (bI p g) R c v)else at' c (v:Int);let Q:Nat->List (List Int):=λk=>(List.range k).map f++c.drop k;have hQ:∀k,k<=c.length->(Q k).length=c.length:=λk hk=>by simp[Q];omega
 have hset:∀k,k<c.length->(Q k).set k (f k)=Q (k+1):=λk hk=>by
  show((List.range k).map f++c.drop k).set k (f k)=(List.range (k+1)).map f++c.drop (k+1);rw[List.set_append_right _ _ (by simp),List.length_map,List.length_range,Nat.sub_self,List.drop_eq_getElem_cons hk,List.set_cons_zero,zB2,zB8,zB1,zBa];rfl
 have hkeep:∀k,k<c.length->f k=at' c (k:Int)->Q k=Q (k+1):=λk hk hf=>by
  show(List.range k).map f++c.drop k=(List.range (k+1)).map f++c.drop (k+1);rw[zB2,List.drop_eq_getElem_cons hk,zB8,zB1,hf,jI hk];simp
 have key:=cQ (step:=tD 1000 p g c (t:Int)) (K:=some (gT (bI p g) p.2.1 R c t,0)) c.length (λk=>((k:Int),Q k)) (λk ag hk=>by
  unfold tD xI;dsimp only;rw[if_pos (by omega),bA (Gv ht32 (by omega)),dL (by omega)];by_cases hb:t.testBit k=true
  ·rw[if_pos hb,bA (show An 1000 _ _ c (k:Int)=_ from ahE hV hp hA hc (by omega) hz hR (hbit k hb).2),cV (by rw[hQ k (by omega)];omega),zAh];have:As (bI p g) p.2.1 R c k (tW (bI p g) R c k)=f k:=by simp only[f];rw[if_pos hb]
   rw[this,hset k hk]
  ·rw[if_neg hb,hkeep k hk (by simp only[f];rw[if_neg hb])]) (λag=>by
  unfold tD BI;dsimp only;rw[if_neg (by omega)];simp[Q,gT,f]) 1000 (by omega)
 have e0:Q 0=c:=by simp[Q]
 rw[e0]at key;exact key
end
end Go.Proofs.YtahgemjmgopleaaGreatDoor
namespace Go.Proofs.YtahgemjmgopleaaGreatDoor
open Go.Sx
def Eh  (a:Ws):Option oM:=
 some (((a.2.2.2.2.2.2.1,a.2.2.2.2.2.2.2.1,a.2.2.2.2.2.2.2.2,((a.1,a.2.1,a.2.2.1,a.2.2.2.1,a.2.2.2.2.1)))),a.2.2.2.2.2.1)
def BM  (a:Wt):Option oM:=
 Eh  (a.2.2.2.1,a.2.2.2.2.1,a.2.2.2.2.2.1,a.2.2.2.2.2.2.1,a.2.2.2.2.2.2.2.1,a.2.2.2.2.2.2.2.2,a.1,a.2.1,a.2.2.1)
def xL  (a:aY×Int×Int×Int×Int×Int×bO×aY):Option oM:=
 BM  (a.2.2.2.2.2.2.2,a.1,a.2.2.2.2.2.2.1,a.2.1,a.2.2.1,a.2.2.2.1,a.2.2.2.2.1,a.2.2.2.2.2.1,(0:Int))
def Ei (U:Nat) (f:iH) (j:cC) (l:Int) (c:Lj) (a:Wq) (h:Wp->Option oM) (d:Int):Option oM:=
 if¬(a.1≠(0:Int))then(xL  (a.2.1,a.2.2.2.1,a.2.2.2.2.1,a.2.2.2.2.2.1,a.2.2.2.2.2.2.1,a.2.2.2.2.2.2.2.1,a.2.2.2.2.2.2.2.2.1,a.2.2.2.2.2.2.2.2.2))else(Option.bind (fF U c.2.1 l a.1 d) λi=>(if(!i)=true then(BM  (([]:aY),([]:aY),([]:bO),(0:Int),(0:Int),(0:Int),(0:Int),(0:Int),(11:Int)))else(Option.bind (f_ U ((((f.1,f.2.1,f.2.2)),((((f.1,f.2.1,f.2.2)),((j.1,j.2)),c.2.2.2.1,c.2.2.2.2)),c.2.2.1)) a.2.2.2.2.2.2.2.2.1 d) λg=>(Option.bind (cM U ((((f.1,f.2.1,f.2.2)),((((f.1,f.2.1,f.2.2)),((j.1,j.2)),c.2.2.2.1,c.2.2.2.2)),c.2.2.1)) g) λe=>(Option.bind (gV U ((a.2.2.2.1,a.2.2.2.2.1,a.2.2.2.2.2.1,a.2.2.2.2.2.2.1,a.2.2.2.2.2.2.2.1)) d (dD .u32 e c.1)) λb=>(Option.bind (lU U g (dD .u32 e c.1) ((b.1.1,b.1.2.1,b.1.2.2.1,b.1.2.2.2.1,b.1.2.2.2.2))) λk=>(ck ((a.2.2.2.2.2.2.2.2.2.length:Int)+(List.length ([d]):Int)<=1099511627) (ck ((a.2.1.length:Int)+(List.length ([(dD .u32 e c.1)]):Int)<=1099511627) (h ((dD .u32 e c.1),(a.2.1++([(dD .u32 e c.1)])),(wI .i64 (a.2.2.1+(1:Int))),b.1.1,b.1.2.1,b.1.2.2.1,b.1.2.2.2.1,b.1.2.2.2.2,g,(a.2.2.2.2.2.2.2.2.2++[d])))))))))))
def xN (U:Nat) (g:iH) (h:cC) (f:Int) (e:aY) (c:Lj) (a:Wq) (b:Wp->Option oM):Option oM:=
 if a.2.2.1<(e.length:Int)then(ck (0<=a.2.2.1∧a.2.2.1<(e.length:Int)) (Option.bind (cY U c.2.1 f a.1 (at' e a.2.2.1)) λd=>(Ei U g h f c a b (d))))else(xL  (a.2.1,a.2.2.2.1,a.2.2.2.2.1,a.2.2.2.2.2.1,a.2.2.2.2.2.2.1,a.2.2.2.2.2.2.2.1,a.2.2.2.2.2.2.2.2.1,a.2.2.2.2.2.2.2.2.2))
def Eg (U:Nat) (d:iH) (f:cC) (g:Int) (h:bO) (i:aY) (b:Lj):Option oM:=
 Option.bind (s_ U h) λe=>(Option.bind (cM U ((((d.1,d.2.1,d.2.2)),((((d.1,d.2.1,d.2.2)),((f.1,f.2)),b.2.2.2.1,b.2.2.2.2)),b.2.2.1)) e) λc=>(Option.bind (pE U (dD .u32 c b.1)) λa=>(Option.bind (lU U e (dD .u32 c b.1) ((a.1,a.2.1,a.2.2.1,a.2.2.2.1,a.2.2.2.2))) λj=>(ck ((List.length ([]:aY):Int)+(List.length ([(dD .u32 c b.1)]):Int)<=1099511627) (bL (xN U d f g i b) U ((dD .u32 c b.1),(([]:aY)++([(dD .u32 c b.1)])),(0:Int),a.1,a.2.1,a.2.2.1,a.2.2.2.1,a.2.2.2.2,e,([]:aY)))))))
def BN (U:Nat) (e:iH) (b:cC) (f:Int) (g:bO) (h:aY) (a:iA×Int×bO):Option oM:=
 Option.bind (jV U ((b.1,b.2))) λc=>(Option.bind (uN U ((b.1,b.2))) λd=>(Eg U e b f g h (d,c,a.1,a.2.1,a.2.2)))
def BO (U:Nat) (c:iH) (d:cC) (e:Int) (f:bO) (g:aY) (a:Ce):Option oM:=
 Option.bind (iX U ((c.1,c.2.1,c.2.2)) ((d.1,d.2))) λb=>(BN U c d e f g (b,a.1,a.2))
def xM (U:Nat) (b:iH) (c:cC) (d:Int) (e:bO) (f:aY) (a:Ce):Option oM:=
 BO U b c d e f (a.1,a.2)
def BP (d:cC) (a:JU) (b:JS->Option oM) (c:bO):Option oM:=
 b ((wI .i64 (a.1+(1:Int))),(max a.2.1 (at' d.1 a.1)),c)
def tE (U:Nat) (f:cC) (a:JU) (d:JS->Option oM) (b:Ce) (e:(Int×bO)->Option oM):Option oM:=
 if b.1<((at' f.2 a.1).length:Int)then(ck (0<=b.1∧b.1<((at' f.2 a.1).length:Int)) (ck (0<=a.1∧a.1<(b.2.length:Int)) (Option.bind (kO U ((f.1,f.2)) ((at' (at' f.2 a.1) b.1).1) a.1) λc=>(ck (((at' b.2 a.1).length:Int)+(List.length ([c]):Int)<=1099511627) (ck (0<=a.1∧a.1<((List.set b.2 (Int.toNat a.1) ((at' b.2 a.1)++[c])).length:Int)) (e ((wI .i64 (b.1+(1:Int))),(List.set b.2 (Int.toNat a.1) ((at' b.2 a.1)++[c])))))))))else(BP f a d (b.2))
def nF (U:Nat) (d:iH) (c:cC) (e:Int) (f:bO) (g:aY) (a:JU) (b:JS->Option oM):Option oM:=
 if a.1<(c.2.length:Int)then(ck (0<=a.1∧a.1<(c.2.length:Int)) (ck (0<=a.1∧a.1<(c.1.length:Int)) (bL (tE U c a b) U ((0:Int),a.2.2))))else(xM U d c e f g (a.2.1,a.2.2))
def pX (U:Nat) (b:iH) (a:cC) (c:Int) (d:bO) (e:aY):Option oM:=
 Option.bind (kG U ((b.1,b.2.1,b.2.2)) ((a.1,a.2)) c d (e.length:Int)) λf=>(if f≠(0:Int)then(some (((([]:aY),([]:aY),([]:bO),(((0:Int),(0:Int),(0:Int),(0:Int),(0:Int))))),f))else(ck (0<=(a.2.length:Int)∧(a.2.length:Int)<=1099511627) (bL (nF U b a c d e) U ((0:Int),(0:Int),(List.replicate (Int.toNat (a.2.length:Int)) ([]:aY))))))
theorem aeu:aU Tryz.prog 22:=Tryz.call22
theorem QY (U:Nat) {n:iH} {C:cC} {R:Int} {p3:bO} {p4:aY} (p:Value)  (q:Value)  (v:Value)  (t:Value)  (z4:jA)  (v5:Value)  (z6:lO)  (v7:Value) (r:Wr) (h:pX U n C R p3 p4=some r):
  aW Tryz.prog 22 #[Value.agg #[vS (n.1),p,q],Value.agg #[v,t],vI (R),v5,v7] [Sl aN p n.2.1,Sl aJ q n.2.2,PF (Value.agg #[vS n.1,p,q]),Sl bR v C.1,S2 bD t z4 C.2,S2 bR v5 z6 p3,Sl tY v7 p4,Gb 0 (cellsOf HN vE)] (λx:Ij=>Value.tuple #[Value.agg #[x.1,x.2.1,x.2.2.1,vI (r.1.2.2.2.1),vI (r.1.2.2.2.2.1),vI (r.1.2.2.2.2.2.1),vI (r.1.2.2.2.2.2.2.1),vU (r.1.2.2.2.2.2.2.2)],vI (r.2)]) (λx l=>Ar fX x.1 r.1.1::Ar fX x.2.1 r.1.2.1::Ar eO.raw x.2.2.1 x.2.2.2::jM cK x.2.2.2 r.1.2.2.1::l) (λ_ l=>l):=by
 refine aW.of Tryz.func22 Z Tryz.ntmps22 Z λc=>?_;refine aT<|aG (aM.box (cs:=[vS (n.1),p,q]) Z Z) Z λb1=>aG (aM.box (cs:=[v,t]) Z Z) Z λb2=>aG (aM.alloc (cs:=yO) Z Z) Z λb3=>aB Z<|aL<|aK<|aT<|cG 2 Z<|cG 1 Z<|aA Z<|aA Z<|aA Z<|gW (aD.fact 6 Z) Z<|dN h λr4 w5 h=>aG (zBi YK (Le U p q v t z4 v5 z6 r4 w5) Z (jF [0,1,2,3,4,5] Z)) Z λx6=>aB Z<|aL<|aT<|aA Z<|kH Z<|aL ?_;refine dY h Z (λh=>?_) λh=>?_
 ·refine aT ?_;refine aC (Bd (r:=Value.agg #[iO,iO,iO,vI (0:Int),vI (0:Int),vI (0:Int),vI (0:Int),vU (0:Int)]) (by intro w;simp[Instr.build,Instr.fill,dH,cR,cI,dJ,dK,cS,eI])) Z ?_;refine aA Z<|bH 0 (vs:=yO) Z Z Z Z Z Z<|aB Z<|aL<|aR<|aI<|eX (dG fX)<|eX (dG fX)<|eX (dG eO.raw) (eX (j_ cK) ?_);cases h;exact eW ((iO),(iO),(iO),([]:fP)) Z Z (RV.cell 4 Z Z Z Z) (RV.tmp Z) (a_.ix [2,3,1,0] Z Z) aE.nil
 refine cD<|aT<|cG 2 Z<|cG 1 Z<|aA Z<|zR (A:=Lj) (B:=Nat×Value×Nat×Value×List Value×Value×List Value) (vs:=[Value.agg #[vS (n.1),p,q],Value.agg #[v,t],vI (R),Value.func (.func 53) #[] #[]]) (λd=>Eg U n C R p3 p4 d=some r) (λd a=>Value.agg #[vP a.1,a.2.1,vI (R),vU (d.1),Value.func (.func 53) #[] #[]]) (λd a=>[Ar fX a.2.1 d.2.1,bS a.1 [vS (n.1),p,q,vP a.2.2.1,a.2.2.2.1] 183,Ar eO.raw a.2.2.2.1 a.2.2.2.2.1,jM cW a.2.2.2.2.1 d.2.2.1,bS a.2.2.1 [vS (n.1),p,q,v,t,vI (d.2.2.2.1),a.2.2.2.2.2.1] 224,Ar eO.raw a.2.2.2.2.2.1 a.2.2.2.2.2.2,jM cK a.2.2.2.2.2.2 d.2.2.2.2,bS b3 yO 55]) (λd a=>[Sl aN p n.2.1,Sl aJ q n.2.2,PF (Value.agg #[vS n.1,p,q]),Sl bR v C.1,S2 bD t z4 C.2,S2 bR v5 z6 p3,Sl tY v7 p4,Gb 0 (cellsOf HN vE)]) (rV.fn (show aU Tryz.prog 52 from Tryz.call52) Z) Tryz.func52 Z Tryz.ntmps52 Z Z ?_ ?_
 ·refine aT<|aG (aM.box (cs:=[vS (n.1),p,q]) Z Z) Z λW=>aG (aM.box (cs:=[v,t]) Z Z) Z λX=>aG (aM.alloc (cs:=UV) Z Z) Z λaa=>aL<|aK ?_;refine JR.start [0,0,3,0,15,0,0,95,0,511,1023] 9 mixedOrders (by decide +kernel) ?_;refine zBl (by exact rfl) ?_;refine gN 2 Z<|gN 1 Z<|IS (A:=iA×Int×bO) (B:=aaH) (vs:=[Value.agg #[vS (n.1),p,q],Value.agg #[v,t]]) (λI=>BN U n C R p3 p4 I=some r) (λI m=>vP m.1) (λI m=>[bS m.1 [vS (n.1),p,q,vP m.2.1,m.2.2.1] 183,Ar eO.raw m.2.2.1 m.2.2.2.1,jM cW m.2.2.2.1 I.1,bS m.2.1 [vS (n.1),p,q,v,t,vI (I.2.1),m.2.2.2.2.1] 224,Ar eO.raw m.2.2.2.2.1 m.2.2.2.2.2,jM cK m.2.2.2.2.2 I.2.2,bS aa UV 93,bS X [v,t] 29,bS W [vS (n.1),p,q] 36,bS b3 yO 55]) (λI m=>[Sl aN p n.2.1,Sl aJ q n.2.2,PF (Value.agg #[vS n.1,p,q]),Sl bR v C.1,S2 bD t z4 C.2,S2 bR v5 z6 p3,Sl tY v7 p4,Gb 0 (cellsOf HN vE)]) Z Z Z (rV.fn (show aU Tryz.prog 88 from Tryz.call88) Z) Tryz.func88 Z Tryz.ntmps88 Z Z (λ_ _=>(oU [] Z)) ?_ ?_
  ·refine aT<|aG (aM.box (cs:=[vS (n.1),p,q]) Z Z) Z λae=>aG (aM.box (cs:=[v,t]) Z Z) Z λaf=>aB Z<|aL<|aK ?_;refine JR.start [0,0,0,6,0,0,62,127,255,511] 7 mixedOrders (by decide +kernel) ?_;refine zBl (by exact rfl) ?_;refine gN 1 Z<|gN 1 Z<|gN 0 Z<|IS (A:=Ce) (B:=Nat×Value×List Value) (vs:=[Value.agg #[vS (n.1),p,q],Value.agg #[v,t]]) (λM=>BO U n C R p3 p4 M=some r) (λM y=>vP y.1) (λM y=>[bS y.1 [vS (n.1),p,q,v,t,vI (M.1),y.2.1] 224,Ar eO.raw y.2.1 y.2.2,jM cK y.2.2 M.2,bS af [v,t] 29,bS ae [vS (n.1),p,q] 36,bS aa UV 93,bS X [v,t] 29,bS W [vS (n.1),p,q] 36,bS b3 yO 55]) (λM y=>[Sl aN p n.2.1,Sl aJ q n.2.2,PF (Value.agg #[vS n.1,p,q]),Sl bR v C.1,S2 bD t z4 C.2,S2 bR v5 z6 p3,Sl tY v7 p4,Gb 0 (cellsOf HN vE)]) Z Z Z (rV.fn (show aU Tryz.prog 130 from Tryz.call130) Z) Tryz.func130 Z Tryz.ntmps130 Z Z (λ_ _=>(oU [([4],[])] Z)) ?_ ?_
   ·refine aT<|aG (aM.box (cs:=[vS (n.1),p,q]) Z Z) Z λcl=>aG (aM.box (cs:=[v,t]) Z Z) Z λab=>aB Z<|aL<|aK ?_;refine JR.start [0,0,0,4,12,28,63,127,255] 6 mixedOrders (by decide +kernel) ?_;refine zBl (by exact rfl) ?_;refine gN 1 Z<|gN 0 Z<|cP Z<|fG 0 Z<|bG Z .nil (iI 4 Z) (gE Z (aD.fact 0 Z) Z) aP.z<|dB h λbu h=>JR.stp (uB cK (Int.toNat (C.2.length:Int)))<|zBk Z Z Z (qB (e:=eO.raw) (iO) Z Z Z Z bu Z Z Z) Z (λF=>(oU [([2],[]),([3],[])] Z)) λF=>bK 6 Z Z<|bQ (Know.one (aD.sl (bF (i:=0) (j:=1) Z Z dW))) λbf=>?_;refine aC (Iq (r:=Value.agg #[vS (n.1),p,q,v,t,vI (0:Int),F]) Z Z Z (by intro w;simp[Instr.build,Instr.fill,dH,cR,cI,dJ,dK,cS,eI,gQ bf])) Z ?_;refine aG (aM.box (cs:=[vS (n.1),p,q,v,t,vI (0:Int),F]) Z Z) Z λN=>aB Z<|aL<|aK<|Bn (B:=fP) (λO=>xM U n C R p3 p4 O=some r) (λO ag=>[(5,vP N)]) (λO ag=>[bS N [vS (n.1),p,q,v,t,vI (O.1),F] 224,Ar eO.raw F ag,jM cK ag O.2,bS af [v,t] 29,bS ae [vS (n.1),p,q] 36,bS aa UV 93,bS X [v,t] 29,bS W [vS (n.1),p,q] 36,bS b3 yO 55]) ?_ ?_
    ·refine aT<|bN Z<|cT 3 Z<|aC (gE Z (aD.fact 4 Z) Z) Z<|aA Z<|aL<|aS<|dZ (B:=fP) (nF U n C R p3 p4) (λf ac=>[(3,vP ab),(5,vP N),(19,t),(20,vI (C.2.length:Int)),(21,vI (f.1))]) (λf ac=>[bS N [vS (n.1),p,q,v,t,vI (f.2.1),F] 224,Ar eO.raw F ac,jM cK ac f.2.2,bS ab [v,t] 29,bS af [v,t] 29,bS ae [vS (n.1),p,q] 36,bS aa UV 93,bS X [v,t] 29,bS W [vS (n.1),p,q] 36,bS b3 yO 55]) ((0:Int),(0:Int),(List.replicate (Int.toNat (C.2.length:Int)) ([]:aY))) (List.replicate (Int.toNat (C.2.length:Int)) (iO)) h SF (a_.ix [0,1,2,3,5,6,7,8,9,10] Z Z) ?_;intro aV f ac h;refine aT<|cN Z<|aL<|aK ?_;refine dY h Z (λh=>?_) λh=>?_
     ·refine cD<|aK<|Bn (B:=fP) (λV=>BP C f (bL (nF U n C R p3 p4) aV) V=some r) (λV ah=>[(3,vP ab),(5,vP N),(19,t),(20,vI (C.2.length:Int)),(21,vI (f.1))]) (λV ah=>[bS N [vS (n.1),p,q,v,t,vI (max f.2.1 (at' C.1 f.1)),F] 224,Ar eO.raw F ah,jM cK ah V,bS ab [v,t] 29,bS af [v,t] 29,bS ae [vS (n.1),p,q] 36,bS aa UV 93,bS X [v,t] 29,bS W [vS (n.1),p,q] 36,bS b3 yO 55]) ?_ ?_
      ·refine aS<|aT<|aA Z<|dB h λP h=>aC (b_ Z Z (aD.fact 4 Z) Z Z P) Z<|aC (bX Z (aD.fact 4 Z) Z Z P) Z<|aB Z<|aB Z<|aL<|aK ?_;refine JR.start [0,0,2,6,14,0,32,0,224,480,1022,2047,4095,8191] 11 mixedOrders (by decide +kernel) ?_;refine zBl (by exact rfl) ?_;refine aX Z<|aX Z<|fW Z (cA Z)<|cP Z<|fG 0 Z<|cP Z<|fG 3 Z<|aX Z<|dB h λaH h=>bG Z .nil (iI 3 Z) (aZ Z Z (aD.fact 0 Z) Z Z aH) aP.z<|bG Z .nil (iI 3 Z) (bY Z (aD.fact 0 Z) Z Z Z eD aH) aP.z<|fW Z (FL Z Z)<|bK 11 Z Z<|aC (cA Z) Z<|bN Z<|eB 0 Z Z Z Z Z Z<|aL<|aT<|aA Z<|aC (fV Z (zBj (aD.fact 4 Z) P.1 P.2) Z) Z<|aA Z<|aL<|aS<|dZ (B:=fP) (tE U C f (bL (nF U n C R p3 p4) aV)) (λE ad=>[(3,vP ab),(5,vP N),(6,vI (f.1)),(19,t),(20,vI (C.2.length:Int)),(21,vI (f.1)),(39,(at' z4 f.1).1),(40,vI ((at' C.2 f.1).length:Int)),(41,vI (E.1))]) (λE ad=>[bS N [vS (n.1),p,q,v,t,vI (max f.2.1 (at' C.1 f.1)),F] 224,Ar eO.raw F ad,jM cK ad E.2,bS ab [v,t] 29,bS af [v,t] 29,bS ae [vS (n.1),p,q] 36,bS aa UV 93,bS X [v,t] 29,bS W [vS (n.1),p,q] 36,bS b3 yO 55]) ((0:Int),f.2.2) (ac) h SF (a_.refl _) ?_;intro cn E ad h;refine aT<|cN Z<|aL<|aK ?_;refine dY h Z (λh=>?_) λh=>?_
       ·refine cD<|aK<|aS<|aT<|dB h λaQ h=>aC (aZ Z Z (zBj (aD.fact 4 Z) P.1 P.2) Z Z aQ) Z<|aC (gX (cs:=[vI ((at' (at' C.2 f.1) E.1).1),vI ((at' (at' C.2 f.1) E.1).2)]) Z (zBj (aD.fact 4 Z) P.1 P.2) bV Z Z Z Z aQ) Z<|aG (aM.alloc (cs:=Rm) Z Z) Z λcm=>bH 0 (vs:=[vI ((at' (at' C.2 f.1) E.1).1),vI ((at' (at' C.2 f.1) E.1).2)]) Z Z Z Z Z Z<|aL ?_;refine JR.start [0,1,3,7,0,0,32,96,224,0,992,2016,0,0,8192,0,61440,126976,262112,524287,1048575] 19 mixedOrders (by decide +kernel) ?_;refine zBl (by exact rfl) ?_;refine aX Z<|fW Z (cA Z)<|cP Z<|fG 1 Z<|aX Z<|aX Z<|fW Z (cA Z)<|cP Z<|fG 1 Z<|aX Z<|dB h λao h=>fU (eC 3 Z) λa5=>?_;refine bG Z (a_.cons 2 Z .nil) .nil (jB 0 Z Z Z Z Z ao.1 (by have q1:=ao.2;have q2:=a5;(try simp only[zA1]at q1);(try simp only[zA1]at q2);(try simp only[zA1]);omega)) aP.z ?_;refine fU (eC 3 Z) λa6=>bG Z (a_.cons 2 Z .nil) .nil (nH 0 Z Z a6 Z Z ao) aP.z<|gN 4 Z<|cP Z<|fG 0 Z<|aX Z<|dN h λai b7 h=>zBk Z Z Z (zBi PW (Dt U v t z4 ai b7) Z (jF [3,4] Z)) Z (λcb=>(oU [([2],[]),([2],[]),([1],[]),([1],[])] Z)) λcb=>zBk Z Z Z (cE (e:=cK) ([ai]) [(0,vI (ai))] Z Z Z Z (gM (vI (ai)) Z) Z Z Z) Z (λbJ=>(oU [([3],[]),([3],[]),([2],[]),([2],[])] Z)) λbJ=>dB h λbw h=>zBk Z Z Z (mL 4 dW Z Z Z (bB (aD.res 0 Z) dW) Z Z Z Z ao bw Z) Z (λa3=>(oU [([2],[])] Z)) λa3=>bK 19 Z Z<|dB h λQ h=>bQ (eC 4 Z) λa7=>?_;refine aC (jB 3 Z Z Z Z Z Q.1 (by have q1:=Q.2;have q2:=a7;(try simp only[zA1]at q1);(try simp only[zA1]at q2);(try simp only[zA1]);omega)) Z ?_;refine bQ (zH 4 (k:=f.1) Z ⟨Q.1,by first|exact Q.2|simpa using Q.2⟩) λbg=>?_;refine mK 3 4 ⟨Q.1,by first|exact Q.2|simpa using Q.2⟩ Z Z Z Z Z (by simp) bg Z ?_;refine eM<|jE<|aO<|cB Z<|aA Z<|aL ?_;exact kM ((wI .i64 (E.1+(1:Int))),(List.set E.2 (Int.toNat f.1) ((at' E.2 f.1)++[ai]))) (List.set ad (Int.toNat f.1) a3) h SF (a_.ix [2,3,4,5,6,7,8,9,10,11] Z Z) (aE.refl _ _)
       refine mJ<|d_<|d_<|sJ<|jE ?_;exact fE (E.2) (ad) h SF Z
      intro V ah h;unfold BP at h;refine aO<|cB Z<|aA Z<|aL ?_;exact uG ((wI .i64 (f.1+(1:Int))),(max f.2.1 (at' C.1 f.1)),V) (ah) h SF Z
     refine eR ?_;exact bZ (f.2.1,f.2.2) (ac) h SF (a_.ix [0,1,2,4,5,6,7,8,9] Z Z) (aE.refl _ _)
    intro O ag h;unfold xM at h;refine aT<|aA Z<|aB Z<|aL<|aR ?_;exact qA (O.1,O.2) (N,F,ag) h (.inl Z) (Gc.r1 Z (RV.tmp Z)) Z (a_.refl _) (aE.refl _ _)
   intro M y h;unfold BO at h;refine bG Z (a_.cons 4 Z .nil) .nil (eP 0 Z Z Z Z) (aP.h (a_.ix [1] Z Z) .nil aP.z)<|bG Z (a_.cons 3 Z .nil) .nil (eP 0 Z Z Z Z) (aP.h (a_.ix [0] Z Z) .nil aP.z)<|dN h λa2 b6 h=>zBk Z Z Z (zBi LJ (AL U p q v t z4 a2 b6) Z (jF [0,1,2,3,4] Z)) Z (λaj=>(oU [([6],[])] Z)) λaj=>bK 7 Z Z<|bQ (Know.one (aD.sl (bF (i:=0) (j:=1) Z Z bV))) λbe=>?_;refine aC (Iq (r:=Value.agg #[vS (n.1),p,q,Value.pointer (some ⟨y.1,0,none⟩),aj.1]) Z Z Z (by intro w;simp[Instr.build,Instr.fill,dH,cR,cI,dJ,dK,cS,eI,gQ be])) Z ?_;refine aG (aM.box (cs:=[vS (n.1),p,q,vP y.1,aj.1]) Z Z) Z λbh=>aB Z<|aL<|aR ?_;exact qA (a2,M.1,M.2) (bh,y.1,aj.1,aj.2,y.2.1,y.2.2) h (.inl Z) (Gc.r1 Z (RV.tmp Z)) Z (a_.ix [0,1,2,3,4,5,8,9,10,11] Z Z) (aE.refl _ _)
  intro I m h;unfold BN at h;refine bG Z (a_.cons 7 Z .nil) .nil (eP 0 Z Z Z Z) (aP.h (a_.ix [1] Z Z) .nil aP.z)<|dN h λa1 b4 h=>zBk Z Z Z (zBi YQ (FS U v t z4 a1 b4) Z (jF [3,4] Z)) Z (λar=>(oU [] Z)) λar=>fW Z (eY Z)<|bG Z (a_.cons 8 Z .nil) .nil (eP 0 Z Z Z Z) (aP.h (a_.ix [7] Z Z) .nil (aP.h (a_.ix [1] Z Z) .nil aP.z))<|dN h λaq b5 h=>zBk Z Z Z (zBi YR (Lc U v t z4 aq b5) Z (jF [3,4] Z)) Z (λca=>(oU [] Z)) λca=>fW Z (eY Z)<|bK 9 Z Z<|bQ (Know.one ((bB (aD.res 0 Z) fS))) λbc=>?_;refine aC (Y.bld5 (r:=Value.agg #[Value.pointer (some ⟨m.1,0,none⟩),ar,vI (R),vU (aq),Value.func (.func 53) #[] #[]]) Z Z Z Z Z (by intro w;simp[Instr.build,Instr.fill,dH,cR,cI,dJ,dK,cS,eI,gQ bc])) Z ?_;refine bQ (Know.one ((bB (aD.res 0 Z) fS))) λbd=>bH 7 (vs:=[vP m.1,ar,vI (R),vU (aq),Value.func (.func 53) #[] #[]]) Z Z (c_ Z (c_ bd (c_ Z (c_ Z (c_ Z Z))))) Z Z Z<|aL<|aR ?_;exact qA (aq,a1,I.1,I.2.1,I.2.2) (m.1,ar,m.2.1,m.2.2.1,m.2.2.2.1,m.2.2.2.2.1,m.2.2.2.2.2) h (.inl Z) (Gc.r1 Z (RV.cell 7 Z Z Z Z)) Z (a_.ix [0,1,2,3,4,5,6,10] Z Z) (aE.refl _ _)
 intro d a h;refine aA Z<|aA Z<|zR (A:=Ws) (B:=Ij) (vs:=[Value.agg #[vP a.1,a.2.1,vI (R),vU (d.1),Value.func (.func 53) #[] #[]],v5,v7]) (λD=>Eh  D=some r) (λD G=>Value.tuple #[Value.agg #[G.1,G.2.1,G.2.2.1,vI (D.1),vI (D.2.1),vI (D.2.2.1),vI (D.2.2.2.1),vU (D.2.2.2.2.1)],vI (D.2.2.2.2.2.1)]) (λD G=>[bS b3 yO 55,Ar fX G.1 D.2.2.2.2.2.2.1,Ar fX G.2.1 D.2.2.2.2.2.2.2.1,Ar eO.raw G.2.2.1 G.2.2.2,jM cK G.2.2.2 D.2.2.2.2.2.2.2.2]) (λD G=>[Sl aN p n.2.1,Sl aJ q n.2.2,PF (Value.agg #[vS n.1,p,q]),Sl bR v C.1,S2 bD t z4 C.2,S2 bR v5 z6 p3,Sl tY v7 p4,Gb 0 (cellsOf HN vE)]) (rV.fn (show aU Tryz.prog 54 from Tryz.call54) Z) Tryz.func54 Z Tryz.ntmps54 Z Z ?_ ?_
 ·refine aT<|aG (aM.box (cs:=[vP a.1,a.2.1,vI (R),vU (d.1),Value.func (.func 53) #[] #[]]) Z Z) Z λak=>bQ (Know.one ((aD.fact 6 Z))) λbl=>?_;refine aG (aM.box (cs:=[v7]) Z (by rw[gQ bl])) Z λal=>?_;refine aG (aM.alloc (cs:=yO) Z Z) Z λay=>aB Z<|aL<|aT<|cG 2 Z<|aA Z<|cT 1 Z<|gW (aD.fact 6 Z) Z<|aC (yW (cs:=[.tmp 3,.tmp 5]) (vs:=[vP ak,vP al]) Z) Z<|zR (A:=Wt) (B:=Ij) (vs:=[Value.agg #[vP a.1,a.2.1,vI (R),vU (d.1),Value.func (.func 53) #[] #[]],v5,vI (p4.length:Int),Value.func (.func 92) #[] #[vP ak,vP al]]) (λs=>BM  s=some r) (λs H=>Value.tuple #[Value.agg #[H.1,H.2.1,H.2.2.1,vI (s.2.2.2.1),vI (s.2.2.2.2.1),vI (s.2.2.2.2.2.1),vI (s.2.2.2.2.2.2.1),vU (s.2.2.2.2.2.2.2.1)],vI (s.2.2.2.2.2.2.2.2)]) (λs H=>[bS ay yO 55,bS b3 yO 55,Ar fX H.1 s.1,Ar fX H.2.1 s.2.1,Ar eO.raw H.2.2.1 H.2.2.2,jM cK H.2.2.2 s.2.2.1]) (λs H=>[Sl aN p n.2.1,Sl aJ q n.2.2,PF (Value.agg #[vS n.1,p,q]),Sl bR v C.1,S2 bD t z4 C.2,S2 bR v5 z6 p3,Sl tY v7 p4,Gb 0 (cellsOf HN vE)]) (rV.fn (show aU Tryz.prog 91 from Tryz.call91) Z) Tryz.func91 Z Tryz.ntmps91 Z Z ?_ ?_
  ·refine aT<|aG (aM.box (cs:=[vP a.1,a.2.1,vI (R),vU (d.1),Value.func (.func 53) #[] #[]]) Z Z) Z λa4=>aG (aM.alloc (cs:=yO) Z Z) Z λav=>aB Z<|aL<|aT<|aG (aM.alloc (cs:=yO) Z Z) Z λaw=>aL<|aT<|aA Z<|dN h λaz cf h=>aG (zBi PR (Ej U v5 z6 az cf) Z (jF [5] Z)) Z λan=>aB Z<|aL<|aK ?_;refine JR.start [0,1,0,7,0,16,63,127] 6 mixedOrders (by decide +kernel) ?_;refine zBl (by exact rfl) ?_;refine cP Z<|fG 4 Z<|aX Z<|dN h λam cg h=>zBk Z Z Z (zBi Mw (kI U a.1 p q a.2.2.1 p q v t z4 a.2.2.2.2.2.1 (List.zip a.2.2.2.2.2.2 d.2.2.2.2) a.2.2.2.1 (List.zip a.2.2.2.2.1 d.2.2.1) an.1 (List.zip an.2 az) am cg) Z (aE.cons (aD.res 9 Z) (aE.cons (aD.fact 0 Z) (aE.cons (aD.fact 1 Z) (aE.cons (aD.res 12 Z) (aE.cons (aD.fact 0 Z) (aE.cons (aD.fact 1 Z) (aE.cons (aD.fact 3 Z) (aE.cons (aD.fact 4 Z) (aE.cons (bF (i:=13) (j:=14) Z Z dW) (aE.cons (bF (i:=10) (j:=11) Z Z bV) (aE.cons (bF (i:=0) (j:=1) Z Z dW) .nil)))))))))))) Z (λcj=>(oU [] Z)) λcj=>fW Z (cO Z Z Z Z Z)<|bG Z (a_.cons 4 Z .nil) .nil (dO 0 Z Z Z Z Z) (aP.h (a_.ix [4] Z Z) .nil aP.z)<|bK 6 Z Z<|uU Z<|aB Z<|aL<|aT<|aA Z<|dN h λK ch h=>aG (zBi Vl (FQ U  K ch) Z .nil) Z λcv=>aG (aM.alloc (cs:=TI) Z Z) Z λax=>bH 0 (vs:=[vI (K.1),vI (K.2.1),vI (K.2.2.1),vI (K.2.2.2.1),vU (K.2.2.2.2)]) Z Z Z Z Z Z<|aL<|aT<|bN Z<|cT 5 Z<|aA Z<|aA Z<|cG 0 Z<|dN h λcd ci h=>aG (pN (vs:=[an.1,vU (dD .u32 am d.1),Value.agg #[vI (K.1),vI (K.2.1),vI (K.2.2.1),vI (K.2.2.2.1),vU (K.2.2.2.2)]]) (cs:=[]) PY Z (CR U an.1 (List.zip an.2 az) cd ci) Z (aE.cons (bF (i:=1) (j:=2) Z Z dW) .nil) (λ_ _=>rfl)) Z λcw=>aL<|aT<|bN Z<|cT 3 Z<|aA Z<|aG (cE (e:=fX) ([(dD .u32 am d.1)]) [(0,vU (dD .u32 am d.1))] Z Z Z Z (gM (vU (dD .u32 am d.1)) Z) Z Z Z) Z λcu=>eX (dG fX)<|dB h λcc h=>aG (eG 0 fS Z Z Z (bB (aD.res 1 Z) fS) Z Z Z Z cc Z) Z λce=>bN Z<|bQ (Know.one ((bB (aD.res 0 Z) fS))) λbp=>eB 5 Z Z bp Z Z Z<|aL<|aK<|Bn (B:=Ww) (λo=>xL  o=some r) (λo J=>[(1,J.1),(8,vP av),(10,vP aw),(12,vP ax)]) (λo J=>[Ar fX J.2.2.2 o.1,bS ax [vI (o.2.1),vI (o.2.2.1),vI (o.2.2.2.1),vI (o.2.2.2.2.1),vU (o.2.2.2.2.2.1)] 53,Ar eO.raw J.1 J.2.1,jM cK J.2.1 o.2.2.2.2.2.2.1,bS aw [J.2.2.1,J.2.2.2,iO,vI (0:Int),vI (0:Int),vI (0:Int),vI (0:Int),vU (0:Int)] 55,bS av yO 55,bS ay yO 55,bS b3 yO 55,Ar fX J.2.2.1 o.2.2.2.2.2.2.2]) ?_ ?_
   ·refine aT<|aA Z<|aA Z<|aL<|aS<|eX (dG fX)<|dZ (B:=Ww) (xN U n C R p4 d) (λb g=>[(1,g.1),(3,Value.func (.func 92) #[] #[vP ak,vP al]),(4,vP a4),(8,vP av),(10,vP aw),(11,vU (b.1)),(12,vP ax),(39,vI (p4.length:Int)),(40,vI (b.2.2.1))]) (λb g=>[Ar fX g.2.2.2 b.2.1,bS ax [vI (b.2.2.2.1),vI (b.2.2.2.2.1),vI (b.2.2.2.2.2.1),vI (b.2.2.2.2.2.2.1),vU (b.2.2.2.2.2.2.2.1)] 53,Ar eO.raw g.1 g.2.1,jM cK g.2.1 b.2.2.2.2.2.2.2.2.1,bS aw [g.2.2.1,g.2.2.2,iO,vI (0:Int),vI (0:Int),vI (0:Int),vI (0:Int),vU (0:Int)] 55,bS av yO 55,bS a4 [vP a.1,a.2.1,vI (R),vU (d.1),Value.func (.func 53) #[] #[]] 93,bS ay yO 55,bS al [v7] 25,bS ak [vP a.1,a.2.1,vI (R),vU (d.1),Value.func (.func 53) #[] #[]] 93,Ar fX a.2.1 d.2.1,bS a.1 [vS (n.1),p,q,vP a.2.2.1,a.2.2.2.1] 183,Ar eO.raw a.2.2.2.1 a.2.2.2.2.1,jM cW a.2.2.2.2.1 d.2.2.1,bS a.2.2.1 [vS (n.1),p,q,v,t,vI (d.2.2.2.1),a.2.2.2.2.2.1] 224,Ar eO.raw a.2.2.2.2.2.1 a.2.2.2.2.2.2,jM cK a.2.2.2.2.2.2 d.2.2.2.2,bS b3 yO 55,Ar fX g.2.2.1 b.2.2.2.2.2.2.2.2.2]) ((dD .u32 am d.1),(([]:aY)++([(dD .u32 am d.1)])),(0:Int),K.1,K.2.1,K.2.2.1,K.2.2.2.1,K.2.2.2.2,az,([]:aY)) (an.1,an.2,(iO),ce) h SF (a_.ix [1,3,4,5,6,7,8,9,10,11,12,13,14,15,16,17,18,19,0] Z Z) ?_;intro bx b g h;refine aT<|cN Z<|aL<|aK ?_;refine dY h Z (λh=>?_) λh=>?_
    ·refine cD<|aK<|aS<|aT<|aA Z<|aB Z<|aL<|aT<|aA Z<|aA Z<|aA Z<|zR (A:=Int) (B:=Unit) (vs:=[vI (b.2.2.1),vU (b.1),vP ak,vP al]) (λL=>Ei U n C R d b (bL (xN U n C R p4 d) bx) L=some r) (λL au=>Value.tuple #[vU (L),vB (decide (b.1≠(0:Int)))]) (λL au=>[Ar fX g.2.2.2 b.2.1,bS ax [vI (b.2.2.2.1),vI (b.2.2.2.2.1),vI (b.2.2.2.2.2.1),vI (b.2.2.2.2.2.2.1),vU (b.2.2.2.2.2.2.2.1)] 53,Ar eO.raw g.1 g.2.1,jM cK g.2.1 b.2.2.2.2.2.2.2.2.1,bS aw [g.2.2.1,g.2.2.2,iO,vI (0:Int),vI (0:Int),vI (0:Int),vI (0:Int),vU (0:Int)] 55,bS av yO 55,bS a4 [vP a.1,a.2.1,vI (R),vU (d.1),Value.func (.func 53) #[] #[]] 93,bS ay yO 55,bS al [v7] 25,bS ak [vP a.1,a.2.1,vI (R),vU (d.1),Value.func (.func 53) #[] #[]] 93,Ar fX a.2.1 d.2.1,bS a.1 [vS (n.1),p,q,vP a.2.2.1,a.2.2.2.1] 183,Ar eO.raw a.2.2.2.1 a.2.2.2.2.1,jM cW a.2.2.2.2.1 d.2.2.1,bS a.2.2.1 [vS (n.1),p,q,v,t,vI (d.2.2.2.1),a.2.2.2.2.2.1] 224,Ar eO.raw a.2.2.2.2.2.1 a.2.2.2.2.2.2,jM cK a.2.2.2.2.2.2 d.2.2.2.2,bS b3 yO 55,Ar fX g.2.2.1 b.2.2.2.2.2.2.2.2.2]) (λL au=>[Sl aN p n.2.1,Sl aJ q n.2.2,PF (Value.agg #[vS n.1,p,q]),Sl bR v C.1,S2 bD t z4 C.2,S2 bR v5 z6 p3,Sl tY v7 p4,Gb 0 (cellsOf HN vE)]) (On (us:=[vI (b.2.2.1),vU (b.1)]) (cs:=[vP ak,vP al]) (show aU Tryz.prog 92 from Tryz.call92) Z Z Z) Tryz.func92 Z Tryz.ntmps92 Z Z ?_ ?_
     ·refine aT<|aB Z<|aB Z<|aL<|aK ?_;refine JR.start [0,1,0,4,0,0,0,96,224,511,0,1024,1023,8191] 13 mixedOrders (by decide +kernel) ?_;refine zBl (by exact rfl) ?_;refine cP Z<|fG 9 Z<|cP Z<|fG 9 Z<|aX Z<|fG 8 Z<|aX Z<|dB h λaF h=>bG Z .nil (iI 6 Z) (aZ Z Z (aD.fact 0 Z) Z Z aF) aP.z<|bG Z .nil (iI 6 Z) (bY Z (aD.fact 0 Z) Z Z Z DV aF) aP.z<|dN h λa0 b0 h=>zBk Z Z Z (zBi Uh (sH U a.2.1 a0 b0) Z (aE.cons (bB (aD.res 10 Z) fS) (jF [7] Z))) Z (λb9=>(oU [] Z)) λb9=>fW Z (eY Z)<|fW Z (CW Z Z)<|fW Z (qY Z)<|bK 13 Z Z<|aB Z<|aL<|aR ?_;exact qA (a0) () h (.inl Z) (Gc.r2 Z (RV.tmp Z) (RV.tmp Z)) Z (a_.refl _) (aE.refl _ _)
     intro L au h;refine aA Z<|eS Z<|eS Z<|aB Z<|aB Z<|aL<|aK<|aT<|aA Z<|aC (Yr Z) Z<|aL ?_;refine dY h Z (λh=>?_) λh=>?_
     ·refine mJ<|d_<|Va Z<|d_<|d_<|sJ<|CB ?_;exact bZ (b.2.1,b.2.2.2.1,b.2.2.2.2.1,b.2.2.2.2.2.1,b.2.2.2.2.2.2.1,b.2.2.2.2.2.2.2.1,b.2.2.2.2.2.2.2.2.1,b.2.2.2.2.2.2.2.2.2) (g.1,g.2.1,g.2.2.1,g.2.2.2) h SF (a_.ix [0,1,2,3,4,5,7,17,18] Z Z) (aE.refl _ _)
     refine cD<|aK<|aT<|bN Z<|cT 6 Z<|bN Z<|cT 6 Z<|aA Z<|aA Z<|dN h λbz bM h=>aG (zBi PS (sG U a.2.1 bz bM) Z (aE.cons (bB (aD.res 10 Z) fS) (jF [7] Z))) Z λcq=>aC (jC Z) Z<|aL ?_;refine tP h Z (λ_ h=>?_) λ_ h=>?_
     ·refine aT ?_;refine aC (Bd (r:=Value.agg #[iO,iO,iO,vI (0:Int),vI (0:Int),vI (0:Int),vI (0:Int),vU (0:Int)]) (by intro w;simp[Instr.build,Instr.fill,dH,cR,cI,dJ,dK,cS,eI])) Z ?_;refine bH 5 (vs:=yO) Z Z Z Z Z Z<|aB Z<|aL<|aR<|aI<|bE<|aI<|aI<|bE<|aI<|eX (dG fX)<|eX (dG fX)<|eX (dG eO.raw) (eX (j_ cK) ?_);exact qA (([]:aY),([]:aY),([]:bO),(0:Int),(0:Int),(0:Int),(0:Int),(0:Int),(11:Int)) ((iO),(iO),(iO),([]:fP)) h (.inl Z) (Gc.r2 Z (RV.cell 9 Z Z Z Z) (RV.tmp Z)) Z (a_.ix [11,21,2,3,1,0] Z Z) (aE.refl _ _)
     refine cD<|aT<|bN Z<|cT 6 Z<|aA Z<|aA Z<|dN h λap bP h=>aG (zBi Vm (Cd U a.1 p q a.2.2.1 p q v t z4 a.2.2.2.2.2.1 (List.zip a.2.2.2.2.2.2 d.2.2.2.2) a.2.2.2.1 (List.zip a.2.2.2.2.1 d.2.2.1) g.1 (List.zip g.2.1 b.2.2.2.2.2.2.2.2.1) ap bP) Z (aE.cons (aD.res 11 Z) (aE.cons (aD.fact 0 Z) (aE.cons (aD.fact 1 Z) (aE.cons (aD.res 14 Z) (aE.cons (aD.fact 0 Z) (aE.cons (aD.fact 1 Z) (aE.cons (aD.fact 3 Z) (aE.cons (aD.fact 4 Z) (aE.cons (bF (i:=15) (j:=16) Z Z dW) (aE.cons (bF (i:=12) (j:=13) Z Z bV) (aE.cons (bF (i:=2) (j:=3) Z Z dW) .nil)))))))))))) Z λT=>aB Z<|aL<|aK ?_;refine JR.start [0,1,0,7,0,16,63,127] 6 mixedOrders (by decide +kernel) ?_;refine zBl (by exact rfl) ?_;refine cP Z<|fG 8 Z<|aX Z<|dN h λS bT h=>zBk Z Z Z (zBi Mw (kI U a.1 p q a.2.2.1 p q v t z4 a.2.2.2.2.2.1 (List.zip a.2.2.2.2.2.2 d.2.2.2.2) a.2.2.2.1 (List.zip a.2.2.2.2.1 d.2.2.1) T.1 (List.zip T.2 ap) S bT) Z (aE.cons (aD.res 13 Z) (aE.cons (aD.fact 0 Z) (aE.cons (aD.fact 1 Z) (aE.cons (aD.res 16 Z) (aE.cons (aD.fact 0 Z) (aE.cons (aD.fact 1 Z) (aE.cons (aD.fact 3 Z) (aE.cons (aD.fact 4 Z) (aE.cons (bF (i:=17) (j:=18) Z Z dW) (aE.cons (bF (i:=14) (j:=15) Z Z bV) (aE.cons (bF (i:=0) (j:=1) Z Z dW) .nil)))))))))))) Z (λb8=>(oU [] Z)) λb8=>fW Z (cO Z Z Z Z Z)<|bG Z (a_.cons 8 Z .nil) .nil (dO 0 Z Z Z Z Z) (aP.h (a_.ix [8] Z Z) .nil aP.z)<|bK 6 Z Z<|uU Z<|aB Z<|aL<|aT<|cG 3 Z<|aA Z<|aA Z<|dN h λu bU h=>aG (zBi Vn (Ie U  u bU) Z .nil) Z λcr=>aA Z<|eS Z<|eS Z<|bH 3 (vs:=[vI (u.1.1),vI (u.1.2.1),vI (u.1.2.2.1),vI (u.1.2.2.2.1),vU (u.1.2.2.2.2)]) Z Z Z Z Z Z<|aL<|aT<|bN Z<|cT 8 Z<|aA Z<|aA Z<|cG 3 Z<|dN h λbA bW h=>aG (pN (vs:=[T.1,vU (dD .u32 S d.1),Value.agg #[vI (u.1.1),vI (u.1.2.1),vI (u.1.2.2.1),vI (u.1.2.2.2.1),vU (u.1.2.2.2.2)]]) (cs:=[]) PY Z (CR U T.1 (List.zip T.2 ap) bA bW) Z (aE.cons (bF (i:=0) (j:=1) Z Z dW) .nil) (λ_ _=>rfl)) Z λct=>aL<|aT<|bN Z<|cT 6 Z<|aA Z<|aG (cE (e:=fX) ([L]) [(0,vU (L))] Z Z Z Z (gM (vU (L)) Z) Z Z Z) Z λco=>dB h λbs h=>aG (eG 21 fS Z Z Z (bB (aD.res 0 Z) fS) Z Z Z Z bs Z) Z λbC=>bN Z<|bQ (Know.one ((bB (aD.res 21 Z) fS))) λba=>eB 7 Z Z ba Z Z Z<|aL<|aO<|bN Z<|cT 7 Z<|aA Z<|aG (cE (e:=fX) ([(dD .u32 S d.1)]) [(0,vU (dD .u32 S d.1))] Z Z Z Z (gM (vU (dD .u32 S d.1)) Z) Z Z Z) Z λcp=>dB h λbt h=>aG (eG 4 fS Z Z Z (bB (aD.res 0 Z) fS) Z Z Z Z bt Z) Z λbI=>bN Z<|bQ (Know.one ((bB (aD.res 4 Z) fS))) λbb=>eB 8 Z Z bb Z Z Z<|eM<|jE<|aO<|cB Z<|aA Z<|aL ?_;exact kM ((dD .u32 S d.1),(b.2.1++([(dD .u32 S d.1)])),(wI .i64 (b.2.2.1+(1:Int))),u.1.1,u.1.2.1,u.1.2.2.1,u.1.2.2.2.1,u.1.2.2.2.2,ap,(b.2.2.2.2.2.2.2.2.2++[L])) (T.1,T.2,bC,bI) h SF (a_.ix [4,5,2,3,8,9,10,11,12,13,14,15,16,17,18,19,20,21,22] Z Z) (aE.refl _ _)
    refine eR ?_;exact bZ (b.2.1,b.2.2.2.1,b.2.2.2.2.1,b.2.2.2.2.2.1,b.2.2.2.2.2.2.1,b.2.2.2.2.2.2.2.1,b.2.2.2.2.2.2.2.2.1,b.2.2.2.2.2.2.2.2.2) (g.1,g.2.1,g.2.2.1,g.2.2.2) h SF (a_.ix [0,1,2,3,4,5,7,17,18] Z Z) (aE.refl _ _)
   intro o J h;unfold xL at h;refine aK ?_;refine JR.start [0,0,1,5,15,31] 4 mixedOrders (by decide +kernel) ?_;refine zBl (by exact rfl) ?_;refine aX Z<|gN 1 Z<|cP Z<|fU (Know.one (aD.sl (bF (i:=2) (j:=3) Z Z dW))) λbq=>Ep Z Z Z (KP 4 Z Z bq Z Z Z) (λck=>(oU [([1],[])] Z)) λck=>bK 4 Z Z<|bN Z<|LC (CV 4 (us:=[vI (o.2.1),vI (o.2.2.1),vI (o.2.2.2.1),vI (o.2.2.2.2.1),vU (o.2.2.2.2.2.1)]) Z Z Z Z Z Z Z Z Z) λcx=>aL<|aT<|cG 4 Z<|bQ (Know.one ((bB (aD.res 8 Z) fS))) λbr=>bQ (Know.one ((bB (aD.res 0 Z) fS))) λa8=>bQ (Know.one (aD.sl (bF (i:=2) (j:=3) Z Z dW))) λa9=>bH 5 (vs:=[J.2.2.1,J.2.2.2,J.1,vI (o.2.1),vI (o.2.2.1),vI (o.2.2.2.1),vI (o.2.2.2.2.1),vU (o.2.2.2.2.2.1)]) Z Z (c_ br (c_ a8 (c_ a9 (c_ Z (c_ Z (c_ Z (c_ Z (c_ Z Z)))))))) Z Z Z<|aB Z<|aL<|aR ?_;exact qA (o.2.2.2.2.2.2.2,o.1,o.2.2.2.2.2.2.1,o.2.1,o.2.2.1,o.2.2.2.1,o.2.2.2.2.1,o.2.2.2.2.2.1,(0:Int)) (J.2.2.1,J.2.2.2,J.1,J.2.1) h (.inl Z) (Gc.r2 Z (RV.cell 5 Z Z Z Z) (RV.tmp Z)) Z (a_.ix [6,7,8,0,2,3] Z Z) (aE.refl _ _)
  intro s H h;unfold BM at h;refine eS Z<|eS Z<|bQ (Know.one ((bB (aD.res 2 Z) fS))) λbm=>bQ (Know.one ((bB (aD.res 3 Z) fS))) λbn=>bQ (Know.one (aD.sl (bF (i:=4) (j:=5) Z Z dW))) λbo=>bH 0 (vs:=[H.1,H.2.1,H.2.2.1,vI (s.2.2.2.1),vI (s.2.2.2.2.1),vI (s.2.2.2.2.2.1),vI (s.2.2.2.2.2.2.1),vU (s.2.2.2.2.2.2.2.1)]) Z Z (c_ bm (c_ bn (c_ bo (c_ Z (c_ Z (c_ Z (c_ Z (c_ Z Z)))))))) Z Z Z<|aB Z<|aL<|aR ?_;exact qA (s.2.2.2.1,s.2.2.2.2.1,s.2.2.2.2.2.1,s.2.2.2.2.2.2.1,s.2.2.2.2.2.2.2.1,s.2.2.2.2.2.2.2.2,s.1,s.2.1,s.2.2.1) (H.1,H.2.1,H.2.2.1,H.2.2.2) h (.inl Z) (Gc.r2 Z (RV.cell 0 Z Z Z Z) (RV.tmp Z)) Z (a_.ix [1,2,3,4,5] Z Z) (aE.refl _ _)
 intro D G h;unfold Eh at h;refine eS Z<|eS Z<|bQ (Know.one ((bB (aD.res 1 Z) fS))) λbi=>bQ (Know.one ((bB (aD.res 2 Z) fS))) λbj=>bQ (Know.one (aD.sl (bF (i:=3) (j:=4) Z Z dW))) λbk=>bH 0 (vs:=[G.1,G.2.1,G.2.2.1,vI (D.1),vI (D.2.1),vI (D.2.2.1),vI (D.2.2.2.1),vU (D.2.2.2.2.1)]) Z Z (c_ bi (c_ bj (c_ bk (c_ Z (c_ Z (c_ Z (c_ Z (c_ Z Z)))))))) Z Z Z<|aB Z<|aL<|aR ?_;cases h;exact eW (G.1,G.2.1,G.2.2.1,G.2.2.2) Z Z (RV.cell 0 Z Z Z Z) (RV.tmp Z) (a_.ix [1,2,3,4] Z Z) aE.nil
end Go.Proofs.YtahgemjmgopleaaGreatDoor
namespace Go.Proofs.YtahgemjmgopleaaGreatDoor
open Go Go.Sx
theorem XH {g:GR} (e:VG g) (p:BW) (b:Int) (c:bO) (o:aY):
  bL (nF 1000 p g b c o) 1000 ((0:Int),(0:Int),(List.replicate (Int.toNat (g.2.length:Int)) ([]:aY)))=xM 1000 p g b c o (gO g g.2.length,fQ g):=by
 have z:=e.n24;have s:=e.len;let f:Nat->aY:=λv=>(List.range (row g v).length).map (HS g v);let Q:Nat->bO:=λk=>(List.range k).map f++List.replicate (g.2.length - k) [];have q:∀k,k<=g.2.length->(Q k).length=g.2.length:=λk i=>by simp[Q];omega
 rw[show List.replicate (Int.toNat (g.2.length:Int)) ([]:aY)=Q 0 by simp[Q]];refine cQ (step:=nF 1000 p g b c o) g.2.length (λk=>((k:Int),gO g k,Q k)) (λk d i=> ?_) (λd=> ?_) 1000 (by omega)
 ·have r:=(e.node k i).deg;have t:k<(Q k).length:=by rw[q k (by omega)];exact i
  unfold nF;dsimp only;rw[if_pos (by omega),cV (by omega),cV (by omega)];let a:Nat->aY:=λj=>(List.range j).map (HS g k);have y:Q k=(Q k).set k (a 0):=by
   have:at' (Q k) (k:Int)=a 0:=by
    rw[jI t];simp[Q,a]
   rw[<-this];exact(Fz (Q k) (k:Int) (by simpa using t) (by omega)).symm
  rw[show(Q k)=(Q k).set k (a 0)from y];have h:∀A:bO,A.length=g.2.length->bL (tE 1000 g ((k:Int),gO g k,(Q k).set k (a 0)) d) 1000 ((0:Int),A.set k (a 0))=d (((k+1:Nat):Int),gO g (k+1),A.set k (f k)):=by
   intro A D;refine cQ (step:=tE 1000 g ((k:Int),gO g k,(Q k).set k (a 0)) d) (K:=d (((k+1:Nat):Int),gO g (k+1),A.set k (f k))) (row g k).length (λj=>((j:Int),A.set k (a j))) (λj m C=> ?_) (λm=> ?_) 1000 (by omega)
   ·obtain⟨u,w,l⟩:=e.to i C;have B:=(e.node u w).deg;have x:at' (A.set k (a j)) (k:Int)=a j:=by rw[CX _ _ _ _ (by omega),if_pos Z]
    have n:(a j).length=j:=by simp[a]
    unfold tE;dsimp only;rw[if_pos (show(j:Int)<((row g k).length:Int) by omega),cV (show 0<=(j:Int)∧(j:Int)<((row g k).length:Int) by omega),cV (by simp only[zA1];omega),show at' (at' g.2 (k:Int)) (j:Int)=jT (row g k) j from rfl,l,bA (show kO 1000 _ (u:Int) (k:Int)=_ from Kv g u (k:Int) w (by omega)),x,cV (by rw[n];simp;omega),cV (by simp only[zA1];omega),dL (by omega),zAh,List.set_set];have:a j++[Cm (row g u) (k:Int)]=a (j+1):=by
     simp only[a];rw[zB2,zB8,zB1,HS,l,zAh]
    rw[this]
   ·unfold tE BP;dsimp only;rw[if_neg (show¬((row g k).length:Int)<((row g k).length:Int)from Int.lt_irrefl _),dL (by omega)];rfl
  have:=h (Q k) (q k (by omega));rw[tB f [] g.2.length k i]at this;exact this
 ·unfold nF;dsimp only;rw[if_neg (by omega)];simp[Q,fQ,f]
def o_ (g:GR):Nat:=2^g.2.length - 1
theorem Vg {g:GR} (b:VG g):o_ g<4294967296:=by
 have a:=b.n24;have:(2:Nat)^g.2.length<=2^24:=Nat.pow_le_pow_right (by omega) a;unfold o_;omega
noncomputable def NU (m:Nat):Nat:=open Classical in if h:∃k,Lk m k then 2^Classical.choose h else 0
theorem Lk.det {m k j:Nat} (h:Lk m k) (a:Lk m j):k=j:=by
 rcases zAx k j with q|q|q
 ·have:=a.low k q;rw[h.bit]at this;cases this
 ·exact q
 ·have:=h.low j q;rw[a.bit]at this;cases this
theorem LX {m k:Nat} (h:Lk m k):NU m=2^k:=by
 unfold NU;have e:∃k,Lk m k:=⟨k,h⟩
 rw[dif_pos e,(Classical.choose_spec e).det h]
theorem Hp:NU 0=0:=by
 unfold NU;rw[dif_neg];rintro⟨k,h⟩;have:=h.bit;simp at this
noncomputable def FY (g:GR) (W:Nat):Nat->Nat
 |0=>0
 |v+1=>open Classical in if W.testBit v=true∧∀u,(FY g W v).testBit u=true->¬NP g v u then FY g W v ||| 2^v else FY g W v
theorem Ji {g:GR} {W s:Nat}:∀{k:Nat},s<=k->(∀i,s<=i->i<k->W.testBit i=false)->FY g W k=FY g W s
 |0,h,_=>by rw[show s=0 by omega]
 |k+1,h,hb=>by
  by_cases e:s=k+1
  ·rw[e]
  ·rw[FY,if_neg (λq=>by have:=hb k (by omega) (by omega);rw[this]at q;exact absurd q.1 (by decide)),Ji (by omega) λi a b=>hb i a (by omega)]
theorem Ql {g:GR} {W:Nat}:∀{k i:Nat},(FY g W k).testBit i=true->W.testBit i=true∧i<k
 |0,i,h=>by simp[FY]at h
 | k + 1, i, h => by
  rw[FY]at h;split at h
  ·rename_i q;rw[Nat.testBit_or,zAu,zAz,zA8]at h;rcases h with h|rfl
   ·obtain⟨a,b⟩:=Ql h;exact⟨a,by omega⟩
   ·exact⟨q.1,by omega⟩
  ·obtain⟨a,b⟩:=Ql h;exact⟨a,by omega⟩
theorem ZB {g:GR} {W k:Nat} (c:k<=32):FY g W k<4294967296:=by
 refine zAj (Nat.lt_pow_two_of_testBit (n:=32) _ λi b=> ?_) (zAd _);cases a:(FY g W k).testBit i with
 |false=>rfl
 |true=>have:=(Ql a).2;omega
theorem acN {g:GR} (hV:VG g) {r:aY} (hN:Mj g r) {W:Nat} (hW:Gf g W) (F:Nat):∀(d s fuel rest:Nat),s+d=32->rest<4294967296->(∀i,rest.testBit i=(decide (s<=i)&&W.testBit i))->d<fuel->
  bL (cZ F r) fuel ((rest:Int),((FY g W s:Nat):Int))=some ((FY g W 32:Nat):Int):=by
 have h24:=hV.n24;intro d
 induction d using Nat.strongRecOn with
 | _ d ih =>
  intro s fuel rest hs hr hb hf;obtain⟨fuel,rfl⟩:∃f,fuel=f+1:=⟨fuel - 1,by omega⟩
  have hun:bL (cZ F r) (fuel+1) ((rest:Int),((FY g W s:Nat):Int))=cZ F r ((rest:Int),((FY g W s:Nat):Int)) (bL (cZ F r) fuel):=rfl;rw[hun];unfold cZ kA iN;dsimp only;by_cases h0:rest=0
  ·rw[if_neg (by omega),Ji (s:=s) (k:=32) (by omega) λi h1 _=>by
    have:=hb i;rw[h0,zBf,zA5 h1,Bool.true_and]at this;exact this.symm]
  obtain⟨k,hk⟩:=Fl h0;have hkb:=hb k;rw[hk.bit]at hkb;have hks:s<=k:=by
   rcases zAo k s with q|q
   ·rw[zA7 (by omega)]at hkb;cases hkb
   ·exact q
  have hkW:W.testBit k=true:=by
   rw[zA5 hks,Bool.true_and]at hkb;exact hkb.symm
  have hkn:=hW k hkW;have hk32:k<32:=by omega
  have hgk:FY g W k=FY g W s:=Ji hks λi h1 h2=>by
   have h3:=hk.low i h2;rw[hb i,zA5 h1,Bool.true_and]at h3;exact h3
  have ht32:=ZB (g:=g) (W:=W) (k:=s) (by omega);obtain⟨m,hm,hm32,hbits⟩:=hN.at' k hkn;obtain⟨m',e1,e2,e3⟩:=Qe hr hk;have hb':∀i,m'.testBit i=(decide (k+1<=i)&&W.testBit i):=λi=>by
   rw[e3,hb];rcases zAx i k with q|q|q
   ·have h3:=hk.low i q;rw[hb]at h3;rw[h3,zA7 (show¬k+1<=i by omega)];simp
   ·rw[q,zA7 (show¬k+1<=k by omega)];simp
   ·rw[zA5 (show s<=i by omega),zA5 (show k+1<=i by omega),zA5 (show i≠k by omega)];simp
  have hcond:m &&& FY g W s=0↔∀u,(FY g W k).testBit u=true->¬NP g k u:=by
   rw[hgk];constructor
   ·intro hz u hu ha;have:=congrArg (λq=>q.testBit u) hz;simp only[zBd,zBf,(hbits u).2 ha,hu]at this;cases this
   ·intro h;refine zBh λi=> ?_;rw[zBd,zBf];cases h1:m.testBit i with
    |false=>rfl
    |true=>
     cases h2:(FY g W s).testBit i with
     |false=>rfl
     |true=>exact absurd ((hbits i).1 h1) (h i h2)
  rw[if_pos (by omega),bA (aaI F hr hk),cV (by have:=hN.len;omega),hm,zU hm32 ht32,e1];by_cases hz:m &&& FY g W s=0
  ·have hn:FY g W (k+1)=FY g W s ||| 2^k:=by rw[FY,if_pos ⟨hkW,hcond.1 hz⟩,hgk]
   rw[hz,if_pos (by rfl),cV (by omega),Gn ht32 hk32,<-hn];exact ih (32 - (k+1)) (by omega) (k+1) fuel m' (by omega) e2 hb' (by omega)
  ·have hn:FY g W (k+1)=FY g W s:=by rw[FY,if_neg (λq=>hz (hcond.2 q.2)),hgk]
   rw[if_neg (by omega),<-hn];exact ih (32 - (k+1)) (by omega) (k+1) fuel m' (by omega) e2 hb' (by omega)
noncomputable def EO (e w:Nat):Nat:=if w &&& e=0 then NU e else w &&& e
noncomputable def afJ (g:GR) (a:Int) (e W:Nat):Nat:=if a=1 then NU W else if a=2 then FY g W 32 else if a=4 then e else W
noncomputable def vD (g:GR) (a:Int) (e w:Nat):Nat:=afJ g a e (EO e w)
theorem ahB {m:Nat} (hm:m<4294967296):dD .u32 (m:Int) (wI .u32 (0 - (m:Int)))=((NU m:Nat):Int):=by
 by_cases h0:m=0
 ·rw[h0,Hp];rfl
 ·obtain⟨k,hk⟩:=Fl h0;rw[adf hm hk,LX hk]
theorem ZS {m i:Nat} (h:(NU m).testBit i=true):m.testBit i=true:=by
 by_cases a:m=0
 ·rw[a,Hp]at h;simp at h
 ·obtain⟨k,b⟩:=Fl a;rw[LX b,zAu,zA8]at h;rw[<-h];exact b.bit
theorem Pr {e w i:Nat} (h:(EO e w).testBit i=true):e.testBit i=true:=by
 unfold EO at h;split at h
 ·exact ZS h
 ·rw[zBd,zA3]at h;exact h.2
theorem ade {m:Nat} (c:m<4294967296):NU m<4294967296:=by
 by_cases a:m=0
 ·rw[a,Hp];omega
 ·obtain⟨k,b⟩:=Fl a;rw[LX b];exact H_ (Gp c b.bit)
theorem Tw {e w:Nat} (a:e<4294967296) (b:w<4294967296):EO e w<4294967296:=by
 unfold EO;split
 ·exact ade a
 ·exact PN b
theorem No {g:GR} (hV:VG g) {r:aY} (hN:Mj g r) (kind:Int) {e w:Nat} (he:Gf g e) (hw:w<4294967296):cY 1000 r kind (e:Int) (w:Int)=some ((vD g kind e w:Nat):Int):=by
 have he24:=he.lt hV;have hW32:=Tw (e:=e) (w:=w) (by omega) hw;have hWG:Gf g (EO e w):=λi hi=>he i (Pr hi);have e1:cY 1000 r kind (e:Int) (w:Int)=gJ 1000 r kind (e:Int) ((EO e w:Nat):Int):=by
  unfold cY EO;rw[zU hw (by omega)];by_cases h0:w &&& e=0
  ·rw[h0,if_pos (show((0:Nat):Int)=0 from rfl),if_pos Z,ahB (by omega)]
  ·rw[if_neg (by omega),if_neg h0]
 rw[e1];unfold vD;generalize EO e w=W at hW32 hWG ⊢;unfold afJ;unfold gJ mG;by_cases k1:kind=1
 ·rw[if_pos k1,if_pos k1,ahB hW32]
 rw[if_neg k1,if_neg k1];by_cases k2:kind=2
 ·rw[if_pos k2,if_pos k2];exact acN hV hN hWG 1000 32 0 1000 W (by omega) hW32 (λi=>by simp) (by omega)
 rw[if_neg k2,if_neg k2];by_cases k4:kind=4
 ·rw[if_pos k4,if_pos k4]
 ·rw[if_neg k4,if_neg k4]
section
variable {p:BW} {g:GR} {R:List RL}
theorem Up (hV:VG g) (hp:jQ g p.2.1) (hz:p.2.2.map tH=Dx R) (hR:pC p.2.1.length R=true) {kind:Int} (hk1:1<=kind) (hk4:kind<=4) {c0:List (List Int)} (hc0:HC g c0 p.2.1) {ws:List Int} (hws:ws.length<=900) (hw:∀k:Nat,k<ws.length->∃m:Nat,at' ws (k:Int)=(m:Int)∧m<4294967296)
  (P:Nat->List (List Int)->List Nat->CT->List Int->Prop) (h0:P 0 c0 [] (0,0,0,0,dD .u32 ((oW (bI p g) R (o_ g) c0:Nat):Int) 16777215) [((oW (bI p g) R (o_ g) c0:Nat):Int)])
  (hstep:∀k c ch cnt ens t cnt' err,k<ws.length->oY g p.2.1.length c->P k c ch cnt ens->oW (bI p g) R (o_ g) c≠0->t≠0->(∀i,t.testBit i=true->(oW (bI p g) R (o_ g) c).testBit i=true)->(kind<=2->∀v u,t.testBit v=true->t.testBit u=true->¬NP g v u)->(kind=4->t=oW (bI p g) R (o_ g) c)->(∃net,jV 1000 g=some net∧cY 1000 net kind ((oW (bI p g) R (o_ g) c:Nat):Int) (at' ws (k:Int))=some (t:Int))->
   gV 1000 cnt (t:Int) ((oW (bI p g) R (o_ g) (gT (bI p g) p.2.1 R c t):Nat):Int)=some (cnt',err)->P (k+1) (gT (bI p g) p.2.1 R c t) (ch++[t]) cnt' (ens++[((oW (bI p g) R (o_ g) (gT (bI p g) p.2.1 R c t):Nat):Int)])):
  ∃k c ch cnt ens,pX 1000 p g kind c0 ws=some ((Eb ch,ens,c,cnt),0)∧P k c ch cnt ens∧oY g p.2.1.length c∧k<=ws.length∧ch.length=k∧ens.length=k+1∧at' ens (k:Int)=((oW (bI p g) R (o_ g) c:Nat):Int)∧(k=ws.length∨oW (bI p g) R (o_ g) c=0):=by
 have h24:=hV.n24;have hvl:=hp.len;let S:=bI p g;have hVS:VG S.2.1:=hV;obtain⟨net,hnet,hN⟩:=Nh hV;have hcheck:kG 1000 p g kind c0 (ws.length:Int)=some 0:=by
  unfold kG;rw[bA (show kP 1000 _ _ c0=_ from Jb hV hp hc0),if_neg (by decide)];have:mA 1000 kind=some true:=by
   unfold mA mN;rw[if_pos hk1,zA5 hk4]
  rw[bA this,if_neg (by decide),if_neg (by omega)]
 unfold pX;rw[bA (show kG 1000 _ _ kind c0 _=_ from hcheck),if_neg (by decide),cV (by omega),XH hV p kind c0 ws];unfold xM BO;rw[bA (show iX 1000 _ _=_ from JP hV hp)];unfold BN;rw[bA (show jV 1000 _=_ from hnet),bA (show uN 1000 _=some ((o_ g:Nat):Int)from Yt hV)];have hen:∀c,oY g p.2.1.length c->cM 1000 (p,(p,g,gO g g.2.length,fQ g),Cr g p.2.1) c=some ((Rj S R c:Nat):Int):=λc hc=>Iv hV hc hz hR (by simp[Cr]);have hand:∀c,dD .u32 ((Rj S R c:Nat):Int) ((o_ g:Nat):Int)=((oW S R (o_ g) c:Nat):Int):=λc=>zU (MF hVS R c) (Vg hV);unfold Eg;dsimp only;rw[bA (Qg c0 (by rw[hc0.len];omega) (λv hv=>by rw[hc0.row v (by rw[<-hc0.len];exact hv)];omega)),bA (show cM 1000 _ c0=_ from hen c0 hc0.shape),hand,bA (show pE 1000 _=some (0,0,0,0,dD .u32 ((oW S R (o_ g) c0:Nat):Int) 16777215)from rfl),bA (show lU 1000 _ _ _=some ()from rfl),cV (by simp),List.nil_append];let A20:Int×List Int×(List (List (Int×Int)))×Int×List (List Int):=(((o_ g:Nat):Int),net,Cr g p.2.1,gO g g.2.length,fQ g)
 have fin:∀k c ch cnt ens,P k c ch cnt ens->oY g p.2.1.length c->k<=ws.length->ch.length=k->ens.length=k+1->at' ens (k:Int)=((oW S R (o_ g) c:Nat):Int)->(k=ws.length∨oW S R (o_ g) c=0)->
   OK (λr:(List Int×List Int×List (List Int)×CT)×Int=>∃k c ch cnt ens,r=((Eb ch,ens,c,cnt),0)∧P k c ch cnt ens∧oY g p.2.1.length c∧k<=ws.length∧ch.length=k∧ens.length=k+1∧at' ens (k:Int)=((oW S R (o_ g) c:Nat):Int)∧(k=ws.length∨oW S R (o_ g) c=0)) (xL (ens,cnt.1,cnt.2.1,cnt.2.2.1,cnt.2.2.2.1,cnt.2.2.2.2,c,Eb ch)):=
  λk c ch cnt ens a1 a2 a3 a4 a5 a6 a7=>⟨_,rfl,k,c,ch,cnt,ens,rfl,a1,a2,a3,a4,a5,a6,a7⟩
 have key:=Fi (step:=xN 1000 p g kind ws A20) (Q:=λr:(List Int×List Int×List (List Int)×CT)×Int=>∃k c ch cnt ens,r=((Eb ch,ens,c,cnt),0)∧P k c ch cnt ens∧oY g p.2.1.length c∧k<=ws.length∧ch.length=k∧ens.length=k+1∧at' ens (k:Int)=((oW S R (o_ g) c:Nat):Int)∧(k=ws.length∨oW S R (o_ g) c=0))
  (λx=>∃(k:Nat) (c:List (List Int)) (ch:List Nat) (cnt:CT) (ens:List Int),x=(((oW S R (o_ g) c:Nat):Int),ens,(k:Int),cnt.1,cnt.2.1,cnt.2.2.1,cnt.2.2.2.1,cnt.2.2.2.2,c,Eb ch)∧P k c ch cnt ens∧oY g p.2.1.length c∧k<=ws.length∧ch.length=k∧ens.length=k+1∧at' ens (k:Int)=((oW S R (o_ g) c:Nat):Int)) (λx=>ws.length - x.2.2.1.toNat) (λx ag hI hrec=>by
  obtain⟨k,c,ch,cnt,ens,rfl,b1,b2,b3,b4,b5,b6⟩:=hI;unfold xN;dsimp only;by_cases hlt:k<ws.length
  rotate_left
  ·rw[if_neg (by omega)];exact fin k c ch cnt ens b1 b2 b3 b4 b5 b6 (.inl (by omega))
  obtain⟨w,hwe,hw32⟩:=hw k hlt;have hin:Gf g (oW S R (o_ g) c):=DZ S R (o_ g) c;obtain⟨t,ht,hsub,hne⟩:=IF hV hN hk1 hk4 hin hw32;rw[if_pos (by omega),cV (by omega),hwe,bA (show cY 1000 net kind _ _=_ from ht)];unfold Ei;dsimp only;by_cases he0:oW S R (o_ g) c=0
  ·rw[if_pos (by omega)];exact fin k c ch cnt ens b1 b2 b3 b4 b5 b6 (.inr he0)
  obtain⟨ht0,hperm,hk2,hk4'⟩:=hne he0;have ht32:t<4294967296:=by have:=Gf.lt hV (λi hi=>hin i (hsub i hi));omega
  rw[if_neg (by omega),bA (show fF 1000 net kind _ _=_ from hperm),if_neg (by decide)];have hst:f_ 1000 (p,(p,g,gO g g.2.length,fQ g),Cr g p.2.1) c (t:Int)=some (gT S p.2.1 R c t):=Wl (gr:=gO g g.2.length) hV hp b2 hz hR ht32 (λv hv=>((Hh S R (o_ g) c v).1 (hsub v hv)).2.1);have hsh:oY g p.2.1.length (gT S p.2.1 R c t):=b2.step;obtain⟨⟨cnt',err⟩,hadd⟩:=R_ cnt ht32 ((oW S R (o_ g) (gT S p.2.1 R c t):Nat):Int);rw[bA (show f_ 1000 _ c (t:Int)=_ from hst),bA (show cM 1000 _ _=_ from hen _ hsh),hand,bA (show gV 1000 _ (t:Int) _=_ from hadd),bA (show lU 1000 _ _ _=some ()from rfl),cV (by simp[Eb];omega),cV (by simp;omega),dL (by omega)];refine hrec _ ⟨k+1,gT S p.2.1 R c t,ch++[t],cnt',ens++[((oW S R (o_ g) (gT S p.2.1 R c t):Nat):Int)],by simp[Eb],hstep k c ch cnt ens t cnt' err hlt b2 b1 he0 ht0 hsub hk2 hk4' ⟨net,hnet,by rw[hwe];exact ht⟩ hadd,hsh,by omega,by simp[b4],by simp[b5],?_⟩ (by dsimp only;omega);exact LF (pre:=ens) (rest:=[]) (by simp) b5) 1000 (((oW S R (o_ g) c0:Nat):Int),[((oW S R (o_ g) c0:Nat):Int)],(0:Int),0,0,0,0,dD .u32 ((oW S R (o_ g) c0:Nat):Int) 16777215,c0,[])
  ⟨0,c0,[],(0,0,0,0,dD .u32 ((oW S R (o_ g) c0:Nat):Int) 16777215),[((oW S R (o_ g) c0:Nat):Int)],rfl,h0,hc0.shape,by omega,rfl,rfl,rfl⟩ (by dsimp only;omega)
 obtain⟨r,hr,k,c,ch,cnt,ens,rfl,hrest⟩:=key;exact⟨k,c,ch,cnt,ens,hr,hrest⟩
end
end Go.Proofs.YtahgemjmgopleaaGreatDoor
namespace Go.Proofs.YtahgemjmgopleaaGreatDoor
open Go.Sx
def yR  (a:aY):Option aY:=
 some (a)
def sW (c:aY×Int) (b:(aY×Int)->Option aY) (a:aY):Option aY:=
 b (a,(wI .i64 (c.2+(1:Int))))
def pM (b:aY) (d:Int) (a:aY×Int) (c:(aY×Int)->Option aY):Option aY:=
 if a.2<d then(if(b.length:Int)=(0:Int)then(ck ((a.1.length:Int)+(List.length ([(4294967295:Int)]):Int)<=1099511627) (sW a c (a.1++([(4294967295:Int)]))))else(ck ((b.length:Int)≠0) (ck (0<=(Int.tmod a.2 (b.length:Int))∧(Int.tmod a.2 (b.length:Int))<(b.length:Int)) (ck ((b.length:Int)≠0) (ck ((24:Int)≠0) (ck (0<=(wI .u64 (Int.tmod (wI .i64 (Int.tdiv a.2 (b.length:Int))) (24:Int)))) (ck (0<=(wI .u64 ((24:Int) - (wI .u64 (Int.tmod (wI .i64 (Int.tdiv a.2 (b.length:Int))) (24:Int)))))) (ck ((a.1.length:Int)+(List.length ([(dD .u32 (I_ .u32 (AS .u32 (dD .u32 (at' b (Int.tmod a.2 (b.length:Int))) (16777215:Int)) (wI .u64 (Int.tmod (wI .i64 (Int.tdiv a.2 (b.length:Int))) (24:Int)))) (pQ .u32 (dD .u32 (at' b (Int.tmod a.2 (b.length:Int))) (16777215:Int)) (wI .u64 ((24:Int) - (wI .u64 (Int.tmod (wI .i64 (Int.tdiv a.2 (b.length:Int))) (24:Int))))))) (16777215:Int))]):Int)<=1099511627) (sW a c (a.1++([(dD .u32 (I_ .u32 (AS .u32 (dD .u32 (at' b (Int.tmod a.2 (b.length:Int))) (16777215:Int)) (wI .u64 (Int.tmod (wI .i64 (Int.tdiv a.2 (b.length:Int))) (24:Int)))) (pQ .u32 (dD .u32 (at' b (Int.tmod a.2 (b.length:Int))) (16777215:Int)) (wI .u64 ((24:Int) - (wI .u64 (Int.tmod (wI .i64 (Int.tdiv a.2 (b.length:Int))) (24:Int))))))) (16777215:Int))])))))))))))else(yR  (a.1))
def rK (U:Nat) (a:aY) (b:Int):Option aY:=
 bL (pM a b) U (([]:aY),(0:Int))
theorem aes:aU Tryz.prog 13:=Tryz.call13
theorem NI (U:Nat) {a:aY} {i:Int} (n:Value) (r:aY) (h:rK U a i=some r):
  aW Tryz.prog 13 #[n,vI (i)] [Sl tY n a] (λx:Value=>x) (λx l=>Ar fX x r::l) (λ_ l=>l):=by
 refine aW.of Tryz.func13 Z Tryz.ntmps13 Z λc=>?_;unfold rK at h;refine aT<|aB Z<|aL<|aT<|aB Z<|aL<|aK<|Bn (B:=Value) (λj=>yR  j=some r) (λj k=>[(5,k)]) (λj k=>[Ar fX k j]) ?_ ?_
 ·refine aT<|aB Z<|aL<|aS<|eX (dG fX)<|dZ (B:=Value) (pM a i) (λb f=>[(0,n),(1,vI (i)),(5,f),(6,vI (b.2))]) (λb f=>[Ar fX f b.1]) (([]:aY),(0:Int)) (iO) h SF (a_.refl _) ?_;intro w b f h;refine aK<|aT<|aA Z<|aA Z<|cN Z<|aL ?_;refine dY h Z (λh=>?_) λh=>?_
  ·refine cD<|aK<|Bn (B:=Value) (λd=>sW b (bL (pM a i) w) d=some r) (λd g=>[(0,n),(1,vI (i)),(5,g),(6,vI (b.2))]) (λd g=>[Ar fX g d]) ?_ ?_
   ·refine aS<|aK<|aT<|aA Z<|gW (aD.fact 0 Z) Z<|bU Z<|aL ?_;refine dY h Z (λh=>?_) λh=>?_
    ·refine aT<|aA Z<|aG (cE (e:=fX) ([(4294967295:Int)]) [(0,vU (4294967295:Int))] Z Z Z Z (gM (vU (4294967295:Int)) Z) Z Z Z) Z λC=>dB h λo h=>aG (eG 1 fS Z Z Z (bB (aD.res 0 Z) fS) Z Z Z Z o Z) Z λy=>aB Z<|aL<|mJ<|d_<|sJ<|CB ?_;exact bZ (b.1++([(4294967295:Int)])) (y) h SF (a_.ix [1] Z Z) (aE.refl _ _)
    refine cD<|aK ?_;refine JR.start [0,0,0,4,14,31,63,0,0,256,896,1920,3968,127,16383] 14 mixedOrders (by decide +kernel) ?_;refine zBl (by exact rfl) ?_;refine aX Z<|aX Z<|aX Z<|bG Z .nil (iI 0 Z) (fV Z (aD.fact 0 Z) Z) aP.z<|dB h λp h=>fW Z (OA Z Z p)<|dB h λm h=>bG Z .nil (iI 0 Z) (aZ Z Z (aD.fact 0 Z) Z Z m) aP.z<|bG Z .nil (iI 0 Z) (bY Z (aD.fact 0 Z) Z Z Z DV m) aP.z<|aX Z<|aX Z<|bG Z .nil (iI 0 Z) (fV Z (aD.fact 0 Z) Z) aP.z<|dB h λq h=>fW Z (TY Z Z q)<|dB h λs h=>fW Z (OA Z Z s)<|fW Z (EX Z Z Z)<|fW Z (qY Z)<|bK 14 Z Z<|aB Z<|aL<|aT<|aA Z<|uU Z<|aB Z<|aL<|aO<|aA Z<|aA Z<|aA Z<|dB h λt h=>aC (HQ Z Z t) Z<|aA Z<|aA Z<|aC (mM Z Z) Z<|dB h λu h=>aC (HR Z Z u) Z<|aC (PG Z Z) Z<|uU Z<|aG (cE (e:=fX) ([(dD .u32 (I_ .u32 (AS .u32 (dD .u32 (at' a (Int.tmod b.2 (a.length:Int))) (16777215:Int)) (wI .u64 (Int.tmod (wI .i64 (Int.tdiv b.2 (a.length:Int))) (24:Int)))) (pQ .u32 (dD .u32 (at' a (Int.tmod b.2 (a.length:Int))) (16777215:Int)) (wI .u64 ((24:Int) - (wI .u64 (Int.tmod (wI .i64 (Int.tdiv b.2 (a.length:Int))) (24:Int))))))) (16777215:Int))]) [(0,vU (dD .u32 (I_ .u32 (AS .u32 (dD .u32 (at' a (Int.tmod b.2 (a.length:Int))) (16777215:Int)) (wI .u64 (Int.tmod (wI .i64 (Int.tdiv b.2 (a.length:Int))) (24:Int)))) (pQ .u32 (dD .u32 (at' a (Int.tmod b.2 (a.length:Int))) (16777215:Int)) (wI .u64 ((24:Int) - (wI .u64 (Int.tmod (wI .i64 (Int.tdiv b.2 (a.length:Int))) (24:Int))))))) (16777215:Int)))] Z Z Z Z (gM (vU (dD .u32 (I_ .u32 (AS .u32 (dD .u32 (at' a (Int.tmod b.2 (a.length:Int))) (16777215:Int)) (wI .u64 (Int.tmod (wI .i64 (Int.tdiv b.2 (a.length:Int))) (24:Int)))) (pQ .u32 (dD .u32 (at' a (Int.tmod b.2 (a.length:Int))) (16777215:Int)) (wI .u64 ((24:Int) - (wI .u64 (Int.tmod (wI .i64 (Int.tdiv b.2 (a.length:Int))) (24:Int))))))) (16777215:Int))) Z) Z Z Z) Z λD=>dB h λv h=>aG (eG 1 fS Z Z Z (bB (aD.res 0 Z) fS) Z Z Z Z v Z) Z λA=>aB Z<|eM<|jE ?_;exact bZ (b.1++([(dD .u32 (I_ .u32 (AS .u32 (dD .u32 (at' a (Int.tmod b.2 (a.length:Int))) (16777215:Int)) (wI .u64 (Int.tmod (wI .i64 (Int.tdiv b.2 (a.length:Int))) (24:Int)))) (pQ .u32 (dD .u32 (at' a (Int.tmod b.2 (a.length:Int))) (16777215:Int)) (wI .u64 ((24:Int) - (wI .u64 (Int.tmod (wI .i64 (Int.tdiv b.2 (a.length:Int))) (24:Int))))))) (16777215:Int))])) (A) h SF (a_.ix [1] Z Z) (aE.refl _ _)
   intro d g h;unfold sW at h;refine aO<|aA Z<|cB Z<|aB Z<|aL ?_;exact uG (d,(wI .i64 (b.2+(1:Int)))) (g) h SF Z
  refine eR ?_;exact fE (b.1) (f) h SF Z
 intro j k h;unfold yR at h;refine aT<|aA Z<|aB Z<|aL<|aR ?_;cases h;exact iJ (k) Z Z (RV.tmp Z) (a_.refl _) aE.nil
end Go.Proofs.YtahgemjmgopleaaGreatDoor
namespace Go.Proofs.YtahgemjmgopleaaGreatDoor
open Go Go.Sx
theorem Tv (x:Int):0<=wI .u64 x:=by
 rw[FX];have:IntKind.u64.wrap x=x%18446744073709551616:=rfl;rw[this];omega
theorem XO (l:aY) {n:Nat} (y:n<=900):∃ws,rK 1000 l (n:Int)=some ws∧ws.length=n∧∀k:Nat,k<ws.length->∃m:Nat,at' ws (k:Int)=(m:Int)∧m<4294967296:=by
 unfold rK;obtain⟨⟨ws,i⟩,⟨c,b,d⟩,t⟩:=Gy (step:=pM l (n:Int)) (K:=λz=>some z.1) n
  (λk z=>z.2=(k:Int)∧z.1.length=k∧∀j:Nat,j<k->∃m:Nat,at' z.1 (j:Int)=(m:Int)∧m<4294967296) (λk z q v h=>by
  obtain⟨ws,i⟩:=z;obtain⟨c,b,d⟩:=h;dsimp only at c b d;subst c;have a:∀m:Nat,m<4294967296->∀j:Nat,j<k+1->∃p:Nat,at' (ws++[(m:Int)]) (j:Int)=(p:Int)∧p<4294967296:=λm o j u=>by
   rw[QN ws _ (by omega)];by_cases e:j<ws.length
   ·rw[if_pos e];exact d j (by omega)
   ·rw[if_neg e];exact⟨m,rfl,o⟩
  have f:∀m:Nat,(ws.length:Int)+(List.length [(m:Int)]:Int)<=1099511627:=λm=>by simp;omega
  unfold pM sW;dsimp only;rw[if_pos (by omega),dL (by omega)];by_cases x:l.length=0
  ·rw[if_pos (by omega),cV (show(ws.length:Int)+(List.length [(4294967295:Int)]:Int)<=1099511627 from f 4294967295)];exact⟨_,⟨rfl,by simp[b],a 4294967295 (by omega)⟩,rfl⟩
  ·have r:Int.tmod (k:Int) (l.length:Int)=((k%l.length:Nat):Int):=rfl;have w:k%l.length<l.length:=Nat.mod_lt _ (by omega);rw[if_neg (by omega),cV (by omega),cV (by rw[r];omega),cV (by omega),cV (by decide),cV (Tv _),cV (Tv _)];have s:∀X:Int,∃m:Nat,dD .u32 X (16777215:Int)=(m:Int)∧m<4294967296:=λX=>⟨_,PP _ _,Nat.lt_of_le_of_lt Nat.and_le_left (Mi _)⟩
   obtain⟨m,o,g⟩:=s (I_ .u32 (AS .u32 (dD .u32 (at' l (Int.tmod (k:Int) (l.length:Int))) (16777215:Int)) (wI .u64 (Int.tmod (wI .i64 (Int.tdiv (k:Int) (l.length:Int))) (24:Int)))) (pQ .u32 (dD .u32 (at' l (Int.tmod (k:Int) (l.length:Int))) (16777215:Int)) (wI .u64 ((24:Int) - (wI .u64 (Int.tmod (wI .i64 (Int.tdiv (k:Int) (l.length:Int))) (24:Int)))))));rw[o,cV (f m)];exact⟨_,⟨rfl,by simp[b],a m g⟩,rfl⟩) (λz q h=>by
  obtain⟨ws,i⟩:=z;obtain⟨c,b,d⟩:=h;dsimp only at c;subst c;unfold pM yR;dsimp only;rw[if_neg (by omega)]) 1000 (([]:aY),(0:Int)) ⟨rfl,rfl,λj u=>by omega⟩ (by omega)
 exact⟨ws,t,b,λk v=>d k (by dsimp only at b;omega)⟩
def TH (f:Nat->Nat):Nat->Nat
 |0=>0
 |n+1=>TH f n+f n
theorem aaC {f:Nat->Nat}:∀{n:Nat},(∀v,v<n->f v<=1)->TH f n<=n
 |0,_=>zAd 0
 |n+1,h=>by
  have:=aaC (n:=n) λv a=>h v (by omega);have:=h n (by omega);simp only[TH];omega
theorem Si {d:Nat} (c:d<4294967296):∃lv:Nat,YA .u32 4294967295 (d:Int)=(lv:Int)∧lv<4294967296∧∀i,i<32->lv.testBit i = !d.testBit i:=by
 refine⟨(BitVec.ofInt 32 4294967295 ^^^ BitVec.ofInt 32 (d:Int)).toNat,NO _ (BitVec.isLt _),BitVec.isLt _,λi e=> ?_⟩
 have b:(BitVec.ofInt 32 4294967295 ^^^ BitVec.ofInt 32 (d:Int)).toNat=Ox 4294967295 ^^^ Ox (d:Int):=BitVec.toNat_xor ..;rw[b,xU c,show Ox 4294967295=2^32 - 1 from xU (a:=4294967295) (by omega),Nat.testBit_xor,zBb,zA5 e];simp
def KU (c:bO) (v:Nat):Int:=at' (at' c (v:Int)) 0
def Ng (g:GR) (c:bO) (v i:Nat):Int:=at' (at' c (jT (row g v) i).1) 0
theorem QA {g:GR} {c:bO} {v i u:Nat} (h:(jT (row g v) i).1=(u:Int)):Ng g c v i=KU c u:=by unfold Ng KU;rw[h]
theorem Ui:∀i,i<256->0<=at' JW ((i:Nat):Int)∧at' JW ((i:Nat):Int)<=8∧(i≠0->1<=at' JW ((i:Nat):Int)):=by
 have h:((List.range 256).all λi=>decide (0<=at' JW ((i:Nat):Int)∧at' JW ((i:Nat):Int)<=8∧(i≠0->1<=at' JW ((i:Nat):Int))))=true:=by decide +kernel
 intro i a;exact zBg (zA4.1 h i (zAm.2 a))
theorem adm {t:Nat} (I:t<16777216) (F:t≠0):∃n:Nat,iW 1000 (t:Int)=some (n:Int)∧1<=n∧n<=24:=by
 have q:(JW.length:Int)=256:=by decide +kernel
 have b:∀a:Nat,a<4294967296->dD .u32 (a:Int) 255=((a%256:Nat):Int):=λa p=>by
  rw[show(255:Int)=((255:Nat):Int)from rfl,zU p (by omega),show(255:Nat)=2^8 - 1 from rfl,Nat.and_two_pow_sub_one_eq_mod]
 have c:∀k:Nat,k<32->pQ .u32 (t:Int) (k:Int)=((t / 2^k:Nat):Int):=λk r=>LG r;have e:pQ .u32 (t:Int) 24=((t / 2^24:Nat):Int):=c 24 (by omega);have d:pQ .u32 (t:Int) 16=((t / 2^16:Nat):Int):=c 16 (by omega);have s:pQ .u32 (t:Int) 8=((t / 2^8:Nat):Int):=c 8 (by omega);have g:t / 2^24=0:=Nat.div_eq_of_lt (by omega);unfold iW;rw[q,e,d,s,b _ (by omega),b _ (by omega),b _ (by omega),g,cV (by decide),cV (by omega),cV (by decide),cV (by omega),cV (by decide),cV (by omega),cV (by omega)];obtain⟨v,w,i⟩:=Ui (t / 2^16%256) (by omega);obtain⟨y,z,j⟩:=Ui (t / 2^8%256) (by omega);obtain⟨D,E,l⟩:=Ui (t%256) (by omega);have u:at' JW ((0:Nat):Int)=0:=rfl;have h:1<=at' JW ((t / 2^16%256:Nat):Int)+at' JW ((t / 2^8%256:Nat):Int)+at' JW ((t%256:Nat):Int):=by
  by_cases m:t / 2^16%256=0
  ·by_cases o:t / 2^8%256=0
   ·have:=l (by omega);omega
   ·have:=j o;omega
  ·have:=i m;omega
 have f:∀x:Int,0<=x->x<=100->wI .u8 x=x:=λx G H=>by
  rw[FX];have:IntKind.u8.wrap x=x%256:=rfl;rw[this];omega
 generalize at' JW ((t / 2^16%256:Nat):Int)=A at *
 generalize at' JW ((t / 2^8%256:Nat):Int)=B at *
 generalize at' JW ((t%256:Nat):Int)=C at *
 rw[u,f (0+A) (by omega) (by omega),f (0+A+B) (by omega) (by omega),f (0+A+B+C) (by omega) (by omega),wr (by omega) (by omega)];exact⟨(0+A+B+C).toNat,by congr 1;omega,by omega,by omega⟩
theorem GD (l:aY) (j:l.length<=900) (h:∀x∈l,∃a:Nat,x=(a:Int)∧a<16777216):iV 1000 l=some true:=by
 unfold iV;refine cQ (step:=jH l) (K:=some true) l.length (λk=>(k:Int)) (λk f d=> ?_) (λf=> ?_) 1000 (by omega)
 ·obtain⟨a,g,b⟩:=h (at' l (k:Int)) (by rw[jI d];exact List.getElem_mem d);unfold jH;rw[if_pos (by omega),cV (by omega),g,dL (by omega)];have:jS .u32 (a:Int) (16777215:Int)=0:=(Yy _ _).2 λi c=>by
   rw[xU (by omega)]at c;have e:Ox 16777215=2^24 - 1:=xU (a:=16777215) (by omega);rw[e,zBb,zA8];by_cases h:i<24
   ·exact h
   ·have:=Nat.testBit_lt_two_pow (x:=a) (i:=i) (zAj b (Nat.pow_le_pow_right (n:=2) (by omega) (show 24<=i by omega)));rw[this]at c;cases c
  rw[this,if_neg (by simp)]
 ·unfold jH mT;rw[if_neg (by omega)]
structure FG (k:Nat) (cnt:CT) (R B pe:Nat):Prop where
 steps:cnt.1=(k:Int)
 moves:(k:Int)<=cnt.2.1∧cnt.2.1<=24*(k:Int)
 rounds:cnt.2.2.1=(R:Int)
 begun:cnt.2.2.2.1=(B:Int)
 pend:cnt.2.2.2.2=(pe:Int)
 le:R<=B∧B<=k∧B<=R+1
 p24:pe<16777216
theorem FG.valid {k:Nat} {i:CT} {R B j:Nat} (h:FG k i R B j) (n:k<=1000):jU 1000 i=some true:=by
 obtain⟨a,b,c,d,e,f,g⟩:=h;have m:=GD [(j:Int)] (by simp) λx l=>by
  have l:x=(j:Int):=by simpa using l
  exact⟨j,l,g⟩
 unfold jU;rw[a,c,d,if_neg (by omega),if_neg (by omega),if_neg (by omega),if_neg (by omega),zA7 (by omega)];unfold i_ lK;rw[a,c,d,e,if_neg (by decide),dL (by omega),if_neg (by omega),if_pos b.1,wr (by omega) (by omega),if_pos b.2,bA m]
theorem FG.add {k:Nat} {r:CT} {R B o:Nat} (h:FG k r R B o) (I:k<900) {t l:Nat} (A:t<16777216) (C:t≠0) (q:l<16777216) {m:CT} {u:Int} (j:gV 1000 r (t:Int) (l:Int)=some (m,u)):
  ∃p:Nat,(∀i,p.testBit i=(o.testBit i && !t.testBit i&&l.testBit i))∧((p=0∧FG (k+1) m (R+1) (R+1) l)∨(p≠0∧FG (k+1) m R (R+1) p)):=by
 have H:=h.valid (by omega);obtain⟨a,b,c,d,e,f,g⟩:=h;obtain⟨n,D,E,F⟩:=adm A C;have G:=GD [(t:Int),(l:Int)] (by simp) λx y=>by
  have y:x=(t:Int)∨x=(l:Int):=by simpa using y
  rcases y with rfl|rfl
  ·exact⟨t,rfl,A⟩
  ·exact⟨l,rfl,q⟩
 have v:wU o t<4294967296:=Je o t;have w:∀i,(wU o t &&& l).testBit i=(o.testBit i && !t.testBit i&&l.testBit i):=λi=>by
  rw[zBd,Bf (by omega) (by omega)]
 have s:wU o t &&& l<16777216:=Nat.lt_of_le_of_lt Nat.and_le_right q;unfold gV at j;rw[bA (show jU 1000 _=some true from H),if_neg (by decide),if_neg (by omega),bA G]at j;unfold nQ nR at j;dsimp only at j;rw[a,c,e,if_neg (by decide),if_neg (by omega),bA D,uH,zU v (by omega),dL (by omega),dL (by omega),wr (by omega) (by omega)]at j;refine⟨wU o t &&& l,w,?_⟩
 by_cases z:wU o t &&& l=0
 ·rw[if_pos (by rw[z];rfl)]at j;have:=Option.some.inj j;obtain⟨rfl,_⟩:=Prod.mk.inj this;exact .inl ⟨z,rfl,⟨by dsimp only;omega,by dsimp only;omega⟩,rfl,rfl,rfl,by omega,q⟩
 ·rw[if_neg (by omega)]at j;have:=Option.some.inj j;obtain⟨rfl,_⟩:=Prod.mk.inj this;exact .inr ⟨z,rfl,⟨by dsimp only;omega,by dsimp only;omega⟩,rfl,rfl,rfl,by omega,s⟩
def guL:E:= .bi 41 (.lf 5 0) (.ag 21 (.lf 12 0))
def guE:E:= .bi 41 (.un 19 (.lf 5 0)) (.un 19 (.ag 21 (.lf 12 0)))
def RM:List RL:=[(guL,[(0,.lf 3 0)]),(guE,[(0,.lf 2 0)])]
def nbM (g:GR) (c:bO) (v:Nat):Prop:=∃i,i<(row g v).length∧Ng g c v i≠0
section
variable {p:BW} {g:GR} {c:List (List Int)} {v:Nat}
theorem afq:BX (bI p g) c v guL=Mt (decide (KU c v≠0)&&decide (Mt (((List.range (row g v).length).map λq=>Ng g c v q).any nz)≠0)):=rfl
theorem afp:BX (bI p g) c v guE=Mt (decide (Mt (decide (KU c v=0))≠0)&&decide (Mt (decide (Mt (((List.range (row g v).length).map λq=>Ng g c v q).any nz)=0))≠0)):=rfl
theorem Mu (b:Bool):Mt b≠0↔b=true:=by cases b<;>simp[Mt]
theorem agW (b:Bool):Mt b=0↔b=false:=by cases b<;>simp[Mt]
theorem Yu:((List.range (row g v).length).map λq=>Ng g c v q).any nz=true↔nbM g c v:=by
 unfold nbM;rw[List.any_eq_true];constructor
 ·rintro⟨x,d,b⟩;obtain⟨i,a,rfl⟩:=zB4.1 d;exact⟨i,zAm.1 a,by simpa [nz]using b⟩
 ·rintro⟨i,a,b⟩;exact⟨_,zB4.2 ⟨i,zAm.2 a,rfl⟩,by simpa [nz]using b⟩
theorem abv:((List.range (row g v).length).map λq=>Ng g c v q).any nz=false↔¬nbM g c v:=by
 rw[<-Yu];simp
theorem acP:BX (bI p g) c v guL≠0↔KU c v≠0∧nbM g c v:=by
 rw[afq,Mu,zA3,zA8,zA8,Mu,Yu]
theorem acO:BX (bI p g) c v guE≠0↔KU c v=0∧¬nbM g c v:=by
 rw[afp,Mu,zA3,zA8,zA8,Mu,Mu,zA8,zA8,agW,abv]
theorem aat (h:0<=tW (bI p g) RM c v):(tW (bI p g) RM c v=0∧KU c v≠0∧nbM g c v)∨(tW (bI p g) RM c v=1∧KU c v=0∧¬nbM g c v):=by
 obtain⟨i,b,a,d⟩:=(Nq (bI p g) RM c v).resolve_left (λe=>by omega);have a:i<2:=a
 match i,a with
 |0,_=>exact .inl ⟨b,acP.1 d⟩
 |1,_=>exact .inr ⟨b,acO.1 d⟩
theorem ahC (a:(at' c (v:Int)).length=1):at' (As (bI p g) Lw RM c v 0) 0=0:=by
 have e:As (bI p g) Lw RM c v 0=(at' c (v:Int)).set 0 0:=rfl;rw[e];have:=CX (at' c (v:Int)) 0 0 (0:Int) (by omega);rw[if_pos Z]at this;exact this
theorem ahD (a:(at' c (v:Int)).length=1):at' (As (bI p g) Lw RM c v 1) 0=1:=by
 have e:As (bI p g) Lw RM c v 1=(at' c (v:Int)).set 0 1:=rfl;rw[e];have:=CX (at' c (v:Int)) 0 0 (1:Int) (by omega);rw[if_pos Z]at this;exact this
end
def StM (g:GR) (c:bO) (v:Nat):Prop:=KU c v≠0∧¬nbM g c v
section
variable {p:BW} {g:GR} {c:List (List Int)} {lv t:Nat}
theorem XI (l:HC g c Lw) (h:∀i,t.testBit i=true->(oW (bI p g) RM lv c).testBit i=true):
  (∀v,t.testBit v=true->v<g.2.length∧((KU c v≠0∧nbM g c v∧KU (gT (bI p g) Lw RM c t) v=0)∨(KU c v=0∧¬nbM g c v∧KU (gT (bI p g) Lw RM c t) v=1)))∧∀v,v<g.2.length->t.testBit v=false->KU (gT (bI p g) Lw RM c t) v=KU c v:=by
 have k:=l.len;have f:∀v,v<g.2.length->at' (gT (bI p g) Lw RM c t) (v:Int)=if t.testBit v=true then As (bI p g) Lw RM c v (tW (bI p g) RM c v)else at' c (v:Int):=λv d=>JA (by rw[k];exact d);refine⟨λv d=> ?_,λv d n=> ?_⟩
 ·obtain⟨j,m,_⟩:=(Hh (bI p g) RM lv c v).1 (h v d);refine⟨j,?_⟩
  unfold KU;rw[f v j,if_pos d];rcases aat m with⟨e,a,b⟩|⟨e,a,b⟩
  ·rw[e];exact .inl ⟨a,b,ahC (l.row v j)⟩
  ·rw[e];exact .inr ⟨a,b,ahD (l.row v j)⟩
 ·unfold KU;rw[f v d,if_neg (by rw[n];decide)]
variable (hV:VG g) (hr:HC g c Lw) (hsub:∀i,t.testBit i=true->(oW (bI p g) RM lv c).testBit i=true)
 include hV hr hsub
theorem enterM (b:∀v u,t.testBit v=true->t.testBit u=true->¬NP g v u) {v:Nat} (j:t.testBit v=true) (h:KU c v=0):StM g (gT (bI p g) Lw RM c t) v:=by
 obtain⟨n,m⟩:=XI hr hsub;obtain⟨w,q⟩:=n v j;rcases q with⟨q,_⟩|⟨_,o,e⟩
 ·exact absurd h q
 ·refine⟨by rw[e];decide,?_⟩
  rintro⟨i,l,k⟩;obtain⟨u,s,d,a⟩:=hV.port w l;have f:t.testBit u=false:=by
   cases r:t.testBit u with
   |false=>rfl
   |true=>exact absurd a (b v u j r)
  rw[QA d,m u s f]at k;exact o ⟨i,l,by rw[QA d];exact k⟩
end
theorem KF {f h:Nat->Nat}:∀{n:Nat},(∀v,v<n->f v=h v)->TH f n=TH h n
 |0,_=>rfl
 |n+1,k=>by simp only[TH];rw[KF λv a=>k v (by omega),k n (by omega)]
theorem KG (f:Nat->Nat) (a:Nat):∀b,TH f (a+b)=TH f a+TH (λv=>f (a+v)) b
 |0=>rfl
 |b+1=>by show TH f (a+b)+f (a+b)=_;rw[KG f a b];simp only[TH];omega
def sK (t n:Nat):Nat:=TH (λv=>if t.testBit v=true then 1 else 0) n
theorem Ev (t:Nat) (n:Nat):sK t n<=n:=aaC λv _=>by split<;>omega
theorem Uj:∀i,i<256->at' JW ((i:Nat):Int)=((sK i 8:Nat):Int):=by
 have h:((List.range 256).all λi=>decide (at' JW ((i:Nat):Int)=((sK i 8:Nat):Int)))=true:=by decide +kernel
 intro i hi;exact zBg (zA4.1 h i (zAm.2 hi))
theorem Ub (t:Nat):sK t 24=sK (t / 2^16%256) 8+sK (t / 2^8%256) 8+sK (t%256) 8:=by
 have c:∀x,sK (x%256) 8=sK x 8:=λx=>KF λv e=>by
  rw[show(256:Nat)=2^8 from rfl,Nat.testBit_mod_two_pow,zA5 e,Bool.true_and]
 have d:∀k,sK (t / 2^k) 8=TH (λv=>if t.testBit (k+v)=true then 1 else 0) 8:=λk=>KF λv _=>by
  rw[Nat.testBit_div_two_pow,Nat.add_comm]
 rw[c,c,c,d,d];have a:=KG (λv=>if t.testBit v=true then 1 else 0) 16 8;have b:=KG (λv=>if t.testBit v=true then 1 else 0) 8 8;unfold sK;rw[show(24:Nat)=16+8 from rfl,a,show(16:Nat)=8+8 from rfl,b];omega
theorem adl {t:Nat} (ht:t<16777216):iW 1000 (t:Int)=some ((sK t 24:Nat):Int):=by
 have hb:(JW.length:Int)=256:=by decide +kernel
 have h255:∀a:Nat,a<4294967296->dD .u32 (a:Int) 255=((a%256:Nat):Int):=λa ha=>by
  rw[show(255:Int)=((255:Nat):Int)from rfl,zU ha (by omega),show(255:Nat)=2^8 - 1 from rfl,Nat.and_two_pow_sub_one_eq_mod]
 have hs:∀k:Nat,k<32->pQ .u32 (t:Int) (k:Int)=((t / 2^k:Nat):Int):=λk hk=>LG hk;have s24:pQ .u32 (t:Int) 24=((t / 2^24:Nat):Int):=hs 24 (by omega);have s16:pQ .u32 (t:Int) 16=((t / 2^16:Nat):Int):=hs 16 (by omega);have s8:pQ .u32 (t:Int) 8=((t / 2^8:Nat):Int):=hs 8 (by omega);have z24:t / 2^24=0:=Nat.div_eq_of_lt (by omega);unfold iW;rw[hb,s24,s16,s8,h255 _ (by omega),h255 _ (by omega),h255 _ (by omega),z24,cV (by decide),cV (by omega),cV (by decide),cV (by omega),cV (by decide),cV (by omega),cV (by omega)];have z0:at' JW ((0:Nat):Int)=0:=rfl;have w8:∀x:Int,0<=x->x<=100->wI .u8 x=x:=λx h1 h2=>by
  rw[FX];have:IntKind.u8.wrap x=x%256:=rfl;rw[this];omega
 have la:=Ev (t / 2^16%256) 8;have lb:=Ev (t / 2^8%256) 8;have lc:=Ev (t%256) 8;rw[Ub,Uj _ (show t / 2^16%256<256 by omega),Uj _ (show t / 2^8%256<256 by omega),Uj _ (show t%256<256 by omega),z0];generalize sK (t / 2^16%256) 8=A at *
 generalize sK (t / 2^8%256) 8=B at *
 generalize sK (t%256) 8=C at *
 rw[w8 (0+(A:Int)) (by omega) (by omega),w8 (0+(A:Int)+B) (by omega) (by omega),w8 (0+(A:Int)+B+C) (by omega) (by omega),wr (by omega) (by omega)];congr 1;omega
def PL (cnt:CT) (t en:Nat):CT:=
 (cnt.1+1,cnt.2.1+((sK t 24:Nat):Int),(if wU cnt.2.2.2.2.toNat t &&& en=0 then cnt.2.2.1+1 else cnt.2.2.1),cnt.2.2.1+1,(if wU cnt.2.2.2.2.toNat t &&& en=0 then(en:Int)else((wU cnt.2.2.2.2.toNat t &&& en:Nat):Int)))
theorem PM {k:Nat} {cnt:CT} {R B pe:Nat} (h:FG k cnt R B pe) (hk:k<900) {t en:Nat} (ht:t<16777216) (h0:t≠0) (hen:en<16777216):gV 1000 cnt (t:Int) (en:Int)=some (PL cnt t en,0)∧∃R' B' pe',FG (k+1) (PL cnt t en) R' B' pe':=by
 have hv:=h.valid (by omega);have key:gV 1000 cnt (t:Int) (en:Int)=some (PL cnt t en,0):=by
  obtain⟨a,b,c,d,e,f,g⟩:=h;have hn:=adl ht;have hn2:=Ev t 24;have hp:=GD [(t:Int),(en:Int)] (by simp) λx hx=>by
   have hx:x=(t:Int)∨x=(en:Int):=by simpa using hx
   rcases hx with rfl|rfl
   ·exact⟨t,rfl,ht⟩
   ·exact⟨en,rfl,hen⟩
  have hdl:wU pe t<4294967296:=Je pe t;unfold gV;rw[bA (show jU 1000 _=some true from hv),if_neg (by decide),if_neg (by omega),bA hp];unfold nQ nR PL;dsimp only;rw[a,c,e,zAh,if_neg (by decide),if_neg (by omega),bA hn,uH,zU hdl (by omega),dL (by omega),dL (by omega),wr (by omega) (by omega)];by_cases hz:wU pe t &&& en=0
  ·rw[if_pos (by rw[hz];rfl),if_pos hz,if_pos hz];rfl
  ·rw[if_neg (by omega),if_neg hz,if_neg hz];rfl
 refine⟨key,?_⟩
 obtain⟨pe',_,q|q⟩:=h.add hk ht h0 hen key
 ·exact⟨_,_,_,q.2⟩
 ·exact⟨_,_,_,q.2⟩
section
variable {C:Type} (en:C->Nat) (st:C->Nat->C) (rs:Nat->Int->Nat) (ws:List Int) (c0:C)
def cX:Nat->C
 |0=>c0
 |k+1=>st (cX k) (rs (en (cX k)) (at' ws (k:Int)))
def Jf (k:Nat):Nat:=en (cX en st rs ws c0 k)
def tX (k:Nat):Nat:=rs (Jf en st rs ws c0 k) (at' ws (k:Int))
def Fa:Nat->CT
 |0=>(0,0,0,0,((en c0:Nat):Int))
 |k+1=>PL (Fa k) (tX en st rs ws c0 k) (Jf en st rs ws c0 (k+1))
def Ml (k:Nat):Prop:=k<=ws.length∧(k=ws.length∨Jf en st rs ws c0 k=0)∧∀j,j<k->Jf en st rs ws c0 j≠0
theorem Ml.det {k j:Nat} (h:Ml en st rs ws c0 k) (f:Ml en st rs ws c0 j):k=j:=by
 obtain⟨g,a,b⟩:=h;obtain⟨i,c,d⟩:=f;rcases zAx k j with q|q|q
 ·have:=d k q;rcases a with e|e
  ·omega
  ·exact absurd e this
 ·exact q
 ·have:=b j q;rcases c with e|e
  ·omega
  ·exact absurd e this
def KH (k:Nat):List Int×List Int×C×CT:=(Eb ((List.range k).map (tX en st rs ws c0)),(List.range (k+1)).map (λj=>((Jf en st rs ws c0 j:Nat):Int)),cX en st rs ws c0 k,Fa en st rs ws c0 k)
end
section
variable {p:BW} {g:GR} {R:List RL}
theorem Ur (hV:VG g) (hp:jQ g p.2.1) (hz:p.2.2.map tH=Dx R) (hR:pC p.2.1.length R=true) {kind:Int} (hk1:1<=kind) (hk4:kind<=4) {c0:List (List Int)} (hc0:HC g c0 p.2.1) {ws:List Int} (hws:ws.length<=800) (hw:∀k:Nat,k<ws.length->∃m:Nat,at' ws (k:Int)=(m:Int)∧m<4294967296):
  ∃k,Ml (oW (bI p g) R (o_ g)) (gT (bI p g) p.2.1 R) (λe w=>vD g kind e w.toNat) ws c0 k∧
   pX 1000 p g kind c0 ws=some (KH (oW (bI p g) R (o_ g)) (gT (bI p g) p.2.1 R) (λe w=>vD g kind e w.toNat) ws c0 k,0):=by
 let en:=oW (bI p g) R (o_ g);let st:=gT (bI p g) p.2.1 R;let rs:Nat->Int->Nat:=λe w=>vD g kind e w.toNat;have en24:∀c,en c<16777216:=λc=>Gf.lt (g:=g) hV (DZ (bI p g) R (o_ g) c);obtain⟨net,hnet,hN⟩:=Nh hV;obtain⟨k,c,ch,cnt,ens,h1,⟨h2,h3,h4,h5,h6,_⟩,h7,h8,h9,h10,h11,h12⟩:=Up hV hp hz hR hk1 hk4 hc0 (ws:=ws) (by omega) hw
  (λk c ch cnt ens=>c=cX en st rs ws c0 k∧ch=(List.range k).map (tX en st rs ws c0)∧cnt=Fa en st rs ws c0 k∧ens=(List.range (k+1)).map (λj=>((Jf en st rs ws c0 j:Nat):Int))∧(∀j,j<k->Jf en st rs ws c0 j≠0)∧∃R' B pe,FG k cnt R' B pe)
  (by
   have hpe:dD .u32 ((en c0:Nat):Int) 16777215=((en c0:Nat):Int):=by
    have:=en24 c0;rw[show(16777215:Int)=((16777215:Nat):Int)from rfl,zU (by omega) (by omega),show(16777215:Nat)=2^24 - 1 from rfl,Nat.and_two_pow_sub_one_eq_mod,Nat.mod_eq_of_lt (by omega)]
   refine⟨rfl,rfl,?_,rfl,λj hj=>by omega,0,0,en c0,?_⟩
   ·show((0,0,0,0,dD .u32 ((en c0:Nat):Int) 16777215):CT)=_;rw[hpe];rfl
   ·refine⟨rfl,by dsimp only;omega,rfl,rfl,hpe,by omega,en24 c0⟩)
  (λk c ch cnt ens t cnt' err hk hsh hI hne ht0 hsub hind _ hres hadd=>by
   obtain⟨rfl,rfl,rfl,rfl,a5,R',B,pe,hc⟩:=hI;obtain⟨net',hn',hr'⟩:=hres;obtain rfl:net=net':=Option.some.inj (hnet.symm.trans hn');obtain⟨w,hwe,hw32⟩:=hw k hk;have heG:Gf g (en (cX en st rs ws c0 k)):=DZ (bI p g) R (o_ g) _;have ht:t=tX en st rs ws c0 k:=by
    have hX:=No hV hN kind heG hw32;rw[hwe]at hr';have:=Option.some.inj (hr'.symm.trans hX);have e2:tX en st rs ws c0 k=vD g kind (en (cX en st rs ws c0 k)) w:=by
     show vD g kind _ (at' ws (k:Int)).toNat=_;rw[hwe];rfl
    rw[e2];omega
   have htG:Gf g t:=λi hi=>heG i (hsub i hi);have ht24:=Gf.lt hV htG;have hc1:gT (bI p g) p.2.1 R (cX en st rs ws c0 k) t=cX en st rs ws c0 (k+1):=by rw[ht];rfl
   rw[hc1]at hadd ⊢;have hen1:oW (bI p g) R (o_ g) (cX en st rs ws c0 (k+1))=Jf en st rs ws c0 (k+1):=rfl;rw[hen1]at hadd ⊢;obtain⟨q1,q2⟩:=PM hc (by omega) ht24 ht0 (en24 _) (en:=Jf en st rs ws c0 (k+1));have hcc:cnt'=Fa en st rs ws c0 (k+1):=by
    have:=Option.some.inj (hadd.symm.trans q1);rw[(Prod.mk.inj this).1,ht];rfl
   refine⟨rfl,?_,hcc,?_,λj hj=> ?_,?_⟩
   ·rw[ht,zB2,zB8,zB1]
   ·rw[zB2 (n:=k+1),zB8,zB1]
   ·by_cases e:j<k
    ·exact a5 j e
    ·obtain rfl:j=k:=by omega
     exact hne
   ·rw[hcc,show Fa en st rs ws c0 (k+1)=PL (Fa en st rs ws c0 k) t (Jf en st rs ws c0 (k+1)) by rw[ht];rfl];exact q2)
 subst h2 h3 h4 h5;exact⟨k,⟨h8,h12,h6⟩,h1⟩
end
section
variable {p:BW} {g:GR} {R:List RL}
theorem Uq (hV:VG g) (hp:jQ g p.2.1) (hz:p.2.2.map tH=Dx R) (hR:pC p.2.1.length R=true) {kind:Int} (hk1:1<=kind) (hk4:kind<=4) {c0:List (List Int)} (hc0:HC g c0 p.2.1) {lv:Nat} (hlv:lv<4294967296) {ws:List Int} (hws:ws.length<=900) (hw:∀k:Nat,k<ws.length->∃m:Nat,at' ws (k:Int)=(m:Int)∧m<4294967296)
  (P:Nat->List (List Int)->List Nat->CT->List Int->Prop) (h0:P 0 c0 [] (0,0,0,0,dD .u32 ((oW (bI p g) R lv c0:Nat):Int) 16777215) [((oW (bI p g) R lv c0:Nat):Int)])
  (hstep:∀k c ch cnt ens t cnt' err,k<ws.length->oY g p.2.1.length c->P k c ch cnt ens->oW (bI p g) R lv c≠0->t≠0->(∀i,t.testBit i=true->(oW (bI p g) R lv c).testBit i=true)->(kind<=2->∀v u,t.testBit v=true->t.testBit u=true->¬NP g v u)->(kind=4->t=oW (bI p g) R lv c)->(∃net,jV 1000 g=some net∧cY 1000 net kind ((oW (bI p g) R lv c:Nat):Int) (at' ws (k:Int))=some (t:Int))->
   gV 1000 cnt (t:Int) ((oW (bI p g) R lv (gT (bI p g) p.2.1 R c t):Nat):Int)=some (cnt',err)->P (k+1) (gT (bI p g) p.2.1 R c t) (ch++[t]) cnt' (ens++[((oW (bI p g) R lv (gT (bI p g) p.2.1 R c t):Nat):Int)])):
  ∃k c ch cnt ens,gY 1000 p g kind c0 (lv:Int) ws=some ((Eb ch,ens,c,cnt),0)∧P k c ch cnt ens∧oY g p.2.1.length c∧k<=ws.length∧ch.length=k∧ens.length=k+1∧at' ens (k:Int)=((oW (bI p g) R lv c:Nat):Int)∧(k=ws.length∨oW (bI p g) R lv c=0):=by
 have h24:=hV.n24;have hvl:=hp.len;let S:=bI p g;have hVS:VG S.2.1:=hV;obtain⟨net,hnet,hN⟩:=Nh hV;have hcheck:kG 1000 p g kind c0 (ws.length:Int)=some 0:=by
  unfold kG;rw[bA (show kP 1000 _ _ c0=_ from Jb hV hp hc0),if_neg (by decide)];have:mA 1000 kind=some true:=by
   unfold mA mN;rw[if_pos hk1,zA5 hk4]
  rw[bA this,if_neg (by decide),if_neg (by omega)]
 unfold gY;rw[bA (show kG 1000 _ _ kind c0 _=_ from hcheck),if_neg (by decide),cV (by omega),aaw hV p kind c0 (lv:Int) ws];unfold mY qV;rw[bA (show iX 1000 _ _=_ from JP hV hp)];unfold qU;rw[bA (show jV 1000 _=_ from hnet),bA (show uN 1000 _=_ from Yt hV)];have hen:∀c,oY g p.2.1.length c->cM 1000 (p,(p,g,gO g g.2.length,fQ g),Cr g p.2.1) c=some ((Rj S R c:Nat):Int):=λc hc=>Iv hV hc hz hR (by simp[Cr]);have hand:∀c,dD .u32 ((Rj S R c:Nat):Int) (lv:Int)=((oW S R lv c:Nat):Int):=λc=>zU (MF hVS R c) hlv;unfold wQ;dsimp only;rw[bA (Qg c0 (by rw[hc0.len];omega) (λv hv=>by rw[hc0.row v (by rw[<-hc0.len];exact hv)];omega)),bA (show cM 1000 _ c0=_ from hen c0 hc0.shape),hand,bA (show pE 1000 _=some (0,0,0,0,dD .u32 ((oW S R lv c0:Nat):Int) 16777215)from rfl),bA (show lU 1000 _ _ _=some ()from rfl),cV (by simp),List.nil_append];let A20:Int×List Int×(List (List (Int×Int)))×Int×List (List Int):=(((2^g.2.length - 1:Nat):Int),net,Cr g p.2.1,gO g g.2.length,fQ g)
 have fin:∀k c ch cnt ens,P k c ch cnt ens->oY g p.2.1.length c->k<=ws.length->ch.length=k->ens.length=k+1->at' ens (k:Int)=((oW S R lv c:Nat):Int)->(k=ws.length∨oW S R lv c=0)->
   OK (λr:(List Int×List Int×List (List Int)×CT)×Int=>∃k c ch cnt ens,r=((Eb ch,ens,c,cnt),0)∧P k c ch cnt ens∧oY g p.2.1.length c∧k<=ws.length∧ch.length=k∧ens.length=k+1∧at' ens (k:Int)=((oW S R lv c:Nat):Int)∧(k=ws.length∨oW S R lv c=0)) (mX (ens,cnt.1,cnt.2.1,cnt.2.2.1,cnt.2.2.2.1,cnt.2.2.2.2,c,Eb ch)):=
  λk c ch cnt ens a1 a2 a3 a4 a5 a6 a7=>⟨_,rfl,k,c,ch,cnt,ens,rfl,a1,a2,a3,a4,a5,a6,a7⟩
 have key:=Fi (step:=mZ 1000 p g kind (lv:Int) ws A20) (Q:=λr:(List Int×List Int×List (List Int)×CT)×Int=>∃k c ch cnt ens,r=((Eb ch,ens,c,cnt),0)∧P k c ch cnt ens∧oY g p.2.1.length c∧k<=ws.length∧ch.length=k∧ens.length=k+1∧at' ens (k:Int)=((oW S R lv c:Nat):Int)∧(k=ws.length∨oW S R lv c=0))
  (λx=>∃(k:Nat) (c:List (List Int)) (ch:List Nat) (cnt:CT) (ens:List Int),x=(((oW S R lv c:Nat):Int),ens,(k:Int),cnt.1,cnt.2.1,cnt.2.2.1,cnt.2.2.2.1,cnt.2.2.2.2,c,Eb ch)∧P k c ch cnt ens∧oY g p.2.1.length c∧k<=ws.length∧ch.length=k∧ens.length=k+1∧at' ens (k:Int)=((oW S R lv c:Nat):Int)) (λx=>ws.length - x.2.2.1.toNat) (λx ag hI hrec=>by
  obtain⟨k,c,ch,cnt,ens,rfl,b1,b2,b3,b4,b5,b6⟩:=hI;unfold mZ;dsimp only;by_cases hlt:k<ws.length
  rotate_left
  ·rw[if_neg (by omega)];exact fin k c ch cnt ens b1 b2 b3 b4 b5 b6 (.inl (by omega))
  obtain⟨w,hwe,hw32⟩:=hw k hlt;have hin:Gf g (oW S R lv c):=DZ S R lv c;obtain⟨t,ht,hsub,hne⟩:=IF hV hN hk1 hk4 hin hw32;rw[if_pos (by omega),cV (by omega),hwe,bA (show cY 1000 net kind _ _=_ from ht)];unfold wS;dsimp only;by_cases he0:oW S R lv c=0
  ·rw[if_pos (by omega)];exact fin k c ch cnt ens b1 b2 b3 b4 b5 b6 (.inr he0)
  obtain⟨ht0,hperm,hk2,hk4'⟩:=hne he0;have ht32:t<4294967296:=by have:=Gf.lt hV (λi hi=>hin i (hsub i hi));omega
  rw[if_neg (by omega),bA (show fF 1000 net kind _ _=_ from hperm),if_neg (by decide)];have hst:f_ 1000 (p,(p,g,gO g g.2.length,fQ g),Cr g p.2.1) c (t:Int)=some (gT S p.2.1 R c t):=Wl (gr:=gO g g.2.length) hV hp b2 hz hR ht32 (λv hv=>((Hh S R lv c v).1 (hsub v hv)).2.1);have hsh:oY g p.2.1.length (gT S p.2.1 R c t):=b2.step;obtain⟨⟨cnt',err⟩,hadd⟩:=R_ cnt ht32 ((oW S R lv (gT S p.2.1 R c t):Nat):Int);rw[bA (show f_ 1000 _ c (t:Int)=_ from hst),bA (show cM 1000 _ _=_ from hen _ hsh),hand,bA (show gV 1000 _ (t:Int) _=_ from hadd),bA (show lU 1000 _ _ _=some ()from rfl),cV (by simp[Eb];omega),cV (by simp;omega),dL (by omega)];refine hrec _ ⟨k+1,gT S p.2.1 R c t,ch++[t],cnt',ens++[((oW S R lv (gT S p.2.1 R c t):Nat):Int)],by simp[Eb],hstep k c ch cnt ens t cnt' err hlt b2 b1 he0 ht0 hsub hk2 hk4' ⟨net,hnet,by rw[hwe];exact ht⟩ hadd,hsh,by omega,by simp[b4],by simp[b5],?_⟩ (by dsimp only;omega);exact LF (pre:=ens) (rest:=[]) (by simp) b5) 1000 (((oW S R lv c0:Nat):Int),[((oW S R lv c0:Nat):Int)],(0:Int),0,0,0,0,dD .u32 ((oW S R lv c0:Nat):Int) 16777215,c0,[])
  ⟨0,c0,[],(0,0,0,0,dD .u32 ((oW S R lv c0:Nat):Int) 16777215),[((oW S R lv c0:Nat):Int)],rfl,h0,hc0.shape,by omega,rfl,rfl,rfl⟩ (by dsimp only;omega)
 obtain⟨r,hr,k,c,ch,cnt,ens,rfl,hrest⟩:=key;exact⟨k,c,ch,cnt,ens,hr,hrest⟩
theorem KY (hV:VG g) (hp:jQ g p.2.1) (hz:p.2.2.map tH=Dx R) (hR:pC p.2.1.length R=true) {kind:Int} (hk1:1<=kind) (hk4:kind<=4) {c0:List (List Int)} (hc0:HC g c0 p.2.1) {lv:Nat} (hlv:lv<4294967296) {ws:List Int} (hws:ws.length<=800) (hw:∀k:Nat,k<ws.length->∃m:Nat,at' ws (k:Int)=(m:Int)∧m<4294967296):
  ∃k,Ml (oW (bI p g) R lv) (gT (bI p g) p.2.1 R) (λe w=>vD g kind e w.toNat) ws c0 k∧
   gY 1000 p g kind c0 (lv:Int) ws=some (KH (oW (bI p g) R lv) (gT (bI p g) p.2.1 R) (λe w=>vD g kind e w.toNat) ws c0 k,0):=by
 let en:=oW (bI p g) R lv;let st:=gT (bI p g) p.2.1 R;let rs:Nat->Int->Nat:=λe w=>vD g kind e w.toNat;have en24:∀c,en c<16777216:=λc=>Gf.lt (g:=g) hV (DZ (bI p g) R lv c);obtain⟨net,hnet,hN⟩:=Nh hV;obtain⟨k,c,ch,cnt,ens,h1,⟨h2,h3,h4,h5,h6,_⟩,h7,h8,h9,h10,h11,h12⟩:=Uq hV hp hz hR hk1 hk4 hc0 hlv (ws:=ws) (by omega) hw
  (λk c ch cnt ens=>c=cX en st rs ws c0 k∧ch=(List.range k).map (tX en st rs ws c0)∧cnt=Fa en st rs ws c0 k∧ens=(List.range (k+1)).map (λj=>((Jf en st rs ws c0 j:Nat):Int))∧(∀j,j<k->Jf en st rs ws c0 j≠0)∧∃R' B pe,FG k cnt R' B pe)
  (by
   have hpe:dD .u32 ((en c0:Nat):Int) 16777215=((en c0:Nat):Int):=by
    have:=en24 c0;rw[show(16777215:Int)=((16777215:Nat):Int)from rfl,zU (by omega) (by omega),show(16777215:Nat)=2^24 - 1 from rfl,Nat.and_two_pow_sub_one_eq_mod,Nat.mod_eq_of_lt (by omega)]
   refine⟨rfl,rfl,?_,rfl,λj hj=>by omega,0,0,en c0,?_⟩
   ·show((0,0,0,0,dD .u32 ((en c0:Nat):Int) 16777215):CT)=_;rw[hpe];rfl
   ·refine⟨rfl,by dsimp only;omega,rfl,rfl,hpe,by omega,en24 c0⟩)
  (λk c ch cnt ens t cnt' err hk hsh hI hne ht0 hsub hind _ hres hadd=>by
   obtain⟨rfl,rfl,rfl,rfl,a5,R',B,pe,hc⟩:=hI;obtain⟨net',hn',hr'⟩:=hres;obtain rfl:net=net':=Option.some.inj (hnet.symm.trans hn');obtain⟨w,hwe,hw32⟩:=hw k hk;have heG:Gf g (en (cX en st rs ws c0 k)):=DZ (bI p g) R lv _;have ht:t=tX en st rs ws c0 k:=by
    have hX:=No hV hN kind heG hw32;rw[hwe]at hr';have:=Option.some.inj (hr'.symm.trans hX);have e2:tX en st rs ws c0 k=vD g kind (en (cX en st rs ws c0 k)) w:=by
     show vD g kind _ (at' ws (k:Int)).toNat=_;rw[hwe];rfl
    rw[e2];omega
   have htG:Gf g t:=λi hi=>heG i (hsub i hi);have ht24:=Gf.lt hV htG;have hc1:gT (bI p g) p.2.1 R (cX en st rs ws c0 k) t=cX en st rs ws c0 (k+1):=by rw[ht];rfl
   rw[hc1]at hadd ⊢;have hen1:oW (bI p g) R lv (cX en st rs ws c0 (k+1))=Jf en st rs ws c0 (k+1):=rfl;rw[hen1]at hadd ⊢;obtain⟨q1,q2⟩:=PM hc (by omega) ht24 ht0 (en24 _) (en:=Jf en st rs ws c0 (k+1));have hcc:cnt'=Fa en st rs ws c0 (k+1):=by
    have:=Option.some.inj (hadd.symm.trans q1);rw[(Prod.mk.inj this).1,ht];rfl
   refine⟨rfl,?_,hcc,?_,λj hj=> ?_,?_⟩
   ·rw[ht,zB2,zB8,zB1]
   ·rw[zB2 (n:=k+1),zB8,zB1]
   ·by_cases e:j<k
    ·exact a5 j e
    ·obtain rfl:j=k:=by omega
     exact hne
   ·rw[hcc,show Fa en st rs ws c0 (k+1)=PL (Fa en st rs ws c0 k) t (Jf en st rs ws c0 (k+1)) by rw[ht];rfl];exact q2)
 subst h2 h3 h4 h5;exact⟨k,⟨h8,h12,h6⟩,h1⟩
end
theorem aem {n:Nat} (c:n<=24):nC 1000 (n:Int)=some ((2^n - 1:Nat):Int):=by
 have e:∀k,pY (λ_=>true) k=2^k - 1:=λk=>Ht λi=>by rw[Hs,zBb,Bool.and_true]
 rw[<-e];unfold nC;refine cQ (F:=λv:Nat=>(((pY (λ_=>true) v:Nat):Int),(v:Int))) n (λv a d=> ?_) (λa=> ?_) 1000 (by omega)
 ·have b:=Hr (λ_=>true) (k:=v) (by omega);unfold Av Au;dsimp only;rw[if_pos (by omega),zA5 (by omega),if_pos Z,XN (by omega),cV (by omega),Gn b (by omega),dL (by omega)];rfl
 ·unfold Av Au CP;dsimp only;rw[if_neg (by omega),if_neg (by decide)]
theorem Zk {g:GR} (a:VG g) {e:Nat} (b:Gf g e):wU e (2^g.2.length - 1)=0:=by
 have f:=a.n24;have c:=b.lt a;have d:2^g.2.length - 1<4294967296:=Vg a;refine Ht λv=> ?_;rw[Bf (by omega) d,zBb,zBf];cases h:e.testBit v with
 |false=>rfl
 |true=>rw[zA5 (b v h)];rfl
theorem ZP {m:Nat} (hm:m<4294967296):tA 1000 (m:Int)=some ((NU m:Nat):Int):=by
 unfold tA;by_cases h0:m=0
 ·rw[h0,Hp];refine cQ (step:=oJ 1000 ((0:Nat):Int)) 32 (λk=>(k:Int)) (λk ag hk=> ?_) (λag=> ?_) 1000 (by omega)
  ·unfold oJ;rw[if_pos (by omega),bA (Gv (by omega) hk),if_neg (by simp),dL (by omega)]
  ·rfl
 ·obtain⟨k,hk⟩:=Fl h0;have hk32:k<32:=Gp hm hk.bit;rw[LX hk];refine cQ (step:=oJ 1000 (m:Int)) k (λj=>(j:Int)) (λj ag hj=> ?_) (λag=> ?_) 1000 (by omega)
  ·unfold oJ;rw[if_pos (by omega),bA (Gv hm (by omega)),hk.low j hj,if_neg (by decide),dL (by omega)]
  ·unfold oJ;rw[if_pos (by omega),bA (Gv hm hk32),hk.bit,if_pos Z,XN hk32,cV (by omega),Yz hk32]
theorem acM {g:GR} (hV:VG g) {W:Nat} (hW:Gf g W):rH 1000 g (W:Int)=some ((FY g W 32:Nat):Int):=by
 have h24:=hV.n24;have hW24:=hW.lt hV;rw[Ji (s:=g.2.length) (k:=32) (by omega) λi h1 _=>by
  cases hx:W.testBit i with
  |false=>rfl
  |true=>have:=hW i hx;omega]
 unfold rH;refine cQ (step:=mP 1000 g (W:Int)) g.2.length (λk=>(((FY g W k:Nat):Int),(k:Int))) (λk ag hk=> ?_) (λag=> ?_) 1000 (by omega)
 ·have h32:=ZB (g:=g) (W:=W) (k:=k) (by omega);unfold mP yJ sS;dsimp only;rw[if_pos (by omega),bA (Gv (by omega) (by omega)),XN (by omega),dL (by omega)];cases hb:W.testBit k with
  |false=>
   rw[if_neg (by decide),if_neg (by decide),FY,if_neg (λq=>by rw[hb]at q;exact absurd q.1 (by decide))]
  | true =>
   have hm32:=Hr (λv=>CE (NR g (FY g W k) v) (row g v).length) (k:=g.2.length) (by omega);rw[if_pos Z,bA (show oA 1000 _ _=_ from NX hV h32),bA (Gv hm32 (by omega))];have hnb:(pY (λv=>CE (NR g (FY g W k) v) (row g v).length) g.2.length).testBit k=true↔∃u,NP g k u∧(FY g W k).testBit u=true:=by
    rw[Hs,zA3,zA8,Sa];constructor
    ·rintro⟨_,i,hi,h⟩;obtain⟨u,hu,he⟩:=hV.to hk hi;refine⟨u,⟨i,hi,he⟩,?_⟩
     unfold NR at h;rw[he]at h;exact h
    ·rintro⟨u,⟨i,hi,he⟩,h⟩;refine⟨hk,i,hi,?_⟩
     unfold NR;rw[he];exact h
   cases hx:(pY (λv=>CE (NR g (FY g W k) v) (row g v).length) g.2.length).testBit k with
   |true=>
    obtain⟨u,h1,h2⟩:=hnb.1 hx;rw[Bool.not_true,if_neg (by decide),FY,if_neg (λq=>q.2 u h2 h1)]
   |false=>
    rw[Bool.not_false,if_pos Z,cV (by omega),Gn h32 (by omega),FY,if_pos ⟨hb,λu h2 h1=>by rw[hnb.2 ⟨u,h1,h2⟩]at hx;cases hx⟩]
 ·unfold mP yI;dsimp only;rw[if_neg (by omega)]
theorem aaq {g:GR} (hV:VG g) {kind:Int} (hk1:1<=kind) (hk4:kind<=4) {e w:Nat} (he:Gf g e) (h0:e≠0) (hw:w<4294967296):sP 1000 g kind (e:Int) (w:Int)=some ((vD g kind e w:Nat):Int):=by
 have h24:=hV.n24;have he24:=he.lt hV;have hv:lT 1000 kind=some true:=by
  unfold lT oK;rw[if_pos hk1,zA5 hk4]
 have hpos:rI 1000 g kind (e:Int)=some true:=by
  unfold rI mI;rw[bA (show iZ 1000 _=some true from(Fv g).1 hV),if_pos Z,bA hv,if_pos Z,bA (aem h24),uH,Zk hV he];rfl
 unfold sP;rw[bA (show rI 1000 _ kind _=_ from hpos),if_neg (by decide),zA7 (by omega)];have hWG:Gf g (EO e w):=λi hi=>he i (Pr hi);have hW32:=Tw (e:=e) (w:=w) (by omega) hw;have e1:rQ 1000 g kind (e:Int) (w:Int) false=rR 1000 g kind (e:Int) ((EO e w:Nat):Int):=by
  unfold rQ EO;rw[if_neg (by decide),zU hw (by omega)];by_cases hz:w &&& e=0
  ·rw[hz,if_pos (show((0:Nat):Int)=0 from rfl),if_pos Z,bA (ZP (by omega))]
  ·rw[if_neg (by omega),if_neg hz]
 rw[e1];unfold vD;generalize EO e w=W at hW32 hWG ⊢;unfold afJ rR;by_cases k1:kind=1
 ·rw[if_pos k1,if_pos k1,bA (ZP hW32)]
 rw[if_neg k1,if_neg k1];by_cases k2:kind=2
 ·rw[if_pos k2,if_pos k2,bA (show rH 1000 _ _=_ from acM hV hWG)]
 rw[if_neg k2,if_neg k2];by_cases k4:kind=4
 ·rw[if_pos k4,if_pos k4]
 ·rw[if_neg k4,if_neg k4]
theorem Wb {g:GR} (hV:VG g) {kind:Int} (hk1:1<=kind) (hk4:kind<=4) {e w:Nat} (he:Gf g e) (h0:e≠0) (hw:w<4294967296):vD g kind e w≠0∧∀i,(vD g kind e w).testBit i=true->e.testBit i=true:=by
 obtain⟨net,hnet,hN⟩:=Nh hV;obtain⟨t,ht,hsub,hne⟩:=IF hV hN hk1 hk4 he hw;have:=Option.some.inj (ht.symm.trans (No hV hN kind he hw));obtain rfl:t=vD g kind e w:=by omega
 exact⟨(hne h0).1,hsub⟩
theorem afa {t:Nat} (ht:t<16777216):xA 1000 (t:Int)=some ((sK t 24:Nat):Int):=by
 have e32:sK t 32=sK t 24:=by
  have z:∀d,sK t (24+d)=sK t 24:=λd=>by
   induction d with
   |zero=>rfl
   |succ d ih=>
    have hb:t.testBit (24+d)=false:=Nat.testBit_lt_two_pow (zAj (show t<2^24 by omega) (Nat.pow_le_pow_right (by omega) (by omega)));show TH _ (24+d+1)=_;rw[TH,hb,if_neg (by decide)];exact ih
  exact z 8
 rw[<-e32];unfold xA;refine cQ (step:=rP 1000 (t:Int)) 32 (λk=>(((sK t k:Nat):Int),(k:Int))) (λk ag hk=> ?_) (λag=> ?_) 1000 (by omega)
 ·have hl:=Ev t k;unfold rP vC;dsimp only;rw[if_pos (by omega),bA (Gv (by omega) hk),dL (by omega),dL (by omega)];have e:sK t (k+1)=sK t k+if t.testBit k=true then 1 else 0:=by unfold sK;rw[TH]
  rw[e];cases hb:t.testBit k with
  |true=>rw[if_pos Z,if_pos Z]
  |false=>rw[if_neg (by decide),if_neg (by decide)];rfl
 ·unfold rP AI;dsimp only;rw[if_neg (by decide)]
theorem Zj {a:Nat} (c:a<16777216):wU a (2^24 - 1)=0:=by
 refine Ht λv=> ?_;rw[Bf (by omega) (by decide),zBb,zBf];cases b:a.testBit v with
 |false=>rfl
 | true =>
  have:v<24:=Nat.lt_of_not_le λh=>by
   rw[Nat.testBit_lt_two_pow (zAj (show a<2^24 by omega) (Nat.pow_le_pow_right (by omega) h))]at b;cases b
  rw[zA5 this];rfl
theorem ail {k:Nat} {cnt:CT} {R B pe:Nat} (h:FG k cnt R B pe) (hk:k<900) {t en:Nat} (ht:t<16777216) (h0:t≠0) (hen:en<16777216):zN 1000 cnt (t:Int) (en:Int)=some (PL cnt t en,0):=by
 obtain⟨a,b,c,d,e,f,g⟩:=h;have hn2:=Ev t 24;have hall:nC 1000 24=some ((2^24 - 1:Nat):Int):=aem (n:=24) (by omega);have hv:xC 1000 cnt=some true:=by
  unfold xC;rw[a,c,d,if_neg (by omega),if_neg (by omega),wr (by omega) (by omega),if_neg (by omega),zA7 (by omega)];unfold rS oL;rw[a,if_neg (by decide),if_pos (by omega),if_pos b.1,wr (by omega) (by omega),if_pos b.2,bA hall,e,uH,Zj g];rfl
 have hor:t ||| en<16777216:=Nat.or_lt_two_pow (n:=24) ht hen;unfold zN;rw[bA (show xC 1000 _=some true from hv),if_neg (by decide),if_neg (by omega),bA hall,agX (by omega) (by omega),uH,Zj hor,zA7 (by decide)];unfold CQ AJ PL;have hdl:wU pe t<4294967296:=Je pe t;dsimp only;rw[a,c,e,zAh,if_neg (by decide),if_neg (by omega),bA (afa ht),uH,zU hdl (by omega),dL (by omega),dL (by omega),wr (by omega) (by omega)];by_cases hz:wU pe t &&& en=0
 ·rw[if_pos (by rw[hz];rfl),if_pos hz,if_pos hz];rfl
 ·rw[if_neg (by omega),if_neg hz,if_neg hz];rfl
theorem agV {e:Nat} (a:e<16777216):dD .u32 (e:Int) ((2^24 - 1:Nat):Int)=(e:Int):=by
 rw[zU (by omega) (by decide),Nat.and_two_pow_sub_one_eq_mod,Nat.mod_eq_of_lt (by omega)]
section
variable {p:BW} {g:GR} {R:List RL}
theorem Wg (d:VG g) (u:jQ g p.2.1) {a:Int} (l:1<=a) (n:a<=4) {c:List (List Int)} (f:HC g c p.2.1) {lv:Nat} {b:List Int} (r:b.length<=800) (v:∀k:Nat,k<b.length->∃m:Nat,at' b (k:Int)=(m:Int)∧m<4294967296):
  ∀j,j<=b.length->(∀i,i<j->Jf (oW (bI p g) R lv) (gT (bI p g) p.2.1 R) (λe w=>vD g a e w.toNat) b c i≠0)->
   HC g (cX (oW (bI p g) R lv) (gT (bI p g) p.2.1 R) (λe w=>vD g a e w.toNat) b c j) p.2.1∧∃s B x,FG j (Fa (oW (bI p g) R lv) (gT (bI p g) p.2.1 R) (λe w=>vD g a e w.toNat) b c j) s B x
 |0,_,_=>⟨f,0,0,oW (bI p g) R lv c,rfl,by dsimp only[Fa];omega,rfl,rfl,rfl,by omega,Gf.lt (g:=g) d (DZ (bI p g) R lv c)⟩
 | j + 1, hj, hne => by
  obtain⟨A,s,B,x,C⟩:=Wg d u l n f r v j (by omega) (λi t=>hne i (by omega));refine⟨KA (S:=bI p g) u A,?_⟩
  obtain⟨w,q,o⟩:=v j (by omega);have h:Gf g (Jf (oW (bI p g) R lv) (gT (bI p g) p.2.1 R) (λe w=>vD g a e w.toNat) b c j):=DZ (bI p g) R lv _;have D:tX (oW (bI p g) R lv) (gT (bI p g) p.2.1 R) (λe w=>vD g a e w.toNat) b c j=vD g a (Jf (oW (bI p g) R lv) (gT (bI p g) p.2.1 R) (λe w=>vD g a e w.toNat) b c j) w:=by
   show vD g a _ (at' b (j:Int)).toNat=_;rw[q];rfl
  obtain⟨y,z⟩:=Wb d l n h (hne j (by omega)) o;rw[<-D]at y z;exact(PM C (by omega) (Gf.lt d λi t=>h i (z i t)) y (Gf.lt (g:=g) d (DZ (bI p g) R lv _))).2
theorem So (f:VG g) {d lv:Nat} (k:d<4294967296) (a:∀i,i<32->lv.testBit i = !d.testBit i) (c:List (List Int)):wU (Rj (bI p g) R c) d=oW (bI p g) R lv c:=by
 have b:VG (bI p g).2.1:=f;have j:=f.n24;have e:=MF b R c;refine Ht λv=> ?_;rw[Bf e k];unfold oW;rw[zBd];by_cases l:v<32
 ·rw[a v l]
 ·have:(Rj (bI p g) R c).testBit v=false:=by
   rw[LN];have:¬v<(bI p g).2.1.2.length:=λh=>by
    have h:v<g.2.length:=h;omega
   rw[zA7 this];rfl
  rw[this];rfl
theorem Xi (hV:VG g) (hp:jQ g p.2.1) (hA:KQ p g R) (hz:p.2.2.map tH=Dx R) (hR:pC p.2.1.length R=true) {kind:Int} (hk1:1<=kind) (hk4:kind<=4) {c0:List (List Int)} (hc0:HC g c0 p.2.1) {d lv:Nat} (hd:d<4294967296) (hlvb:∀i,i<32->lv.testBit i = !d.testBit i) {ws:List Int} (hws:ws.length<=800) (hw:∀k:Nat,k<ws.length->∃m:Nat,at' ws (k:Int)=(m:Int)∧m<4294967296)
  {k:Nat} (hS:Ml (oW (bI p g) R lv) (gT (bI p g) p.2.1 R) (λe w=>vD g kind e w.toNat) ws c0 k):
  oC 1000 p g kind c0 (d:Int) ws=some (KH (oW (bI p g) R lv) (gT (bI p g) p.2.1 R) (λe w=>vD g kind e w.toNat) ws c0 k,0):=by
 let en:=oW (bI p g) R lv;let st:=gT (bI p g) p.2.1 R;let rs:Nat->Int->Nat:=λe w=>vD g kind e w.toNat;obtain⟨hk,hend,hne⟩:=hS;have hvl:=hp.len;have h24:=hV.n24;have hcl:=hc0.len;have enI:∀c,Gf g (en c):=λc=>DZ (bI p g) R lv c;have en24:∀c,en c<16777216:=λc=>(enI c).lt hV;have hEn:∀c,HC g c p.2.1->g_ 1000 p g c (d:Int)=some ((en c:Nat):Int):=λc hc=>by
  unfold g_;rw[bA (show pF 1000 _ _ c=_ from Rp hV hp hA hc hz hR),uH,So hV hd hlvb]
 have hv:lT 1000 kind=some true:=by
  unfold lT oK;rw[if_pos hk1,zA5 hk4]
 have hB:xB 1000 ((en c0:Nat):Int)=some (0,0,0,0,((en c0:Nat):Int)):=by
  unfold xB;rw[bA (show nC 1000 24=some ((2^24 - 1:Nat):Int)from aem (n:=24) (by omega)),agV (en24 c0)]
 unfold oC;rw[bA (show kL 1000 _ _ c0=_ from Qc hV hp hc0),if_neg (by decide),bA hv,if_neg (by decide),if_neg (by omega),bA (show g_ 1000 _ _ c0 _=_ from hEn c0 hc0),bA (adL c0 (by omega) (λv hv=>by rw[hc0.row v (by omega)];omega)),bA (show xB 1000 _=_ from hB)];refine cQ (step:=mQ 1000 p g kind (d:Int) ws) k (λj=>(((Jf en st rs ws c0 j:Nat):Int),(j:Int),Eb ((List.range j).map (tX en st rs ws c0)),(Fa en st rs ws c0 j).1,(Fa en st rs ws c0 j).2.1,(Fa en st rs ws c0 j).2.2.1,(Fa en st rs ws c0 j).2.2.2.1,(Fa en st rs ws c0 j).2.2.2.2,cX en st rs ws c0 j,(List.range (j+1)).map (λj=>((Jf en st rs ws c0 j:Nat):Int)))) (λj ag hj=> ?_) (λag=> ?_) 1000 (by omega)
 ·obtain⟨q1,R',B,pe,q2⟩:=Wg hV hp hk1 hk4 hc0 (lv:=lv) hws hw j (by omega) (λi hi=>hne i (by omega));obtain⟨w,hwe,hw32⟩:=hw j (by omega);have hj0:Jf en st rs ws c0 j≠0:=hne j hj;have heG:Gf g (Jf en st rs ws c0 j):=enI _;have ht:tX en st rs ws c0 j=vD g kind (Jf en st rs ws c0 j) w:=by
   show vD g kind _ (at' ws (j:Int)).toNat=_;rw[hwe];rfl
  obtain⟨r1,r2⟩:=Wb hV hk1 hk4 heG hj0 hw32;have hres:=aaq hV hk1 hk4 heG hj0 hw32;rw[<-ht]at r1 r2 hres;have htG:Gf g (tX en st rs ws c0 j):=λi hi=>heG i (r2 i hi);have ht24:=htG.lt hV;have hst:=ahP hV hp hA q1 hz hR (t:=tX en st rs ws c0 j) (by omega) r1 (λv hv=>by
   have h:=r2 v hv;have h:(Rj (bI p g) R _ &&& lv).testBit v=true:=h;rw[zBd,zA3]at h;exact h.1)
  have hc1:HC g (cX en st rs ws c0 (j+1)) p.2.1:=KA (S:=bI p g) hp q1;have hen1:g_ 1000 p g (gT (bI p g) p.2.1 R (cX en st rs ws c0 j) (tX en st rs ws c0 j)) (d:Int)=some ((Jf en st rs ws c0 (j+1):Nat):Int):=hEn _ hc1;have hadd:zN 1000 (Fa en st rs ws c0 j) ((tX en st rs ws c0 j:Nat):Int) ((Jf en st rs ws c0 (j+1):Nat):Int)=some (Fa en st rs ws c0 (j+1),0):=ail q2 (by omega) ht24 r1 (en24 _);have f1:Eb ((List.range (j+1)).map (tX en st rs ws c0))=Eb ((List.range j).map (tX en st rs ws c0))++[((tX en st rs ws c0 j:Nat):Int)]:=by
   rw[zB2,zB8,zB1];simp[Eb]
  have f2:(List.range (j+1+1)).map (λj=>((Jf en st rs ws c0 j:Nat):Int))=(List.range (j+1)).map (λj=>((Jf en st rs ws c0 j:Nat):Int))++[((Jf en st rs ws c0 (j+1):Nat):Int)]:=by
   rw[zB2 (n:=j+1),zB8,zB1]
  unfold mQ sT Cn;dsimp only;rw[if_pos (by omega),zA5 (by omega),if_pos Z,cV (by omega),hwe,bA (show sP 1000 _ kind _ _=_ from hres),bA (show Am 1000 _ _ _ _=_ from hst),bA (show g_ 1000 _ _ _ _=_ from hen1),cV (by simp[Eb];omega),cV (by simp;omega),bA (show zN 1000 _ _ _=_ from hadd),dL (by omega),f1,f2];rfl
 ·unfold mQ sT yK;dsimp only;rcases hend with e|e
  ·rw[if_neg (by omega),if_neg (by decide)];rfl
  ·have e:Jf en st rs ws c0 k=0:=e;rw[e];have hd0:decide (((0:Nat):Int)≠0)=false:=rfl;rw[hd0];split<;>(rw[if_neg (by decide)];rfl)
end
end Go.Proofs.YtahgemjmgopleaaGreatDoor
namespace Go.Proofs.YtahgemjmgopleaaGreatDoor
open Go.Sx
def BC  (a:Unit):Option Bool:=
 some (true)
def xF (U:Nat) (c:bO) (e:bO) (a:Int) (b:(Int)->Option Bool):Option Bool:=
 if a<(c.length:Int)then(ck (0<=a∧a<(c.length:Int)) (ck (0<=a∧a<(e.length:Int)) (Option.bind (vV U (at' c a) (at' e a)) λd=>(if(!d)=true then(some (false))else(b (wI .i64 (a+(1:Int))))))))else(BC  (()))
def CK (U:Nat) (a:bO) (b:bO):Option Bool:=
 if(a.length:Int)≠(b.length:Int)then(some (false))else(bL (xF U a b) U (0:Int))
theorem aey:aU Tryz.prog 42:=Tryz.call42
theorem QQ (U:Nat) {f:bO} {g:bO} (j:Value)  (p:lO)  (k:Value)  (q:lO) (r:Bool) (h:CK U f g=some r):
  aW Tryz.prog 42 #[j,k] [S2 bR j p f,S2 bR k q g] (λx:Unit=>vB (r)) (λx l=>l) (λ_ l=>l):=by
 refine aW.of Tryz.func42 Z Tryz.ntmps42 Z λc=>?_;refine aT<|aB Z<|aL<|aK<|aT<|aA Z<|aC (gE Z (aD.fact 0 Z) Z) Z<|aA Z<|aC (gE Z (aD.fact 1 Z) Z) Z<|kH Z<|aL ?_;refine dY h Z (λh=>?_) λh=>?_
 ·refine aT<|aB Z<|aL<|aR<|aI ?_;cases h;exact gF Z
 refine cD<|aK<|dQ (λe=>BC  e=some r) (λe n=>[]) (λe n=>[]) ?_ ?_
 ·refine aT<|aB Z<|aL<|aS<|dZ (xF U f g) (λd o=>[(0,j),(1,k),(5,vI (d))]) (λd o=>[]) (0:Int) () h SF (a_.refl _) ?_;intro t d o h;refine aK<|aT<|aA Z<|aA Z<|aC (gE Z (aD.fact 0 Z) Z) Z<|cN Z<|aL ?_;refine dY h Z (λh=>?_) λh=>?_
  ·refine cD<|aK<|aS<|aK ?_;refine JR.start [0,0,3,7,0,0,48,112,255,511] 8 mixedOrders (by decide +kernel) ?_;refine zBl (by exact rfl) ?_;refine aX Z<|aX Z<|dB h λa h=>bG Z .nil (iI 0 Z) (b_ Z Z (aD.fact 0 Z) Z Z a) aP.z<|bG Z .nil (iI 0 Z) (bX Z (aD.fact 0 Z) Z Z a) aP.z<|aX Z<|aX Z<|dB h λb h=>bG Z .nil (iI 1 Z) (b_ Z Z (aD.fact 0 Z) Z Z b) aP.z<|bG Z .nil (iI 1 Z) (bX Z (aD.fact 0 Z) Z Z b) aP.z<|bK 8 Z Z<|dN h λi m h=>aG (zBi aeE (KD U ((at' p d).1) ((at' q d).1) i m) Z (aE.cons (zBj (aD.fact 0 Z) a.1 a.2) (aE.cons (zBj (aD.fact 1 Z) b.1 b.2) .nil))) Z λs=>aC (jC Z) Z<|aL ?_;refine tP h Z (λ_ h=>?_) λ_ h=>?_
   ·refine aT<|aB Z<|aL<|aR<|bE<|aI<|aI<|bE<|aI ?_;cases h;exact gF Z
   refine cU<|jE<|aO<|aA Z<|cB Z<|aB Z<|aL ?_;exact uG (wI .i64 (d+(1:Int))) () h SF Z
  refine eR ?_;exact fE () (()) h SF Z
 intro e n h;unfold BC at h;refine aT<|aB Z<|aL<|aR ?_;cases h;exact gF Z
end Go.Proofs.YtahgemjmgopleaaGreatDoor
namespace Go.Proofs.YtahgemjmgopleaaGreatDoor
open Go Go.Sx
theorem afN (c:bO) (h:c.length<=900) (d:∀v:Nat,v<c.length->(at' c (v:Int)).length<=30):CK 1000 c c=some true:=by
 unfold CK;rw[if_neg (by simp)];refine cQ (step:=xF 1000 c c) c.length (λk=>(k:Int)) (λk a b=> ?_) (λa=> ?_) 1000 (by omega)
 ·unfold xF;rw[if_pos (by omega),cV (by omega),cV (by omega),bA (NY _ (d k b)),if_neg (by decide),dL (by omega)]
 ·unfold xF BC;rw[if_neg (by omega)]
abbrev SL:(List Int×List Int×bO×CT)×Int:=(([],[],[],(0,0,0,0,0)),12)
section
variable {p:BW} {g:GR}
theorem VA (d:VG g) (f:jQ g p.2.1) {a:Int} (e:¬(1<=a∧a<=4)) {b:List (List Int)} (c:HC g b p.2.1) (n:Int):kG 1000 p g a b n=some 12:=by
 have:mA 1000 a=some false:=by
  unfold mA mN;by_cases h:1<=a
  ·rw[if_pos h,zA7 (λq=>e ⟨h,q⟩)]
  ·rw[if_neg h]
 unfold kG;rw[bA (show kP 1000 _ _ b=_ from Jb d f c),if_neg (by decide),bA this,if_pos (by decide)]
theorem Zz (c:VG g) (e:jQ g p.2.1) {kind:Int} (d:¬(1<=kind∧kind<=4)) {a:List (List Int)} (b:HC g a p.2.1) (ws:List Int):pX 1000 p g kind a ws=some SL:=by
 unfold pX;rw[bA (show kG 1000 _ _ kind a _=_ from VA c e d b _),if_pos (by decide)]
theorem adH {a:Int} (b:¬(1<=a∧a<=4)):lT 1000 a=some false:=by
 unfold lT oK;by_cases h:1<=a
 ·rw[if_pos h,zA7 (λq=>b ⟨h,q⟩)]
 ·rw[if_neg h]
end
theorem Lh {p:BW} {g:GR} (hV:VG g) (hp:jQ g p.2.1) {R:List RL} {kind:Int} {c0:List (List Int)} (hc0:HC g c0 p.2.1) {lv:Nat} {ws:List Int} (hws:ws.length<=800) {k:Nat} (hk:k<=ws.length):
  let t:=KH (oW (bI p g) R lv) (gT (bI p g) p.2.1 R) (λe w=>vD g kind e w.toNat) ws c0 k
  t.1.length<=900∧t.2.1.length<=900∧t.2.2.1.length<=900∧∀v:Nat,v<t.2.2.1.length->(at' t.2.2.1 (v:Int)).length<=30:=by
 have h24:=hV.n24;have hvl:=hp.len;have hc:∀k,HC g (cX (oW (bI p g) R lv) (gT (bI p g) p.2.1 R) (λe w=>vD g kind e w.toNat) ws c0 k) p.2.1:=λk=>by
  induction k with
  |zero=>exact hc0
  |succ k ih=>exact KA (S:=bI p g) hp ih
 have hl:=(hc k).len;refine⟨by simp[KH,Eb];omega,by simp[KH];omega,by show(cX (oW (bI p g) R lv) (gT (bI p g) p.2.1 R) (λe w=>vD g kind e w.toNat) ws c0 k).length<=900;omega,λv hv=> ?_⟩
 have hv:v<(cX (oW (bI p g) R lv) (gT (bI p g) p.2.1 R) (λe w=>vD g kind e w.toNat) ws c0 k).length:=hv;have:=(hc k).row v (by omega);show(at' (cX (oW (bI p g) R lv) (gT (bI p g) p.2.1 R) (λe w=>vD g kind e w.toNat) ws c0 k) (v:Int)).length<=30;omega
def guC:E:= .ag 21 (.bi 35 (.lf 12 0) (.lf 5 0))
def vaC:E:= .ag 27 (.lf 12 0)
def RC:List RL:=[(guC,[(0,vaC)])]
theorem Hy:pC 1 RC=true:=by decide +kernel
theorem loC (g:GR) (v:Nat):lo g (at' FE ((0:Nat):Int)) v=0:=rfl
theorem hiC (g:GR) (v:Nat):hi g (at' FE ((0:Nat):Int)) v=(g.2.length:Int):=by
 show(0:Int)+1*(g.2.length:Int)+0*gO g g.1.length=_;omega
theorem ahW {g:GR} (c:VG g):jQ g FE:=by
 have b:=c.n24;refine⟨by decide,Wj,λx a=> ?_,λx a _=> ?_⟩
 ·obtain rfl:x=0:=by simp[FE]at a;exact a
  exact .inl Z
 ·obtain rfl:x=0:=by simp[FE]at a;exact a
  rw[loC,hiC];omega
theorem abw (f:Nat) (x y:Int):w_ f 35 x y=some (Mt (decide (x=y))):=by
 unfold w_;rw[if_neg (by decide),if_neg (by decide),if_neg (by decide),if_neg (by decide),if_neg (by decide),if_pos Z,bA (aaE f _)]
theorem Y_ {g:GR} {c:bO} {b:Int} (d:b<=1000) (h:∀v:Nat,v<g.2.length->0<=KU c v∧KU c v<=b) {v:Nat} (a:v<g.2.length):TS (KU c v):=by
 have:=h v a;exact⟨by omega,by omega⟩
theorem adj {g:GR} {c:bO} {b:Int} (e:VG g) (f:b<=1000) (h:∀v:Nat,v<g.2.length->0<=KU c v∧KU c v<=b) {v:Nat} (j:v<g.2.length) {q:Nat} (i:q<(row g v).length):TS (Ng g c v q):=by
 obtain⟨u,a,d⟩:=e.to j i;rw[QA d];exact Y_ f h a
theorem afH {p:BW} {g:GR} (e:VG g) (t:p.2.1=FE):KQ p g RC:=by
 intro c i v b r u;rw[t]at i;have h:oY g 1 c:=i.shape;have n:=e.n24;have l:∀v:Nat,v<g.2.length->0<=KU c v∧KU c v<=(g.2.length:Int):=λv b=>by
  have:=i.ok v b 0 (by decide);rw[loC,hiC]at this;exact this
 obtain rfl:r=(guC,[(0,vaC)]):=by simpa [RC]using u
 have m:∀(f:Nat) {T:e_} {k:Int} {q:Nat},q<(row g v).length->at' T k=(12,0)->0<=k∧k<(T.length:Int)->eZ (f+1) g c (v:Int) (q:Int) T k=some (Ng g c v q):=λf {T k q} d hk hkr=>ahJ e h b d (a:=0) (by decide) hk hkr;refine⟨?_,λs w=> ?_⟩
 ·refine(rAg (f:=999) (k1:=1) (o:=21) e b (.inl Z) (by omega) (T:=guC.ts) (k:=0) Z (by decide) Z (F:=λq=>Mt (decide (Ng g c v q=KU c v))) λq d=> ?_).trans Z;exact rBi (f:=998) (o:=35) (k1:=2) (j:=3) (by decide) (by decide) Z (by decide) Z (by decide +kernel) (m 997 d Z (by decide)) (alm (f:=997) h b (a:=0) (by decide) Z (by decide)) (adj e (by omega) l b d) (Y_ (by omega) l b) (abw _ _ _) (abz _)
 ·obtain rfl:s=(0,vaC):=by simpa using w
  exact(rAg (f:=999) (k1:=1) (o:=27) e b (.inr Z) (by omega) (T:=vaC.ts) (k:=0) Z (by decide) Z (F:=λq=>Ng g c v q) λq d=>m 998 d Z (by decide)).trans Z
end Go.Proofs.YtahgemjmgopleaaGreatDoor
namespace Go.Proofs.YtahgemjmgopleaaGreatDoor
open Go.Sx
def uP (U:Nat) (a:iH) (b:cC) (c:bO):Option Bool:=
 Option.bind (kP U ((a.1,a.2.1,a.2.2)) ((b.1,b.2)) c) λd=>(some (decide (d=(0:Int))))
theorem aeS:aU Tryz.prog 97:=Tryz.call97
theorem Ny (U:Nat) {a:iH} {g:cC} {j:bO} (b:Value)  (d:Value)  (e:Value)  (f:Value)  (k:jA)  (i:Value)  (m:lO) (r:Bool) (h:uP U a g j=some r):
  aW Tryz.prog 97 #[Value.agg #[vS (a.1),b,d],Value.agg #[e,f],i] [Sl aN b a.2.1,Sl aJ d a.2.2,PF (Value.agg #[vS a.1,b,d]),Sl bR e g.1,S2 bD f k g.2,S2 bR i m j] (λx:Unit=>vB (r)) (λx l=>l) (λ_ l=>l):=by
 refine aW.of Tryz.func97 Z Tryz.ntmps97 Z λc=>?_;refine aT<|aG (aM.box (cs:=[vS (a.1),b,d]) Z Z) Z λp=>aG (aM.box (cs:=[e,f]) Z Z) Z λq=>aB Z<|aL<|aT<|cG 1 Z<|cG 0 Z<|aA Z<|dN h λn o h=>aG (zBi YP (GT U b d e f k i m n o) Z (jF [0,1,2,3,4,5] Z)) Z λs=>bU Z<|aB Z<|aL<|aR ?_;cases h;exact mR Z
def Co (U:Nat) (b:iH) (d:cC) (e:bO) (a:iA×Int×bO):Option (Int):=
 Option.bind (cM U ((((b.1,b.2.1,b.2.2)),((((b.1,b.2.1,b.2.2)),((d.1,d.2)),a.2.1,a.2.2)),a.1)) e) λc=>(some (c))
def yM (U:Nat) (b:iH) (c:cC) (e:bO) (a:Ce):Option (Int):=
 Option.bind (iX U ((b.1,b.2.1,b.2.2)) ((c.1,c.2))) λd=>(Co U b c e (d,a.1,a.2))
def sU (U:Nat) (b:iH) (c:cC) (d:bO) (a:Ce):Option (Int):=
 yM U b c d (a.1,a.2)
def yN (d:cC) (a:JU) (b:JS->Option (Int)) (c:bO):Option (Int):=
 b ((wI .i64 (a.1+(1:Int))),(max a.2.1 (at' d.1 a.1)),c)
def pJ (U:Nat) (d:cC) (a:JU) (e:JS->Option (Int)) (b:Ce) (f:(Int×bO)->Option (Int)):Option (Int):=
 if b.1<((at' d.2 a.1).length:Int)then(ck (0<=b.1∧b.1<((at' d.2 a.1).length:Int)) (ck (0<=a.1∧a.1<(b.2.length:Int)) (Option.bind (kO U ((d.1,d.2)) ((at' (at' d.2 a.1) b.1).1) a.1) λc=>(ck (((at' b.2 a.1).length:Int)+(List.length ([c]):Int)<=1099511627) (ck (0<=a.1∧a.1<((List.set b.2 (Int.toNat a.1) ((at' b.2 a.1)++[c])).length:Int)) (f ((wI .i64 (b.1+(1:Int))),(List.set b.2 (Int.toNat a.1) ((at' b.2 a.1)++[c])))))))))else(yN d a e (b.2))
def k_ (U:Nat) (d:iH) (c:cC) (e:bO) (a:JU) (b:JS->Option (Int)):Option (Int):=
 if a.1<(c.2.length:Int)then(ck (0<=a.1∧a.1<(c.2.length:Int)) (ck (0<=a.1∧a.1<(c.1.length:Int)) (bL (pJ U c a b) U ((0:Int),a.2.2))))else(sU U d c e (a.2.1,a.2.2))
def uR (U:Nat) (b:iH) (a:cC) (c:bO):Option (Int):=
 Option.bind (uP U ((b.1,b.2.1,b.2.2)) ((a.1,a.2)) c) λd=>(if(!d)=true then(some (0:Int))else(ck (0<=(a.2.length:Int)∧(a.2.length:Int)<=1099511627) (bL (k_ U b a c) U ((0:Int),(0:Int),(List.replicate (Int.toNat (a.2.length:Int)) ([]:aY))))))
theorem aeH:aU Tryz.prog 60:=Tryz.call60
theorem NG (U:Nat) {d:iH} {o:cC} {O:bO} (f:Value)  (g:Value)  (p:Value)  (m:Value)  (Q:jA)  (R:Value)  (z6:lO) (r:Int) (h:uR U d o O=some r):
  aW Tryz.prog 60 #[Value.agg #[vS (d.1),f,g],Value.agg #[p,m],R] [Sl aN f d.2.1,Sl aJ g d.2.2,PF (Value.agg #[vS d.1,f,g]),Sl bR p o.1,S2 bD m Q o.2,S2 bR R z6 O] (λx:Unit=>vU (r)) (λx l=>l) (λ_ l=>l):=by
 refine aW.of Tryz.func60 Z Tryz.ntmps60 Z λc=>?_;refine aT<|aG (aM.box (cs:=[vS (d.1),f,g]) Z Z) Z λb1=>aG (aM.box (cs:=[p,m]) Z Z) Z λb2=>aB Z<|aL<|aK<|aT<|cG 1 Z<|cG 0 Z<|aA Z<|dN h λr3 w4 h=>aG (zBi aeS (Ny U f g p m Q R z6 r3 w4) Z (jF [0,1,2,3,4,5] Z)) Z λx5=>aC (jC Z) Z<|aL ?_;refine tP h Z (λ_ h=>?_) λ_ h=>?_
 ·refine aT<|aB Z<|aL<|aR<|aI ?_;cases h;exact mR Z
 refine cD<|aT<|cG 1 Z<|cG 0 Z<|zR (A:=iA×Int×bO) (B:=aaH) (vs:=[Value.agg #[vS (d.1),f,g],Value.agg #[p,m]]) (λt=>Co U d o O t=some r) (λt b=>vP b.1) (λt b=>[bS b.1 [vS (d.1),f,g,vP b.2.1,b.2.2.1] 183,Ar eO.raw b.2.2.1 b.2.2.2.1,jM cW b.2.2.2.1 t.1,bS b.2.1 [vS (d.1),f,g,p,m,vI (t.2.1),b.2.2.2.2.1] 224,Ar eO.raw b.2.2.2.2.1 b.2.2.2.2.2,jM cK b.2.2.2.2.2 t.2.2]) (λt b=>[Sl aN f d.2.1,Sl aJ g d.2.2,PF (Value.agg #[vS d.1,f,g]),Sl bR p o.1,S2 bD m Q o.2,S2 bR R z6 O]) (rV.fn (show aU Tryz.prog 88 from Tryz.call88) Z) Tryz.func88 Z Tryz.ntmps88 Z Z ?_ ?_
 ·refine aT<|aG (aM.box (cs:=[vS (d.1),f,g]) Z Z) Z λI=>aG (aM.box (cs:=[p,m]) Z Z) Z λJ=>aB Z<|aL<|aK ?_;refine JR.start [0,0,0,6,0,0,62,127,255,511] 7 mixedOrders (by decide +kernel) ?_;refine zBl (by exact rfl) ?_;refine gN 1 Z<|gN 1 Z<|gN 0 Z<|IS (A:=Ce) (B:=Nat×Value×List Value) (vs:=[Value.agg #[vS (d.1),f,g],Value.agg #[p,m]]) (λu=>yM U d o O u=some r) (λu n=>vP n.1) (λu n=>[bS n.1 [vS (d.1),f,g,p,m,vI (u.1),n.2.1] 224,Ar eO.raw n.2.1 n.2.2,jM cK n.2.2 u.2,bS J [p,m] 29,bS I [vS (d.1),f,g] 36]) (λu n=>[Sl aN f d.2.1,Sl aJ g d.2.2,PF (Value.agg #[vS d.1,f,g]),Sl bR p o.1,S2 bD m Q o.2,S2 bR R z6 O]) Z Z Z (rV.fn (show aU Tryz.prog 130 from Tryz.call130) Z) Tryz.func130 Z Tryz.ntmps130 Z Z (λ_ _=>(oU [([4],[])] Z)) ?_ ?_
  ·refine aT<|aG (aM.box (cs:=[vS (d.1),f,g]) Z Z) Z λao=>aG (aM.box (cs:=[p,m]) Z Z) Z λF=>aB Z<|aL<|aK ?_;refine JR.start [0,0,0,4,12,28,63,127,255] 6 mixedOrders (by decide +kernel) ?_;refine zBl (by exact rfl) ?_;refine gN 1 Z<|gN 0 Z<|cP Z<|fG 0 Z<|bG Z .nil (iI 4 Z) (gE Z (aD.fact 0 Z) Z) aP.z<|dB h λag h=>JR.stp (uB cK (Int.toNat (o.2.length:Int)))<|zBk Z Z Z (qB (e:=eO.raw) (iO) Z Z Z Z ag Z Z Z) Z (λs=>(oU [([2],[]),([3],[])] Z)) λs=>bK 6 Z Z<|bQ (Know.one (aD.sl (bF (i:=0) (j:=1) Z Z dW))) λX=>?_;refine aC (Iq (r:=Value.agg #[vS (d.1),f,g,p,m,vI (0:Int),s]) Z Z Z (by intro w;simp[Instr.build,Instr.fill,dH,cR,cI,dJ,dK,cS,eI,gQ X])) Z ?_;refine aG (aM.box (cs:=[vS (d.1),f,g,p,m,vI (0:Int),s]) Z Z) Z λv=>aB Z<|aL<|aK<|Bn (B:=fP) (λy=>sU U d o O y=some r) (λy K=>[(5,vP v)]) (λy K=>[bS v [vS (d.1),f,g,p,m,vI (y.1),s] 224,Ar eO.raw s K,jM cK K y.2,bS J [p,m] 29,bS I [vS (d.1),f,g] 36]) ?_ ?_
   ·refine aT<|bN Z<|cT 3 Z<|aC (gE Z (aD.fact 4 Z) Z) Z<|aA Z<|aL<|aS<|dZ (B:=fP) (k_ U d o O) (λa G=>[(3,vP F),(5,vP v),(19,m),(20,vI (o.2.length:Int)),(21,vI (a.1))]) (λa G=>[bS v [vS (d.1),f,g,p,m,vI (a.2.1),s] 224,Ar eO.raw s G,jM cK G a.2.2,bS F [p,m] 29,bS J [p,m] 29,bS I [vS (d.1),f,g] 36]) ((0:Int),(0:Int),(List.replicate (Int.toNat (o.2.length:Int)) ([]:aY))) (List.replicate (Int.toNat (o.2.length:Int)) (iO)) h SF (a_.ix [0,1,2,3,5,6] Z Z) ?_;intro ac a G h;refine aT<|cN Z<|aL<|aK ?_;refine dY h Z (λh=>?_) λh=>?_
    ·refine cD<|aK<|Bn (B:=fP) (λE=>yN o a (bL (k_ U d o O) ac) E=some r) (λE L=>[(3,vP F),(5,vP v),(19,m),(20,vI (o.2.length:Int)),(21,vI (a.1))]) (λE L=>[bS v [vS (d.1),f,g,p,m,vI (max a.2.1 (at' o.1 a.1)),s] 224,Ar eO.raw s L,jM cK L E,bS F [p,m] 29,bS J [p,m] 29,bS I [vS (d.1),f,g] 36]) ?_ ?_
     ·refine aS<|aT<|aA Z<|dB h λC h=>aC (b_ Z Z (aD.fact 4 Z) Z Z C) Z<|aC (bX Z (aD.fact 4 Z) Z Z C) Z<|aB Z<|aB Z<|aL<|aK ?_;refine JR.start [0,0,2,6,14,0,32,0,224,480,1022,2047,4095,8191] 11 mixedOrders (by decide +kernel) ?_;refine zBl (by exact rfl) ?_;refine aX Z<|aX Z<|fW Z (cA Z)<|cP Z<|fG 0 Z<|cP Z<|fG 3 Z<|aX Z<|dB h λaa h=>bG Z .nil (iI 3 Z) (aZ Z Z (aD.fact 0 Z) Z Z aa) aP.z<|bG Z .nil (iI 3 Z) (bY Z (aD.fact 0 Z) Z Z Z eD aa) aP.z<|fW Z (FL Z Z)<|bK 11 Z Z<|aC (cA Z) Z<|bN Z<|eB 0 Z Z Z Z Z Z<|aL<|aT<|aA Z<|aC (fV Z (zBj (aD.fact 4 Z) C.1 C.2) Z) Z<|aA Z<|aL<|aS<|dZ (B:=fP) (pJ U o a (bL (k_ U d o O) ac)) (λq H=>[(3,vP F),(5,vP v),(6,vI (a.1)),(19,m),(20,vI (o.2.length:Int)),(21,vI (a.1)),(39,(at' Q a.1).1),(40,vI ((at' o.2 a.1).length:Int)),(41,vI (q.1))]) (λq H=>[bS v [vS (d.1),f,g,p,m,vI (max a.2.1 (at' o.1 a.1)),s] 224,Ar eO.raw s H,jM cK H q.2,bS F [p,m] 29,bS J [p,m] 29,bS I [vS (d.1),f,g] 36]) ((0:Int),a.2.2) (G) h SF (a_.refl _) ?_;intro aq q H h;refine aT<|cN Z<|aL<|aK ?_;refine dY h Z (λh=>?_) λh=>?_
      ·refine cD<|aK<|aS<|aT<|dB h λab h=>aC (aZ Z Z (zBj (aD.fact 4 Z) C.1 C.2) Z Z ab) Z<|aC (gX (cs:=[vI ((at' (at' o.2 a.1) q.1).1),vI ((at' (at' o.2 a.1) q.1).2)]) Z (zBj (aD.fact 4 Z) C.1 C.2) bV Z Z Z Z ab) Z<|aG (aM.alloc (cs:=Rm) Z Z) Z λap=>bH 0 (vs:=[vI ((at' (at' o.2 a.1) q.1).1),vI ((at' (at' o.2 a.1) q.1).2)]) Z Z Z Z Z Z<|aL ?_;refine JR.start [0,1,3,7,0,0,32,96,224,0,992,2016,0,0,8192,0,61440,126976,262112,524287,1048575] 19 mixedOrders (by decide +kernel) ?_;refine zBl (by exact rfl) ?_;refine aX Z<|fW Z (cA Z)<|cP Z<|fG 1 Z<|aX Z<|aX Z<|fW Z (cA Z)<|cP Z<|fG 1 Z<|aX Z<|dB h λP h=>fU (eC 3 Z) λS=>?_;refine bG Z (a_.cons 2 Z .nil) .nil (jB 0 Z Z Z Z Z P.1 (by have q1:=P.2;have q2:=S;(try simp only[zA1]at q1);(try simp only[zA1]at q2);(try simp only[zA1]);omega)) aP.z ?_;refine fU (eC 3 Z) λT=>bG Z (a_.cons 2 Z .nil) .nil (nH 0 Z Z T Z Z P) aP.z<|gN 4 Z<|cP Z<|fG 0 Z<|aX Z<|dN h λM am h=>zBk Z Z Z (zBi PW (Dt U p m Q M am) Z (jF [3,4] Z)) Z (λan=>(oU [([2],[]),([2],[]),([1],[]),([1],[])] Z)) λan=>zBk Z Z Z (cE (e:=cK) ([M]) [(0,vI (M))] Z Z Z Z (gM (vI (M)) Z) Z Z Z) Z (λaj=>(oU [([3],[]),([3],[]),([2],[]),([2],[])] Z)) λaj=>dB h λah h=>zBk Z Z Z (mL 4 dW Z Z Z (bB (aD.res 0 Z) dW) Z Z Z Z P ah Z) Z (λae=>(oU [([2],[])] Z)) λae=>bK 19 Z Z<|dB h λD h=>bQ (eC 4 Z) λV=>?_;refine aC (jB 3 Z Z Z Z Z D.1 (by have q1:=D.2;have q2:=V;(try simp only[zA1]at q1);(try simp only[zA1]at q2);(try simp only[zA1]);omega)) Z ?_;refine bQ (zH 4 (k:=a.1) Z ⟨D.1,by first|exact D.2|simpa using D.2⟩) λY=>?_;refine mK 3 4 ⟨D.1,by first|exact D.2|simpa using D.2⟩ Z Z Z Z Z (by simp) Y Z ?_;refine eM<|jE<|aO<|cB Z<|aA Z<|aL ?_;exact kM ((wI .i64 (q.1+(1:Int))),(List.set q.2 (Int.toNat a.1) ((at' q.2 a.1)++[M]))) (List.set H (Int.toNat a.1) ae) h SF (a_.ix [2,3,4,5,6,7] Z Z) (aE.refl _ _)
      refine mJ<|d_<|d_<|sJ<|jE ?_;exact fE (q.2) (H) h SF Z
     intro E L h;unfold yN at h;refine aO<|cB Z<|aA Z<|aL ?_;exact uG ((wI .i64 (a.1+(1:Int))),(max a.2.1 (at' o.1 a.1)),E) (L) h SF Z
    refine eR ?_;exact bZ (a.2.1,a.2.2) (G) h SF (a_.ix [0,1,2,4,5] Z Z) (aE.refl _ _)
   intro y K h;unfold sU at h;refine aT<|aA Z<|aB Z<|aL<|aR ?_;exact qA (y.1,y.2) (v,s,K) h (.inl Z) (Gc.r1 Z (RV.tmp Z)) Z (a_.refl _) (aE.refl _ _)
  intro u n h;unfold yM at h;refine bG Z (a_.cons 4 Z .nil) .nil (eP 0 Z Z Z Z) (aP.h (a_.ix [1] Z Z) .nil aP.z)<|bG Z (a_.cons 3 Z .nil) .nil (eP 0 Z Z Z Z) (aP.h (a_.ix [0] Z Z) .nil aP.z)<|dN h λad al h=>zBk Z Z Z (zBi LJ (AL U f g p m Q ad al) Z (jF [0,1,2,3,4] Z)) Z (λN=>(oU [([6],[])] Z)) λN=>bK 7 Z Z<|bQ (Know.one (aD.sl (bF (i:=0) (j:=1) Z Z bV))) λW=>?_;refine aC (Iq (r:=Value.agg #[vS (d.1),f,g,Value.pointer (some ⟨n.1,0,none⟩),N.1]) Z Z Z (by intro w;simp[Instr.build,Instr.fill,dH,cR,cI,dJ,dK,cS,eI,gQ W])) Z ?_;refine aG (aM.box (cs:=[vS (d.1),f,g,vP n.1,N.1]) Z Z) Z λaf=>aB Z<|aL<|aR ?_;exact qA (ad,u.1,u.2) (af,n.1,N.1,N.2,n.2.1,n.2.2) h (.inl Z) (Gc.r1 Z (RV.tmp Z)) Z (a_.ix [0,1,2,3,4,5] Z Z) (aE.refl _ _)
 intro t b h;refine aA Z<|dN h λai ak h=>aG (zBi Mw (kI U b.1 f g b.2.1 f g p m Q b.2.2.2.2.1 (List.zip b.2.2.2.2.2 t.2.2) b.2.2.1 (List.zip b.2.2.2.1 t.1) R z6 ai ak) Z (aE.cons (aD.res 0 Z) (aE.cons (aD.fact 0 Z) (aE.cons (aD.fact 1 Z) (aE.cons (aD.res 3 Z) (aE.cons (aD.fact 0 Z) (aE.cons (aD.fact 1 Z) (aE.cons (aD.fact 3 Z) (aE.cons (aD.fact 4 Z) (aE.cons (bF (i:=4) (j:=5) Z Z dW) (aE.cons (bF (i:=1) (j:=2) Z Z bV) (jF [5] Z)))))))))))) Z λar=>aB Z<|aL<|aR ?_;cases h;exact mR Z
def yC (U:Nat) (a:iH) (b:cC) (c:bO) (d:Int):Option (Int):=
 Option.bind (uR U ((a.1,a.2.1,a.2.2)) ((b.1,b.2)) c) λe=>(some (jS .u32 e d))
theorem aev:aU Tryz.prog 25:=Tryz.call25
theorem Lq (U:Nat) {a:iH} {g:cC} {j:bO} {k:Int} (b:Value)  (d:Value)  (e:Value)  (f:Value)  (m:jA)  (i:Value)  (n:lO) (r:Int) (h:yC U a g j k=some r):
  aW Tryz.prog 25 #[Value.agg #[vS (a.1),b,d],Value.agg #[e,f],i,vU (k)] [Sl aN b a.2.1,Sl aJ d a.2.2,PF (Value.agg #[vS a.1,b,d]),Sl bR e g.1,S2 bD f m g.2,S2 bR i n j] (λx:Unit=>vU (r)) (λx l=>l) (λ_ l=>l):=by
 refine aW.of Tryz.func25 Z Tryz.ntmps25 Z λc=>?_;refine aT<|aG (aM.box (cs:=[vS (a.1),b,d]) Z Z) Z λq=>aG (aM.box (cs:=[e,f]) Z Z) Z λs=>aB Z<|aL<|aT<|cG 1 Z<|cG 0 Z<|aA Z<|dN h λo p h=>aG (zBi aeH (NG U b d e f m i n o p) Z (jF [0,1,2,3,4,5] Z)) Z λt=>aA Z<|aC (wT Z Z) Z<|aB Z<|aL<|aR ?_;cases h;exact mR Z
end Go.Proofs.YtahgemjmgopleaaGreatDoor
namespace Go.Proofs.YtahgemjmgopleaaGreatDoor
open Go Go.Sx
theorem XG {g:GR} (d:VG g) (p:BW) (c:bO):
  bL (k_ 1000 p g c) 1000 ((0:Int),(0:Int),(List.replicate (Int.toNat (g.2.length:Int)) ([]:aY)))=sU 1000 p g c (gO g g.2.length,fQ g):=by
 have x:=d.n24;have q:=d.len;let f:Nat->aY:=λv=>(List.range (row g v).length).map (HS g v);let Q:Nat->bO:=λk=>(List.range k).map f++List.replicate (g.2.length - k) [];have n:∀k,k<=g.2.length->(Q k).length=g.2.length:=λk h=>by simp[Q];omega
 rw[show List.replicate (Int.toNat (g.2.length:Int)) ([]:aY)=Q 0 by simp[Q]];refine cQ (step:=k_ 1000 p g c) g.2.length (λk=>((k:Int),gO g k,Q k)) (λk b h=> ?_) (λb=> ?_) 1000 (by omega)
 ·have o:=(d.node k h).deg;have r:k<(Q k).length:=by rw[n k (by omega)];exact h
  unfold k_;dsimp only;rw[if_pos (by omega),cV (by omega),cV (by omega)];let a:Nat->aY:=λj=>(List.range j).map (HS g k);have w:Q k=(Q k).set k (a 0):=by
   have:at' (Q k) (k:Int)=a 0:=by
    rw[jI r];simp[Q,a]
   rw[<-this];exact(Fz (Q k) (k:Int) (by simpa using r) (by omega)).symm
  rw[show(Q k)=(Q k).set k (a 0)from w];have e:∀A:bO,A.length=g.2.length->bL (pJ 1000 g ((k:Int),gO g k,(Q k).set k (a 0)) b) 1000 ((0:Int),A.set k (a 0))=b (((k+1:Nat):Int),gO g (k+1),A.set k (f k)):=by
   intro A B;refine cQ (step:=pJ 1000 g ((k:Int),gO g k,(Q k).set k (a 0)) b) (K:=b (((k+1:Nat):Int),gO g (k+1),A.set k (f k))) (row g k).length (λj=>((j:Int),A.set k (a j))) (λj l z=> ?_) (λl=> ?_) 1000 (by omega)
   ·obtain⟨u,s,i⟩:=d.to h z;have y:=(d.node u s).deg;have t:at' (A.set k (a j)) (k:Int)=a j:=by rw[CX _ _ _ _ (by omega),if_pos Z]
    have m:(a j).length=j:=by simp[a]
    unfold pJ;dsimp only;rw[if_pos (show(j:Int)<((row g k).length:Int) by omega),cV (show 0<=(j:Int)∧(j:Int)<((row g k).length:Int) by omega),cV (by simp only[zA1];omega),show at' (at' g.2 (k:Int)) (j:Int)=jT (row g k) j from rfl,i,bA (show kO 1000 _ (u:Int) (k:Int)=_ from Kv g u (k:Int) s (by omega)),t,cV (by rw[m];simp;omega),cV (by simp only[zA1];omega),dL (by omega),zAh,List.set_set];have:a j++[Cm (row g u) (k:Int)]=a (j+1):=by
     simp only[a];rw[zB2,zB8,zB1,HS,i,zAh]
    rw[this]
   ·unfold pJ yN;dsimp only;rw[if_neg (show¬((row g k).length:Int)<((row g k).length:Int)from Int.lt_irrefl _),dL (by omega)];rfl
  have:=e (Q k) (n k (by omega));rw[tB f [] g.2.length k h]at this;exact this
 ·unfold k_;dsimp only;rw[if_neg (by omega)];simp[Q,fQ,f]
theorem Nt {p:BW} {g:GR} {R:List RL} (a:VG g) (d:jQ g p.2.1) (i:p.2.2.map tH=Dx R) (f:pC p.2.1.length R=true) {c:bO} (b:HC g c p.2.1):uR 1000 p g c=some ((Rj (bI p g) R c:Nat):Int):=by
 have e:=a.n24;unfold uR;have h:uP 1000 p g c=some true:=by
  unfold uP;rw[bA (show kP 1000 _ _ c=_ from Jb a d b)];rfl
 rw[bA (show uP 1000 _ _ c=_ from h),if_neg (by decide),cV (by omega),XG a p c];unfold sU yM Co;rw[bA (show iX 1000 _ _=_ from JP a d)];dsimp only;rw[bA (show cM 1000 (p,(p,g,gO g g.2.length,fQ g),Cr g p.2.1) c=some ((Rj (bI p g) R c:Nat):Int)from Iv a b.shape i f (by simp[Cr]))]
theorem Lm {p:BW} {g:GR} {R:List RL} (a:VG g) (l:jQ g p.2.1) (m:p.2.2.map tH=Dx R) (f:pC p.2.1.length R=true) {c:bO} (h:HC g c p.2.1) {d lv:Nat} (j:d<4294967296) (b:∀i,i<32->lv.testBit i = !d.testBit i):yC 1000 p g c (d:Int)=some ((oW (bI p g) R lv c:Nat):Int):=by
 have e:=a.n24;unfold yC;rw[bA (show uR 1000 _ _ c=_ from Nt a l m f h),uH];congr 2;refine zBh λi=> ?_;unfold oW;rw[Bf (MF a R c) j,zBd];by_cases k:i<32
 ·rw[b i k]
 ·have:(Rj (bI p g) R c).testBit i=false:=by
   rw[LN];have:¬i<(bI p g).2.1.2.length:=λq=>by have q:i<g.2.length:=q;omega
   rw[zA7 this];rfl
  rw[this];rfl
end Go.Proofs.YtahgemjmgopleaaGreatDoor
namespace Go.Proofs.YtahgemjmgopleaaGreatDoor
open Go.Sx
def vR (U:Nat)  : Option (ByteArray):=
 some (ByteArray.mk #[112,114,111,103,114,97,109,32,99,111,108,111,117,114,105,110,103,59,10,118,97,114,32,99,32,58,32,48,32,46,46,32,110,59,10,114,117,108,101,32,102,105,120,58,32,115,111,109,101,40,113,46,99,32,61,61,32,99,41,32,45,62,32,99,32,58,61,32,109,101,120,40,113,46,99,41,59,10])
theorem ahc:aU Tryz.prog 8:=Tryz.call8
theorem KB (U:Nat)  (r:ByteArray) (h:vR U  = some r):
  aW Tryz.prog 8 #[] [] (λx:Unit=>vS (r)) (λx l=>l) (λ_ l=>l):=by
 refine aW.of Tryz.func8 Z Tryz.ntmps8 Z λc=>?_;unfold vR at h;refine aT<|aB Z<|aL<|aT<|aB Z<|aL<|aR ?_;cases h;exact gF Z
def n_ (U:Nat) (b:iH) (c:cC) (d:Int) (e:bO) (f:Int) (g:aY):Option oM:=
 Option.bind (gY U ((b.1,b.2.1,b.2.2)) ((c.1,c.2)) d e (YA .u32 (4294967295:Int) f) g) λa=>(some (((a.1.1,a.1.2.1,a.1.2.2.1,((a.1.2.2.2.1,a.1.2.2.2.2.1,a.1.2.2.2.2.2.1,a.1.2.2.2.2.2.2.1,a.1.2.2.2.2.2.2.2)))),a.2))
theorem YB:aU Tryz.prog 20:=Tryz.call20
theorem GM (U:Nat) {b:iH} {p:cC} {t:Int} {u:bO} {v:Int} {w:aY} (e:Value)  (f:Value)  (g:Value)  (k:Value)  (y:jA)  (q:Value)  (z:lO)  (s:Value) (r:Wr) (h:n_ U b p t u v w=some r):
  aW Tryz.prog 20 #[Value.agg #[vS (b.1),e,f],Value.agg #[g,k],vI (t),q,vU (v),s] [Sl aN e b.2.1,Sl aJ f b.2.2,PF (Value.agg #[vS b.1,e,f]),Sl bR g p.1,S2 bD k y p.2,S2 bR q z u,Sl tY s w,Gb 0 (cellsOf HN vE)] (λx:Ij=>Value.tuple #[Value.agg #[x.1,x.2.1,x.2.2.1,vI (r.1.2.2.2.1),vI (r.1.2.2.2.2.1),vI (r.1.2.2.2.2.2.1),vI (r.1.2.2.2.2.2.2.1),vU (r.1.2.2.2.2.2.2.2)],vI (r.2)]) (λx l=>Ar fX x.1 r.1.1::Ar fX x.2.1 r.1.2.1::Ar eO.raw x.2.2.1 x.2.2.2::jM cK x.2.2.2 r.1.2.2.1::l) (λ_ l=>l):=by
 refine aW.of Tryz.func20 Z Tryz.ntmps20 Z λc=>?_;refine aT<|aG (aM.box (cs:=[vS (b.1),e,f]) Z Z) Z λB=>aG (aM.box (cs:=[g,k]) Z Z) Z λC=>aG (aM.alloc (cs:=yO) Z Z) Z λD=>aB Z<|aL<|aT<|cG 2 Z<|cG 1 Z<|aA Z<|aA Z<|aA Z<|aC (abn Z Z) Z<|aA Z<|dN h λd A h=>aG (zBi aez (IK U e f g k y q z s d A) Z (jF [0,1,2,3,4,5,6,7] Z)) Z λa=>eS Z<|eS Z<|bQ (Know.one ((bB (aD.res 0 Z) fS))) λm=>bQ (Know.one ((bB (aD.res 1 Z) fS))) λn=>bQ (Know.one (aD.sl (bF (i:=2) (j:=3) Z Z dW))) λo=>bH 4 (vs:=[a.1,a.2.1,a.2.2.1,vI (d.1.2.2.2.1),vI (d.1.2.2.2.2.1),vI (d.1.2.2.2.2.2.1),vI (d.1.2.2.2.2.2.2.1),vU (d.1.2.2.2.2.2.2.2)]) Z Z (c_ m (c_ n (c_ o (c_ Z (c_ Z (c_ Z (c_ Z (c_ Z Z)))))))) Z Z Z<|aB Z<|aL<|aR ?_;cases h;exact eW (a.1,a.2.1,a.2.2.1,a.2.2.2) Z Z (RV.cell 4 Z Z Z Z) (RV.tmp Z) (a_.ix [0,1,2,3] Z Z) aE.nil
end Go.Proofs.YtahgemjmgopleaaGreatDoor
namespace Go.Proofs.YtahgemjmgopleaaGreatDoor
open Go Go.Sx Go.Gx
set_option maxRecDepth 100000
def Ec (a:Nat):Option Bool:=some (true)
theorem YC:aU Tryz.prog 23:=Tryz.call23
theorem YY:okT (HT F_ gp2 4000 23 [] H0)=true:=by kernel_rfl
theorem Ob (a:Nat) (r:Bool) (h:Ec a=some r):
  aW Tryz.prog 23 #[] [Gb 0 (cellsOf HN vE)] (λx:Unit=>Value.bool (r)) (λx l=>l) (λ_ l=>l):=by
 obtain rfl:=Option.some.inj h;obtain⟨d,c⟩:=aac YY;rw[CY BL]at c;exact Qw Uv YC (λf e h=>h.bool_inv) λT b=>Ja (gs:=gl T) alb c (gH.start b Z) .nil
end Go.Proofs.YtahgemjmgopleaaGreatDoor
namespace Go.Proofs.YtahgemjmgopleaaGreatDoor
open Go.Sx
def BK  (a:Unit):Option Bool:=
 some (true)
def xK (c:aY) (d:aY) (a:Int) (b:(Int)->Option Bool):Option Bool:=
 if a<(c.length:Int)then(ck (0<=a∧a<(c.length:Int)) (ck (0<=a∧a<(d.length:Int)) (if(at' c a)≠(at' d a)then(some (false))else(b (wI .i64 (a+(1:Int)))))))else(BK  (()))
def Ao (U:Nat) (a:aY) (b:aY):Option Bool:=
 if(a.length:Int)≠(b.length:Int)then(some (false))else(bL (xK a b) U (0:Int))
theorem YL:aU Tryz.prog 59:=Tryz.call59
theorem JM (U:Nat) {f:aY} {g:aY} (i:Value)  (j:Value) (r:Bool) (h:Ao U f g=some r):
  aW Tryz.prog 59 #[i,j] [Sl tY i f,Sl tY j g] (λx:Unit=>vB (r)) (λx l=>l) (λ_ l=>l):=by
 refine aW.of Tryz.func59 Z Tryz.ntmps59 Z λc=>?_;refine aT<|aB Z<|aL<|aK<|aT<|aA Z<|gW (aD.fact 0 Z) Z<|aA Z<|gW (aD.fact 1 Z) Z<|kH Z<|aL ?_;refine dY h Z (λh=>?_) λh=>?_
 ·refine aT<|aB Z<|aL<|aR<|aI ?_;cases h;exact gF Z
 refine cD<|aK<|dQ (λd=>BK  d=some r) (λd k=>[]) (λd k=>[]) ?_ ?_
 ·refine aT<|aB Z<|aL<|aS<|dZ (xK f g) (λe m=>[(0,i),(1,j),(5,vI (e))]) (λe m=>[]) (0:Int) () h SF (a_.refl _) ?_;intro n e m h;refine aK<|aT<|aA Z<|aA Z<|gW (aD.fact 0 Z) Z<|cN Z<|aL ?_;refine dY h Z (λh=>?_) λh=>?_
  ·refine cD<|aK<|aS<|aK ?_;refine JR.start [0,0,3,7,0,0,48,112,255] 8 mixedOrders (by decide +kernel) ?_;refine zBl (by exact rfl) ?_;refine aX Z<|aX Z<|dB h λa h=>bG Z .nil (iI 0 Z) (aZ Z Z (aD.fact 0 Z) Z Z a) aP.z<|bG Z .nil (iI 0 Z) (bY Z (aD.fact 0 Z) Z Z Z DV a) aP.z<|aX Z<|aX Z<|dB h λb h=>bG Z .nil (iI 1 Z) (aZ Z Z (aD.fact 0 Z) Z Z b) aP.z<|bG Z .nil (iI 1 Z) (bY Z (aD.fact 0 Z) Z Z Z DV b) aP.z<|bK 8 Z Z<|kH Z<|aL ?_;refine dY h Z (λh=>?_) λh=>?_
   ·refine aT<|aB Z<|aL<|aR<|bE<|aI<|aI<|bE<|aI ?_;cases h;exact gF Z
   refine cU<|jE<|aO<|aA Z<|cB Z<|aB Z<|aL ?_;exact uG (wI .i64 (e+(1:Int))) () h SF Z
  refine eR ?_;exact fE () (()) h SF Z
 intro d k h;unfold BK at h;refine aT<|aB Z<|aL<|aR ?_;cases h;exact gF Z
def qG  (a:Bool):Option Bool:=
 some (a)
def sE (U:Nat) (a:Wu) (b:Wu):Option Bool:=
 Option.bind (Ao U a.1 b.1) λe=>(if e=true then(Option.bind (Ao U a.2.1 b.2.1) λc=>(if c=true then(Option.bind (CK U a.2.2.1 b.2.2.1) λd=>(if d=true then(qG  (decide ((a.2.2.2.1,a.2.2.2.2.1,a.2.2.2.2.2.1,a.2.2.2.2.2.2.1,a.2.2.2.2.2.2.2)=(b.2.2.2.1,b.2.2.2.2.1,b.2.2.2.2.2.1,b.2.2.2.2.2.2.1,b.2.2.2.2.2.2.2))))else(qG  (false))))else(qG  (false))))else(qG  (false)))
theorem YD:aU Tryz.prog 24:=Tryz.call24
theorem JN (U:Nat) {a:Wu} {b:Wu} (i:Value)  (j:Value)  (k:Value)  (v:lO)  (m:Value)  (n:Value)  (o:Value)  (w:lO) (r:Bool) (h:sE U a b=some r):
  aW Tryz.prog 24 #[Value.agg #[i,j,k,vI (a.2.2.2.1),vI (a.2.2.2.2.1),vI (a.2.2.2.2.2.1),vI (a.2.2.2.2.2.2.1),vU (a.2.2.2.2.2.2.2)],Value.agg #[m,n,o,vI (b.2.2.2.1),vI (b.2.2.2.2.1),vI (b.2.2.2.2.2.1),vI (b.2.2.2.2.2.2.1),vU (b.2.2.2.2.2.2.2)]] [Sl tY i a.1,Sl tY j a.2.1,S2 bR k v a.2.2.1,Sl tY m b.1,Sl tY n b.2.1,S2 bR o w b.2.2.1] (λx:Unit=>vB (r)) (λx l=>l) (λ_ l=>l):=by
 refine aW.of Tryz.func24 Z Tryz.ntmps24 Z λc=>?_;refine aT<|aG (aM.box (cs:=[i,j,k,vI (a.2.2.2.1),vI (a.2.2.2.2.1),vI (a.2.2.2.2.2.1),vI (a.2.2.2.2.2.2.1),vU (a.2.2.2.2.2.2.2)]) Z Z) Z λC=>aG (aM.box (cs:=[m,n,o,vI (b.2.2.2.1),vI (b.2.2.2.2.1),vI (b.2.2.2.2.2.1),vI (b.2.2.2.2.2.2.1),vU (b.2.2.2.2.2.2.2)]) Z Z) Z λD=>aB Z<|aL<|aK<|dQ (λg=>qG  g=some r) (λg u=>[(4,vB (g))]) (λg u=>[]) ?_ ?_
 ·refine aO<|bN Z<|cT 1 Z<|bN Z<|cT 0 Z<|dN h λy z h=>aG (zBi YL (JM U i m y z) Z (jF [0,3] Z)) Z λE=>aA Z ?_;refine rY (by exact rfl) (by exact rfl) (λf=>?_) (λf=>?_)
  ·have h:=Jl f h;refine aQ Z (cO Z Z Z Z Z) Z<|aQ Z (dO 1 Z Z Z Z Z) Z<|aQ Z (cO Z Z Z Z Z) Z<|aQ Z (dO 0 Z Z Z Z Z) Z<|dN h λp s h=>iP Z (zBi YL (JM U j n p s) Z (jF [1,4] Z)) Z λA=>dC Z<|aA Z ?_;refine rY (by exact rfl) (by exact rfl) (λd=>?_) (λd=>?_)
   ·have h:=Jl d h;refine aQ Z (cO Z Z Z Z Z) Z<|aQ Z (dO 1 Z Z Z Z Z) Z<|aQ Z (cO Z Z Z Z Z) Z<|aQ Z (dO 0 Z Z Z Z Z) Z<|dN h λq t h=>iP Z (zBi aey (QQ U k v o w q t) Z (jF [2,5] Z)) Z λB=>dC Z<|aA Z ?_;refine rY (by exact rfl) (by exact rfl) (λe=>?_) (λe=>?_)
    ·have h:=Jl e h;refine aQ Z (cO Z Z Z Z Z) Z<|aQ Z (Ir 1 (us:=[vI (a.2.2.2.1),vI (a.2.2.2.2.1),vI (a.2.2.2.2.2.1),vI (a.2.2.2.2.2.2.1),vU (a.2.2.2.2.2.2.2)]) Z Z Z Z Z Z) Z<|aQ Z (cO Z Z Z Z Z) Z<|aQ Z (Ir 0 (us:=[vI (b.2.2.2.1),vI (b.2.2.2.2.1),vI (b.2.2.2.2.2.1),vI (b.2.2.2.2.2.2.1),vU (b.2.2.2.2.2.2.2)]) Z Z Z Z Z Z) Z<|aQ Z (agU Z Z (afh (a.2.2.2.1,a.2.2.2.2.1,a.2.2.2.2.2.1,a.2.2.2.2.2.2.1,a.2.2.2.2.2.2.2) (b.2.2.2.1,b.2.2.2.2.1,b.2.2.2.2.2.1,b.2.2.2.2.2.2.1,b.2.2.2.2.2.2.2) _ _)) Z<|dC Z<|aB Z<|aL ?_;exact bZ (decide ((a.2.2.2.1,a.2.2.2.2.1,a.2.2.2.2.2.1,a.2.2.2.2.2.2.1,a.2.2.2.2.2.2.2)=(b.2.2.2.1,b.2.2.2.2.1,b.2.2.2.2.2.1,b.2.2.2.2.2.2.1,b.2.2.2.2.2.2.2))) () h SF .nil (aE.refl _ _)
    have h:=FZ e h;refine aH Z<|aH Z<|aH Z<|aH Z<|aH Z<|dR Z<|aB Z<|aL ?_;exact bZ (false) () h SF .nil (aE.refl _ _)
   have h:=FZ d h;refine aH Z<|aH Z<|aH Z<|aH Z<|aH Z<|dR Z<|aA Z<|aH Z<|aH Z<|aH Z<|aH Z<|aH Z<|dR Z<|aB Z<|aL ?_;exact bZ (false) () h SF .nil (aE.refl _ _)
  have h:=FZ f h;refine aH Z<|aH Z<|aH Z<|aH Z<|aH Z<|dR Z<|aA Z<|aH Z<|aH Z<|aH Z<|aH Z<|aH Z<|dR Z<|aA Z<|aH Z<|aH Z<|aH Z<|aH Z<|aH Z<|dR Z<|aB Z<|aL ?_;exact bZ (false) () h SF .nil (aE.refl _ _)
 intro g u h;unfold qG at h;refine aR ?_;cases h;exact gF Z
end Go.Proofs.YtahgemjmgopleaaGreatDoor