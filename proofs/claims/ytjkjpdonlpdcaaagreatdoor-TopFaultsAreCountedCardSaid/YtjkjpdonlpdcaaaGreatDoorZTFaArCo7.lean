/- Models and proofs. Conditions: none. -/
import Derived.Test.YtjkjpdonlpdcaaaGreatDoorZTFaArCo6
import Derived.Test.YtjkjpdonlpdcaaaGreatDoorZTFaArCo5
import Derived.Test.YtjkjpdonlpdcaaaGreatDoorZTFaArCo2
set_option linter.unusedVariables false
set_option linter.unusedSimpArgs false
set_option maxHeartbeats 4000000
set_option maxRecDepth 20000
namespace Go.Proofs.YtjkjpdonlpdcaaaGreatDoor
open Go Go.Sx
abbrev zL:=ByteArray×(List EU)×(List oG)
structure vF (g:GR) (vars:List EU):Prop where
 len:vars.length<=20
 small:∀x,x<vars.length->zM (at' vars (x:Int))
 kind:∀x,x<vars.length->(at' vars (x:Int)).2.1=1∨(at' vars (x:Int)).2.1=2∨(at' vars (x:Int)).2.1=3
 range:∀x,x<vars.length->(at' vars (x:Int)).2.1=1 -> -100000<=lo g (at' vars (x:Int)) 0∧lo g (at' vars (x:Int)) 0<=hi g (at' vars (x:Int)) 0∧hi g (at' vars (x:Int)) 0 - lo g (at' vars (x:Int)) 0+1<=4096
theorem aaR {g:GR} (a:VG g):zB 1000 g.1=some (lU g g.1.length):=by
 have d:=a.n24;have b:=a.len;have h:=a.n1;have f:0<=at' g.1 ((0:Nat):Int):=(a.node 0 (by omega)).id.1;unfold zB;rw[if_neg (by omega),cS (by omega)];have:=eF (step:=tM g.1) (K:=some (lU g g.1.length)) (g.1.length - 1) (λk=>(lU g (k+1),((k+1:Nat):Int))) (λk c i=>by
  unfold tM;dsimp only;rw[if_pos (by omega),cS (by omega),dG (by omega)];rfl) (λc=>by
  unfold tM xO;dsimp only;rw[if_neg (by omega),show g.1.length - 1+1=g.1.length by omega]) 1000 (by omega)
 have e:lU g (0+1)=at' g.1 (0:Int):=by
  show max (lU g 0) (at' g.1 ((0:Nat):Int))=_;simp only[lU];have:at' g.1 ((0:Nat):Int)=at' g.1 (0:Int):=rfl;omega
 rw[e]at this;exact this
theorem Kg {g:GR} (c:VG g) {x:EU} (o:zM x) (n:x.2.1=1∨x.2.1=2∨x.2.1=3) {v:Nat} (p:v<g.2.length):kB 1000 x g (v:Int)=some (lo g x v,hi g x v):=by
 obtain⟨⟨B,C⟩,⟨r,s⟩,t,u⟩:=o;have l:=c.n24;have d:=c.len;have e:=IY c g.1.length (by omega);have w:0<=x.2.2.2.2.1*(g.1.length:Int):=Int.mul_nonneg r (by omega);have y:x.2.2.2.2.1*(g.1.length:Int)<=100000*24:=Int.mul_le_mul s (by omega) (by omega) (by omega);have z:0<=x.2.2.2.2.2*lU g g.1.length:=Int.mul_nonneg t e.1;have A:x.2.2.2.2.2*lU g g.1.length<=100000*255:=Int.mul_le_mul u e.2 e.1 (by omega);have i:oS 1000 x g (v:Int)=some (x.2.2.1,x.2.2.2.1+x.2.2.2.2.1*(g.2.length:Int)+x.2.2.2.2.2*lU g g.1.length):=by
  unfold oS;rw[bF (aaR c),wr (x:=x.2.2.2.2.1*_) (by omega) (by omega),wr (x:=x.2.2.2.2.2*_) (by omega) (by omega),wr (x:=x.2.2.2.1+_) (by omega) (by omega),wr (by omega) (by omega),d]
 have j:oT 1000 x g (v:Int)=some (-1,((row g v).length:Int) - 1):=by
  have k:=(c.node v p).deg;unfold oT;rw[cS (by omega)];show some ((-1:Int),wI .i64 (((row g v).length:Int) - 1))=_;rw[wr (by omega) (by omega)]
 have q:∀(f:Nat) (a:Int),bP (eI 1000 x g (v:Int)) (f+1) a=eI 1000 x g (v:Int) a (bP (eI 1000 x g (v:Int)) f):=λf a=>rfl;have b:∀(f:Nat) (a:Int),a=0∨a=1∨a=2->bP (eI 1000 x g (v:Int)) (f+1) a=if a=0 then(if 1=x.2.1 then oS 1000 x g (v:Int)else bP (eI 1000 x g (v:Int)) f 1)else if a=1 then(if 2=x.2.1 then rH 1000 x g (v:Int)else bP (eI 1000 x g (v:Int)) f 2)else(if 3=x.2.1 then oT 1000 x g (v:Int)else bP (eI 1000 x g (v:Int)) f 3):=by
  intro f a m;rw[q];generalize bP (eI 1000 x g (v:Int)) f=G;unfold eI mQ;rcases m with rfl|rfl|rfl
  ·rw[if_pos (by decide),cS (by decide),if_pos Z,if_pos Z];split
   ·rw[i];rfl
   ·rfl
  ·rw[if_pos (by decide),cS (by decide),if_neg (show¬(1:Int)=0 by decide),if_pos Z,if_neg (show¬(1:Int)=0 by decide),if_pos Z];split
   ·rfl
   ·rfl
  ·rw[if_pos (by decide),cS (by decide),if_neg (show¬(2:Int)=0 by decide),if_neg (show¬(2:Int)=1 by decide),if_neg (show¬(2:Int)=0 by decide),if_neg (show¬(2:Int)=1 by decide)];split
   ·rw[j];rfl
   ·rfl
 unfold kB lo hi;rcases n with h|h|h
 ·rw[b 999 0 (.inl Z),if_pos Z,if_pos h.symm,i,h,if_neg (by decide),if_neg (by decide),if_neg (by decide),if_neg (by decide)]
 ·rw[b 999 0 (.inl Z),if_pos Z,if_neg (by omega),b 998 1 (.inr (.inl Z)),if_neg (by decide),if_pos Z,if_pos h.symm,h,if_pos Z,if_pos Z];rfl
 ·rw[b 999 0 (.inl Z),if_pos Z,if_neg (by omega),b 998 1 (.inr (.inl Z)),if_neg (by decide),if_pos Z,if_neg (by omega),b 997 2 (.inr (.inr Z)),if_neg (by decide),if_neg (by decide),if_pos h.symm,j,h,if_neg (by decide),if_pos Z,if_neg (by decide),if_pos Z]
def wJ (g:GR) (a:List EU) (v x:Nat):dQ:=(lo g (at' a (x:Int)) v,hi g (at' a (x:Int)) v)
def Bl (g:GR) (a:List EU) (v:Nat):fD:=(List.range a.length).map (wJ g a v)
def Ag (g:GR) (a:List EU):fL:=(List.range g.2.length).map (Bl g a)
theorem x_ {a:Type} [Inhabited a] (f:Nat->a) {n k:Nat} (h:k<n):at' ((List.range n).map f) (k:Int)=f k:=by
 rw[lC (by simpa using h)];simp
theorem xJ {a:Type} (f:Nat->a) (z:a) (n k:Nat) (h:k<n):((List.range k).map f++List.replicate (n - k) z).set k (f k)=(List.range (k+1)).map f++List.replicate (n - (k+1)) z:=by
 rw[show n - k=(n - (k+1))+1 by omega,List.replicate_succ,List.set_append_right _ _ (by simp),List.range_succ];simp
theorem Ju {g:GR} (m:VG g) {p:zL} (n:vF g p.2.1):jP 1000 p g=some (Ag g p.2.1):=by
 have s:=m.n24;have d:=m.len;have w:=n.len;let a:=p.2.1;let Q:Nat->fL:=λk=>(List.range k).map (Bl g a)++List.replicate (g.2.length - k) [];have c:∀k,k<=g.2.length->(Q k).length=g.2.length:=λk f=>by simp[Q];omega
 let R:Nat->Nat->fD:=λk j=>(List.range j).map (wJ g a k)++List.replicate (a.length - j) (0,0);have l:∀k j,j<=a.length->(R k j).length=a.length:=λk j b=>by simp[R];omega
 unfold jP;rw[cS (by omega)];rw[show List.replicate (Int.toNat (g.1.length:Int)) ([]:fD)=Q 0 by simp[Q,d]];refine eF (step:=lZ 1000 p g) (K:=some (Ag g a)) g.2.length (λk=>((k:Int),Q k)) (λk e f=> ?_) (λe=> ?_) 1000 (by omega)
 ·unfold lZ;dsimp only;rw[if_pos (by simp;omega),cS (by omega),cS (by rw[c k (by omega)];omega)];refine Eq.trans (?_:_=bP (n_ 1000 p g ((k:Int),Q k) e) 1000 ((0:Int),(Q k).set k (R k 0))) ?_
  ·rw[Int.toNat_natCast,Int.toNat_natCast];simp[R,a]
  refine eF (step:=n_ 1000 p g ((k:Int),Q k) e) (K:=e (((k+1:Nat):Int),Q (k+1))) a.length (λj=>((j:Int),(Q k).set k (R k j))) (λj h b=> ?_) (λh=> ?_) 1000 (by show p.2.1.length<1000;omega)
  ·have u:j<p.2.1.length:=b;have t:=Kg m (n.small j b) (n.kind j b) f;have v:k<(Q k).length:=by rw[c k (by omega)];exact f
   have o:∀X:fD,at' ((Q k).set k X) (k:Int)=X:=λX=>by rw[uO _ _ _ _ v,if_pos Z]
   have i:j<(R k j).length:=by rw[l k j (by omega)];exact b
   unfold n_;dsimp only;rw[if_pos (by omega),cS (by omega),cS (by simp only[List.length_set];omega),cS (by simp only[List.length_set];omega),bF (show kB 1000 _ g (k:Int)=_ from t),Int.toNat_natCast,Int.toNat_natCast];simp only[o,List.set_set];rw[cS (by omega),cS (by simp only[List.length_set];omega),dG (by omega)];have:(R k j).set j (lo g (at' p.2.1 (j:Int)) k,hi g (at' p.2.1 (j:Int)) k)=R k (j+1):=xJ (wJ g a k) (0,0) a.length j b;rw[uO _ _ _ _ i,if_pos Z];dsimp only;rw[this]
  ·unfold n_ tW;dsimp only;rw[if_neg (show¬((a.length:Nat):Int)<(p.2.1.length:Int)from Int.lt_irrefl _),dG (by omega)];have q:R k a.length=Bl g a k:=by simp[R,Bl]
   have r:(Q k).set k (Bl g a k)=Q (k+1):=xJ (Bl g a) [] g.2.length k f;rw[q,r]
 ·unfold lZ tV;dsimp only;rw[if_neg (by simp;omega)];simp[Q,Ag]
theorem Ya {g:GR} (c:VG g) {p:zL} (b:vF g p.2.1):tG 1000 p g=some 0:=by
 have i:=c.n1;have h:=b.len;unfold tG;rw[bF (show AP 1000 _=some true from rfl),if_neg (by decide),bF (show eC 1000 g=some true from(DN g).1 c),if_neg (by decide)];refine eF (step:=nC 1000 p g) (K:=some 0) p.2.1.length (λk=>(k:Int)) (λk e d=> ?_) (λe=> ?_) 1000 (by omega)
 ·unfold nC pP vK pP;rw[if_pos (by omega),cS (by omega),dG (by omega)];by_cases a:(at' p.2.1 (k:Int)).2.1=1
  ·obtain⟨j,l,m⟩:=b.range k d a;have f:=Kg c (b.small k d) (b.kind k d) (v:=0) (by omega);rw[if_neg (by simpa using a),bF (show kB 1000 _ g (0:Int)=_ from f)];dsimp only;rw[if_neg (by omega),wr (x:=hi g (at' p.2.1 (k:Int)) 0 - lo g (at' p.2.1 (k:Int)) 0) (by omega) (by omega),wr (by omega) (by omega),if_neg (by rw[decide_eq_true_eq];omega)]
  ·rw[if_pos a]
 ·unfold nC vJ;rw[if_neg (by omega)]
theorem VS {g:GR} {a:List EU} (i:a.length<=20) {v:Nat} {l:aS} (c:l.length=a.length) (d:∀x,x<a.length->lo g (at' a (x:Int)) v<=at' l (x:Int)∧at' l (x:Int)<=hi g (at' a (x:Int)) v):vV 1000 (Bl g a v) l=some true:=by
 have f:(Bl g a v).length=a.length:=by simp[Bl]
 unfold vV;rw[if_neg (by rw[f,c];simp)];refine eF (step:=oC (Bl g a v) l) (K:=some true) l.length (λk=>(k:Int)) (λk b h=> ?_) (λb=> ?_) 1000 (by omega)
 ·have e:at' (Bl g a v) (k:Int)=wJ g a v k:=x_ _ (by omega);have:=d k (by omega);unfold oC uF;rw[if_pos (by omega),cS (by omega),cS (by omega),e];rw[if_neg (show¬at' l (k:Int)<(wJ g a v k).1 from Int.not_lt.2 this.1),cS (by omega),if_neg (by rw[decide_eq_true_eq];exact Int.not_lt.2 this.2),dG (by omega)]
 ·unfold oC uE;rw[if_neg (by omega)]
theorem Ng {g:GR} (a:VG g) {p:zL} (f:vF g p.2.1) {c:bE} (b:FY g c p.2.1):nK 1000 p g c=some 0:=by
 have i:=a.n24;have l:(Ag g p.2.1).length=g.2.length:=by simp[Ag]
 have d:=b.len;unfold nK;rw[bF (show tG 1000 _ _=some 0 from Ya a f),if_neg (by decide),bF (show jP 1000 _ _=_ from Ju a f)];have:uD 1000 (Ag g p.2.1) c=some true:=by
  unfold uD;rw[if_neg (by rw[l,d];simp)];refine eF (step:=pZ 1000 (Ag g p.2.1) c) (K:=some true) g.2.length (λk=>(k:Int)) (λk h e=> ?_) (λh=> ?_) 1000 (by omega)
  ·have j:at' (Ag g p.2.1) (k:Int)=Bl g p.2.1 k:=x_ _ e;unfold pZ;rw[if_pos (by omega),cS (by omega),cS (by omega),j,bF (VS f.len (b.row k e) (b.ok k e)),if_neg (by decide),dG (by omega)]
  ·unfold pZ sP;rw[if_neg (by omega)]
 rw[bF this,if_neg (by decide)]
theorem Lr (c:bE) (h:c.length<=900) (e:∀v,v<c.length->(at' c (v:Int)).length<=1000):qW 1000 c=some c:=by
 unfold qW;rw[cS (by omega)];let Q:Nat->bE:=λk=>(List.range k).map (λv:Nat=>at' c (v:Int))++List.replicate (c.length - k) [];rw[show List.replicate (Int.toNat (c.length:Int)) ([]:aS)=Q 0 by simp[Q]];refine eF (step:=r_ c) (K:=some c) c.length (λk=>((k:Int),Q k)) (λk b a=> ?_) (λb=> ?_) 1000 (by omega)
 ·have g:(Q k).length=c.length:=by simp[Q];omega
  have:=e k a;unfold r_;dsimp only;rw[if_pos (by omega),cS (by omega),cS (by simp;omega),cS (by omega),dG (by omega),Int.toNat_natCast,List.nil_append];have:(Q k).set k (at' c (k:Int))=Q (k+1):=xJ (λv:Nat=>at' c (v:Int)) [] c.length k a;rw[this]
 ·unfold r_ vY;dsimp only;rw[if_neg (by omega)];congr 1;refine List.ext_getElem (by simp[Q]) λi f d=> ?_;simp[Q,lC d]
def sat (x:Int):Int:=max (-1073741824) (min x 1073741824)
def unD (o x:Int):Int:=if o=18 then wI .i64 (0 - x)else Gk (decide (x=0))
def YC (a b:Int):Int:=if b=0 then 0 else if Int.tmod a b≠0∧((decide (a<0)) != (decide (b<0)))=true then wI .i64 (wI .i64 (Int.tdiv a b) - 1)else wI .i64 (Int.tdiv a b)
def aao (o x y:Int):Bool:=if o=35 then decide (x=y)else if o=36 then decide (x≠y)else if o=37 then decide (x<y)else if o=38 then decide (x<=y)else if o=39 then decide (y<x)else decide (y<=x)
def biD (o x y:Int):Int:=
 if o=30 then sat (wI .i64 (x*y))else if o=31 then sat (YC x y)else if o=32 then(if y=0 then 0 else sat (wI .i64 (x - wI .i64 (y*YC x y))))else if o=33 then sat (wI .i64 (x+y))else if o=34 then sat (wI .i64 (x - y))
 else if o=41 then Gk (decide (x≠0)&&decide (y≠0))else if o=42 then Gk (decide (x≠0)||decide (y≠0))else Gk (aao o x y)
theorem VY (f:Nat) (o x:Int):zA f o x=some (unD o x):=by
 unfold zA unD;split
 ·rfl
 ·rw[bF (tQ f _)]
theorem VJ (f:Nat) (a b:Int):qN f a b=some (YC a b):=by
 unfold qN YC;by_cases c:b=0
 ·rw[if_pos c,if_pos c]
 ·rw[if_neg c,if_neg c,cS c,cS c];by_cases d:Int.tmod a b=0
  ·rw[if_neg (by simpa using d),if_neg (by simp[d])];rfl
  ·rw[if_pos d];unfold sM pS;by_cases e:((decide (a<0)) != (decide (b<0)))=true
   ·rw[if_pos e,if_pos ⟨d,e⟩]
   ·rw[if_neg e,if_neg (λq=>e q.2)]
theorem aap (f:Nat) (o x y:Int):uC f o x y=some (aao o x y):=by
 unfold uC aao
 repeat' split
 all_goals rfl
theorem Sk (f:Nat) (o x y:Int):xI f o x y=some (biD o x y):=by
 unfold xI biD;by_cases h:o=30
 ·rw[if_pos h,if_pos h];rfl
 rw[if_neg h,if_neg h];by_cases h:o=31
 ·rw[if_pos h,if_pos h,bF (VJ f x y)];rfl
 rw[if_neg h,if_neg h];by_cases h:o=32
 ·rw[if_pos h,if_pos h];by_cases b:y=0
  ·rw[if_pos b,if_pos b]
  ·rw[if_neg b,if_neg b,bF (VJ f x y)];rfl
 rw[if_neg h,if_neg h];by_cases h:o=33
 ·rw[if_pos h,if_pos h];rfl
 rw[if_neg h,if_neg h];by_cases h:o=34
 ·rw[if_pos h,if_pos h];rfl
 rw[if_neg h,if_neg h];by_cases h:o=41
 ·rw[if_pos h,if_pos h];by_cases a:x=0
  ·rw[if_neg (by simpa using a),bF (tQ f _)];simp[a,pQ]
  ·rw[if_pos a,bF (tQ f _)];simp[a,pQ]
 rw[if_neg h,if_neg h];by_cases h:o=42
 ·rw[if_pos h,if_pos h];by_cases a:x=0
  ·rw[if_neg (by simpa using a),bF (tQ f _)];simp[a,pR]
  ·rw[if_pos a,bF (tQ f _)];simp[a,pR]
 rw[if_neg h,if_neg h,bF (aap f o x y),bF (tQ f _)]
def E.den (L:Int->Int->Int->Int) (b:Nat):E->Int->Int
 |lf o a,p=>L o a p
 |un o x,p=>unD o (x.den L b p)
 |ag o x,_=>QK o ((List.range b).map λq=>x.den L b ((q:Nat):Int))
 |bi o x y,p=>biD o (x.den L b p) (y.den L b p)
 |ite x y z,p=>if x.den L b p≠0 then y.den L b p else z.den L b p
def E.wf (c:Nat):Bool->E->Bool
 |b,lf o a=>decide (1<=o)&&decide (o<=17)&&(b||decide (o<=10))&&((decide (o≠5)&&decide (o≠12))||(decide (0<=a)&&decide (a<(c:Int))))
 |b,un o x=>decide (18<=o)&&decide (o<=19)&&x.wf c b
 |_,ag o x=>(decide (o=20)||decide (o=21)||decide (o=22)||decide (o=23)||decide (o=24)||decide (o=26)||decide (o=27))&&x.wf c true
 |b,bi o x y=>decide (30<=o)&&decide (o<=42)&&x.wf c b&&y.wf c b
 |b,ite x y z=>x.wf c b&&y.wf c b&&z.wf c b
theorem Wv {i:Nat}:∀{e:E} {b:Bool},e.wf i b=true->e.arOk=true:=by
 intro e
 induction e with
 |lf o a=>intro b h;simp[E.wf,E.arOk]at h ⊢;omega
 |un o x f=>intro b h;simp[E.wf,E.arOk]at h ⊢;exact⟨h.1,f h.2⟩
 |ag o x f=>intro b h;simp[E.wf,E.arOk]at h ⊢;exact⟨by omega,f h.2⟩
 |bi o x y c d=>intro b h;simp[E.wf,E.arOk]at h ⊢;exact⟨⟨h.1.1,c h.1.2⟩,d h.2⟩
 |ite x y z c d g=>intro b h;simp[E.wf,E.arOk]at h ⊢;exact⟨⟨c h.1.1,d h.1.2⟩,g h.2⟩
def Vp (W:WLK) (p:Int):Int:=(at' (at' W.1.2.1.2 W.2.2.1) p).1
def Zj (W:WLK) (o a p:Int):Int:=
 if o=1 then a else if o=2 then 1 else if o=3 then 0 else if o=4 then -1 else if o=5 then at' (at' W.2.1 W.2.2.1) a else if o=12 then at' (at' W.2.1 (Vp W p)) a
 else if o=6 then(W.1.2.1.1.length:Int)else if o=7 then W.1.2.2.1 else if o=8 then at' W.1.2.1.1 W.2.2.1 else if o=9 then((at' W.1.2.1.2 W.2.2.1).length:Int)else if o=10 then Gk (decide (W.2.2.1=0))else if o=11 then p
 else if o=13 then at' W.1.2.1.1 (Vp W p)else if o=14 then((at' W.1.2.1.2 (Vp W p)).length:Int)else if o=15 then Gk (decide (Vp W p=0))else if o=16 then(at' (at' W.1.2.1.2 W.2.2.1) p).2 else at' (at' W.1.2.2.2 W.2.2.1) p
structure WOk (W:WLK) (nv n v:Nat):Prop where
 node:W.2.2.1=(v:Int)
 lt:v<n
 ports:W.1.2.1.2.length=n
 ids:W.1.2.1.1.length=n
 c:W.2.1.length=n
 row:∀u:Nat,u<n->(at' W.2.1 (u:Int)).length=nv
 to:∀u:Nat,u<n->∀i:Nat,i<(at' W.1.2.1.2 (u:Int)).length->0<=(at' (at' W.1.2.1.2 (u:Int)) (i:Int)).1∧(at' (at' W.1.2.1.2 (u:Int)) (i:Int)).1<(n:Int)
 bl:W.1.2.2.2.length=n
 br:∀u:Nat,u<n->(at' W.1.2.2.2 (u:Int)).length=(at' W.1.2.1.2 (u:Int)).length
def TI (b:Bool) (a:Nat) (p:Int):Prop:=b=true->∃q:Nat,p=(q:Int)∧q<a
theorem Yp {W:WLK} {k n v:Nat} (h:WOk W k n v) (f:Nat) {b:Bool} {o a p:Int} (s:(E.lf o a).wf k b=true) (r:TI b (at' W.1.2.1.2 (v:Int)).length p):mD f W (o,a) p=some (Zj W o a p):=by
 obtain⟨y,c,A,B,C,l,m,F,w⟩:=h;simp only[E.wf,Bool.and_eq_true,Bool.or_eq_true,decide_eq_true_eq]at s;obtain⟨⟨⟨G,H⟩,d⟩,I⟩:=s;have z:(at' W.2.1 (v:Int)).length=k:=l v c;unfold mD Zj Vp;dsimp only;rw[y];by_cases e:o=1
 ·simp only[if_pos e]
 simp only[if_neg e];by_cases e:o=2
 ·simp only[if_pos e]
 simp only[if_neg e];by_cases e:o=3
 ·simp only[if_pos e]
 simp only[if_neg e];by_cases e:o=4
 ·simp only[if_pos e]
 simp only[if_neg e];by_cases e:o=5
 ·simp only[if_pos e];rw[cS (by omega),cS (by omega)]
 simp only[if_neg e];by_cases e:o=12
 ·have i:b=true:=by
   rcases d with d|d
   ·exact d
   ·omega
  obtain⟨q,rfl,j⟩:=r i;have g:=m v c q j;obtain⟨u,x⟩:∃u:Nat,(at' (at' W.1.2.1.2 (v:Int)) (q:Int)).1=(u:Int):=⟨_,(Int.toNat_of_nonneg g.1).symm⟩
  simp only[if_pos e];rw[x]at g ⊢;have D:=l u (by omega);rw[cS (by omega),cS (by omega),cS (by omega),cS (by omega)]
 simp only[if_neg e];unfold rV;dsimp only;by_cases e:o=6
 ·simp only[if_pos e];rfl
 simp only[if_neg e];by_cases e:o=7
 ·simp only[if_pos e];rfl
 simp only[if_neg e];by_cases e:o=8
 ·simp only[if_pos e];rw[cS (by omega)];rfl
 simp only[if_neg e];by_cases e:o=9
 ·simp only[if_pos e];rw[cS (by omega)];rfl
 simp only[if_neg e];by_cases e:o=10
 ·simp only[if_pos e];rw[bF (tQ f _)];rfl
 simp only[if_neg e];by_cases e:o=11
 ·simp only[if_pos e];rfl
 simp only[if_neg e];have i:b=true:=by
  rcases d with d|d
  ·exact d
  ·omega
 obtain⟨q,rfl,j⟩:=r i;have g:=m v c q j;rw[cS (by omega),cS (by omega)];by_cases e:o=13
 ·simp only[if_pos e];rw[cS (by omega)];rfl
 simp only[if_neg e];by_cases e:o=14
 ·simp only[if_pos e];rw[cS (by omega)];rfl
 simp only[if_neg e];by_cases e:o=15
 ·simp only[if_pos e];rw[bF (tQ f _)];rfl
 simp only[if_neg e];by_cases e:o=16
 ·simp only[if_pos e];rfl
 simp only[if_neg e];have t:=w v c;rw[cS (by omega),cS (by omega)];rfl
theorem Wo {W:WLK} {nv n v:Nat} (h:WOk W nv n v) {deg:Nat} (m:(at' W.1.2.1.2 (v:Int)).length=deg) (L:deg<=24) (S:W.2.2.2.length<=800):
  ∀(e:E) (b:Bool) (c k:Nat) (p:Int) (g d:fD),W.2.2.2=g++(e.ts++d)->g.length=k->e.wf nv b=true->TI b deg p->e.depth+850<=c->
   bT c W (k:Int) p=some (e.den (Zj W) deg p,(((k+e.ts.length:Nat)):Int)):=by
 obtain⟨Q,ab,h1,h2,h3,h4,h5,_,_⟩:=id h;have i:∀{t:dQ} {l g d:fD} {k:Nat},W.2.2.2=g++((t::l)++d)->g.length=k->at' W.2.2.2 (k:Int)=t∧(k:Int)<(W.2.2.2.length:Int):=by
  intro t l g d k j r;refine⟨Lk (rest:=l++d) (by simpa using j) r,?_⟩
  rw[j];simp;omega
 intro e
 induction e with
 |lf o a=>
  intro b c k p g d j r u w B;obtain⟨c,rfl⟩:∃f,c=f+1:=⟨c - 1,by omega⟩
  obtain⟨A,s⟩:=i (l:=[]) j r;show cR (bT c) c W (k:Int) p=_;unfold cR;rw[cS ⟨by omega,s⟩,A];dsimp only;have X:=u;simp only[E.wf,Bool.and_eq_true,Bool.or_eq_true,decide_eq_true_eq]at X;have hl:=Yp h c u (m▸w);rw[if_pos (by omega),bF (show mD c _ (o,a) p=some (Zj W o a p)from hl),dG (by omega)];rfl
 |un o x ih=>
  intro b c k p g d j r u w B;obtain⟨c,rfl⟩:∃f,c=f+1:=⟨c - 1,by omega⟩
  obtain⟨A,s⟩:=i (l:=x.ts) j r;show cR (bT c) c W (k:Int) p=_;unfold cR;rw[cS ⟨by omega,s⟩,A];dsimp only;simp only[E.wf,Bool.and_eq_true,decide_eq_true_eq]at u;simp only[E.depth]at B;have F:=ih b c (k+1) p (g++[(o,0)]) d (by rw[j];simp[E.ts]) (by simp[r]) u.2 w (by omega);rw[if_neg (by omega),if_pos (by omega),dG (by omega),bF (show bT c _ _ p=_ from F),bF (VY c _ _)];simp only[E.den,E.ts,List.length_cons];rw[show k+1+x.ts.length=k+(x.ts.length+1) by omega]
 |bi o x y G H=>
  intro b c k p g d j r u w B;obtain⟨c,rfl⟩:∃f,c=f+1:=⟨c - 1,by omega⟩
  obtain⟨A,s⟩:=i (l:=x.ts++y.ts) j r;show cR (bT c) c W (k:Int) p=_;unfold cR;rw[cS ⟨by omega,s⟩,A];dsimp only;simp only[E.wf,Bool.and_eq_true,decide_eq_true_eq]at u;simp only[E.depth]at B;have F:=G b c (k+1) p (g++[(o,0)]) (y.ts++d) (by rw[j];simp[E.ts]) (by simp[r]) u.1.2 w (by omega);have Y:=H b c (k+1+x.ts.length) p (g++(o,0)::x.ts) d (by rw[j];simp[E.ts]) (by simp[r];omega) u.2 w (by omega);rw[if_neg (by omega),if_neg (by omega),if_neg (by omega),if_pos (by omega),dG (by omega),bF (show bT c _ _ p=_ from F),bF (show bT c _ _ p=_ from Y),bF (Sk c _ _ _)];simp only[E.den,E.ts,List.length_cons,List.length_append];rw[show k+1+x.ts.length+y.ts.length=k+(x.ts.length+y.ts.length+1) by omega]
 |ite x y z G H aa=>
  intro b c k p g d j r u w B;obtain⟨c,rfl⟩:∃f,c=f+1:=⟨c - 1,by omega⟩
  obtain⟨A,s⟩:=i (l:=x.ts++(y.ts++z.ts)) j r;show cR (bT c) c W (k:Int) p=_;unfold cR;rw[cS ⟨by omega,s⟩,A];dsimp only;simp only[E.wf,Bool.and_eq_true]at u;simp only[E.depth]at B;have F:=G b c (k+1) p (g++[(43,0)]) (y.ts++z.ts++d) (by rw[j];simp[E.ts]) (by simp[r]) u.1.1 w (by omega);have Y:=H b c (k+1+x.ts.length) p (g++(43,0)::x.ts) (z.ts++d) (by rw[j];simp[E.ts]) (by simp[r];omega) u.1.2 w (by omega);have hz:=aa b c (k+1+x.ts.length+y.ts.length) p (g++(43,0)::(x.ts++y.ts)) d (by rw[j];simp[E.ts]) (by simp[r];omega) u.2 w (by omega);rw[if_neg (by decide),if_neg (by decide),if_neg (by decide),if_neg (by decide),dG (by omega),bF (show bT c _ _ p=_ from F),bF (show bT c _ _ p=_ from Y),bF (show bT c _ _ p=_ from hz)];simp only[E.den,E.ts,List.length_cons,List.length_append];rw[show k+1+x.ts.length+y.ts.length+z.ts.length=k+(x.ts.length+(y.ts.length+z.ts.length)+1) by omega];split<;>rfl
 | ag o x ih =>
  intro b c k p g d j r u w B;obtain⟨c,rfl⟩:∃f,c=f+1:=⟨c - 1,by omega⟩
  obtain⟨A,s⟩:=i (l:=x.ts) j r;have T:=Wv u;have R:=u;simp only[E.wf,Bool.and_eq_true,Bool.or_eq_true,decide_eq_true_eq]at R;simp only[E.depth]at B;have P:(E.ag o x).ts.length=x.ts.length+1:=rfl;have M:=congrArg List.length j;simp only[List.length_append]at M;show cR (bT c) c W (k:Int) p=_;unfold cR;rw[cS ⟨by omega,s⟩,A];dsimp only;rw[if_neg (by omega),if_neg (by omega),if_pos (by omega),cS (by omega)];let D:Nat->Int:=λq=>x.den (Zj W) deg ((q:Nat):Int);let V:Nat->aS:=λq=>(List.range q).map D++List.replicate (24 - q) 0;have J:∀q,q<=24->(V q).length=24:=λq U=>by simp[V];omega
  have O:∀q,q<24->(V q).set q (D q)=V (q+1):=λq U=>by
   show((List.range q).map D++List.replicate (24 - q) 0).set q (D q)=(List.range (q+1)).map D++List.replicate (24 - (q+1)) 0;rw[show 24 - q=(24 - (q+1))+1 by omega,List.replicate_succ,List.set_append_right _ _ (by simp),List.range_succ];simp
  let N:Nat->Int:=λq=>if q=0 then 0 else(((k+1+x.ts.length:Nat)):Int)
  refine Eq.trans (eF (step:=kJ c W (k:Int) (bT c)) (K:=some ((E.ag o x).den (Zj W) deg p,(((k+(E.ag o x).ts.length:Nat)):Int))) deg (λq=>(N q,(q:Int),V q)) (λq ag U=> ?_) (λag=> ?_) c (by omega)) Z
  ·unfold kJ;dsimp only;have F:=ih true c (k+1) ((q:Nat):Int) (g++[(o,0)]) d (by rw[j];simp[E.ts]) (by simp[r]) R.2 (λ_=>⟨q,rfl,U⟩) (by omega);rw[if_pos (by rw[Q,m];omega),dG (by omega),bF (show bT c _ _ _=_ from F),cS ⟨by omega,J q (by omega)⟩,dG (by omega),Int.toNat_natCast];show ag (_,_,(V q).set q (D q))=_;rw[O q (by omega)];simp only[N];rw[if_neg (by omega)]
  ·unfold kJ;dsimp only;rw[if_neg (by rw[Q,m];omega)];have C:List.take deg (V deg)=(List.range deg).map D:=by
    show List.take deg ((List.range deg).map D++_)=_;exact List.take_left' (by simp)
   have I:∀y:Int,y=(((k+1+x.ts.length:Nat)):Int)->kI c W (k:Int) (N deg,V deg) y=some ((E.ag o x).den (Zj W) deg p,(((k+(E.ag o x).ts.length:Nat)):Int)):=by
    rintro y rfl;unfold kI;dsimp only;rw[Q,m,cS ⟨by omega,by omega,by rw[J deg L];omega⟩,A,Int.toNat_natCast,C,bF (Yb c o _ (by omega) (by simp;omega) (by omega))];unfold nR;rw[P,show k+1+x.ts.length=k+(x.ts.length+1) by omega];rfl
   unfold rA;dsimp only;by_cases h0:deg=0
   ·rw[if_pos (by rw[Q,m];omega),bF (aaw c (E.ag o x) T j r S (by omega))];exact I _ (by rw[P];omega)
   ·rw[if_neg (by rw[Q,m];omega)];exact I _ (by simp only[N];rw[if_neg h0])
end Go.Proofs.YtjkjpdonlpdcaaaGreatDoor
namespace Go.Proofs.YtjkjpdonlpdcaaaGreatDoor
open Go.Sx
def fT (U:Nat) (a:Tf) (b:bE) (c:Int) (d:fD):Option (Int):=
 Option.bind (bT U ((((((a.1.1,a.1.2.1,a.1.2.2)),((a.2.1.1,a.2.1.2)),a.2.2.1,a.2.2.2)),b,c,d)) (0:Int) (-1:Int)) λe=>(some (e.1))
theorem Qx:aR Tryz.prog 251:=Tryz.call251
theorem wL (U:Nat) {d:Tf} {s:bE} {f:Int} {t:fD} (a:Nat)  (m:Value)  (n:Value)  (o:Value)  (p:Value)  (u:mV)  (q:Value)  (v:pA)  (e:Value)  (y:pA)  (b:Value) (r:Int) (h:fT U d s f t=some r):
  aW Tryz.prog 251 #[vP a,e,vI (f),b] [bX a [vS (d.1.1),m,n,o,p,vI (d.2.2.1),q] 212,Sl aJ m d.1.2.1,Sl aG n d.1.2.2,Sl bJ o d.2.1.1,S2 bG p u d.2.1.2,S2 bJ q v d.2.2.2,S2 bJ e y s,Sl bG b t] (λx:Unit=>vI (r)) (λx l=>l) (λ_ l=>l):=by
 refine aW.of Tryz.func251 Z Tryz.ntmps251 Z λc=>?_;refine aP<|aC Z<|aN<|aP<|aA Z<|aA Z<|aA Z<|aA Z<|bZ (Know.one (aF.sl (aF.fact 6 Z))) λg=>bZ (Know.one ((aF.fact 7 Z))) λi=>?_;refine aD (ZN (r:=Value.agg #[Value.pointer (some ⟨a,0,none⟩),e,vI (f),b]) Z Z Z Z (by intro w;simp[Instr.build,Instr.fill,dV,cY,cM,dW,dX,cZ,eT,kA g,kA i])) Z ?_;refine aH (aL.alloc (cs:=[Value.pointer none,lX,vI (0:Int),lX]) Z Z) Z λz=>bZ (Know.one (aF.sl (aF.fact 6 Z))) λj=>bZ (Know.one ((aF.fact 7 Z))) λk=>bO 0 (vs:=[vP a,e,vI (f),b]) Z Z (cG Z (cG j (cG Z (cG k Z)))) Z Z Z<|aN<|aP<|fE h λA B h=>aH (aL.callQ Au (C_ U z a m n o p u q v e y b A B) Z (aE.cons (aF.res 0 Z) (mK [0,1,2,3,4,5,6,7] Z))) Z λC=>aA Z<|gA Z<|gA Z<|aC Z<|aC Z<|aN<|aP<|aA Z<|aC Z<|aN<|aV ?_;cases h;exact wD Z
def kN (U:Nat) (a:Tf) (c:bE) (d:Int) (b:Int):Option (Bool):=
 ck (0<=b∧b<(List.length a.1.2.2:Int)) (Option.bind (fT U ((((a.1.1,a.1.2.1,a.1.2.2)),((a.2.1.1,a.2.1.2)),a.2.2.1,a.2.2.2)) c d ((at' a.1.2.2 b).2.1.2)) λe=>(some (decide (e≠(0:Int)))))
theorem Xz:aR Tryz.prog 250:=Tryz.call250
theorem Cu (U:Nat) {a:Tf} {n:bE} {o:Int} {e:Int} (b:Nat)  (f:Value)  (g:Value)  (i:Value)  (j:Value)  (p:mV)  (k:Value)  (q:pA)  (m:Value)  (s:pA) (r:Bool) (h:kN U a n o e=some r):
  aW Tryz.prog 250 #[vP b,m,vI (o),vI (e)] [bX b [vS (a.1.1),f,g,i,j,vI (a.2.2.1),k] 212,Sl aJ f a.1.2.1,Sl aG g a.1.2.2,Sl bJ i a.2.1.1,S2 bG j p a.2.1.2,S2 bJ k q a.2.2.2,S2 bJ m s n] (λx:Unit=>vB (r)) (λx l=>l) (λ_ l=>l):=by
 refine aW.of Tryz.func250 Z Tryz.ntmps250 Z λc=>?_;refine aP<|aC Z<|aN<|aP<|aA Z<|aA Z<|aA Z<|aA Z<|aD (bW Z) Z<|bV Z<|bV Z<|aD (dU Z (aF.fact 0 Z) Z Z Z) Z<|aA Z<|eH h λd h=>aD (bK Z Z (aF.fact 2 Z) Z Z d) Z<|aD (lO Z Z Z Z Z) Z<|aD (oH Z (aF.fact 2 Z) Z Z Z yU d) Z<|fE h λt u h=>aH (aL.callQ Qx (wL U b f g i j p k q m s ((at' a.1.2.2 e).2.1.1) t u) Z (aE.cons (aF.fact 0 Z) (aE.cons (aF.fact 1 Z) (aE.cons (aF.fact 2 Z) (aE.cons (aF.fact 3 Z) (aE.cons (aF.fact 4 Z) (aE.cons (aF.fact 5 Z) (aE.cons (aF.fact 6 Z) (aE.cons (uT (aF.fact 2 Z) yW d.1 d.2) .nil))))))))) Z λv=>p_ Z<|aC Z<|aN<|aV ?_;cases h;exact lL Z
def nT  (a:Unit):Option (Int):=
 some (-1:Int)
def kL (U:Nat) (a:G_) (d:bE) (e:Int) (b:Int) (c:(Int)->Option (Int)):Option (Int):=
 if b<(List.length a.1.2.2:Int)then(Option.bind (kN U ((((a.2.1.1.1,a.2.1.1.2.1,a.2.1.1.2.2)),((a.2.1.2.1.1,a.2.1.2.1.2)),a.2.1.2.2.1,a.2.1.2.2.2)) d e b) λf=>(if f=true then(some (b))else(c (wI .i64 (b+(1:Int))))))else(nT  (()))
def eL (U:Nat) (a:G_) (b:bE) (c:Int):Option (Int):=
 bP (kL U a b c) U (0:Int)
theorem Qt:aR Tryz.prog 222:=Tryz.call222
theorem yA (U:Nat) {a:G_} {n:bE} {m:Int} (d:Nat)  (z:Value)  (A:Value)  (e:Nat)  (o:Value)  (p:Value)  (q:Value)  (s:Value)  (B:mV)  (t:Value)  (g:pA)  (f:Value)  (v:mV)  (b:Value)  (i:pA) (r:Int) (h:eL U a n m=some r):
  aW Tryz.prog 222 #[vP d,b,vI (m)] [bX d [vS (a.1.1),z,A,vP e,f] 165,Sl aJ z a.1.2.1,Sl aG A a.1.2.2,bX e [vS (a.2.1.1.1),o,p,q,s,vI (a.2.1.2.2.1),t] 212,Sl aJ o a.2.1.1.2.1,Sl aG p a.2.1.1.2.2,Sl bJ q a.2.1.2.1.1,S2 bG s B a.2.1.2.1.2,S2 bJ t g a.2.1.2.2.2,S2 bG f v a.2.2,S2 bJ b i n] (λx:Unit=>vI (r)) (λx l=>l) (λ_ l=>l):=by
 refine aW.of Tryz.func222 Z Tryz.ntmps222 Z λc=>?_;unfold eL at h;refine aP<|aC Z<|aN<|aM<|fF (λj=>nT  j=some r) (λj w=>[]) (λj w=>[]) ?_ ?_
 ·refine aP<|aA Z<|aD (bW Z) Z<|bV Z<|bV Z<|aD (dU Z (aF.fact 0 Z) Z Z Z) Z<|jS (aF.fact 2 Z) Z<|aA Z<|aN<|aT<|fJ (kL U a n m) (λk y=>[(0,vP d),(1,b),(2,vI (m)),(13,vI (List.length a.1.2.2:Int)),(14,vI (k))]) (λk y=>[]) (0:Int) () h SF (bA.refl _) ?_;intro E k y h;refine aP<|cW Z<|aN<|aM ?_;refine dK h Z (λh=>?_) λh=>?_
  ·refine cT<|aM<|aT<|aP<|aA Z<|aC Z<|aN<|aP<|aA Z<|aD (bW Z) Z<|bV Z<|aD (dU Z (aF.fact 0 Z) Z Z Z) Z<|aA Z<|aA Z<|aA Z<|fE h λC u h=>aH (aL.callQ Xz (Cu U e o p q s B t g b i C u) Z (mK [3,4,5,6,7,8,10] Z)) Z λD=>aN ?_;refine BF h Z (λ_ h=>?_) λ_ h=>?_
   ·refine aP<|aA Z<|aC Z<|aN<|aV<|bS<|aK<|aK<|bS<|aK ?_;cases h;exact lL Z
   refine dR<|oP<|aQ<|cJ Z<|aA Z<|aN ?_;exact AX (wI .i64 (k+(1:Int))) () h SF Z
  refine gX ?_;exact iP () (()) h SF Z
 intro j w h;unfold nT at h;refine aP<|aC Z<|aN<|aV ?_;cases h;exact lL Z
def tU (d:Int) (a:dQ) (b:Int) (c:Bool):Option (Int):=
 if c=true then(some (b))else(if d=(3:Int)then(some (-1:Int))else(if b<a.1 then(some (a.1))else(some (a.2))))
def rW (U:Nat) (c:Int) (a:dQ) (b:Int):Option (Int):=
 if a.1<=b then(tU c a b (decide (b<=a.2)))else(tU c a b (false))
theorem Uo:aR Tryz.prog 99:=Tryz.call99
theorem Dc (U:Nat) {e:Int} {a:dQ} {d:Int} (r:Int) (h:rW U e a d=some r):
  aW Tryz.prog 99 #[vI (e),Value.agg #[vI (a.1),vI (a.2)],vI (d)] [] (λx:Unit=>vI (r)) (λx l=>l) (λ_ l=>l):=by
 refine aW.of Tryz.func99 Z Tryz.ntmps99 Z λc=>?_;refine aP<|aH (aL.box (cs:=[vI (a.1),vI (a.2)]) Z Z) Z λf=>aC Z<|aN<|aM<|aT<|aM<|fF (λb=>tU e a d b=some r) (λb g=>[(0,vI (e)),(2,vI (d)),(4,vP f),(7,vB (b))]) (λb g=>[bX f [vI (a.1),vI (a.2)] 53]) ?_ ?_
 ·refine aQ<|aA Z ?_;refine aD (kQ (i:=0) Z Z Z Z Z (by decide)) Z ?_;refine dO 0 Z<|aD (Eb Z Z) Z<|aA Z ?_;refine CP h Z (λ_ h=>?_) λ_ h=>?_
  ·refine eP Z ?_;refine aU Z (kQ (i:=1) Z Z Z Z Z (by decide)) Z ?_;refine aU Z (eS 0 Z Z Z Z Z) Z<|aU Z (A_ Z Z) Z<|eR Z<|aC Z<|aN ?_;exact iP (decide (d<=a.2)) () h SF Z
  refine aI Z<|aI Z<|aI Z<|aI Z<|eY Z<|aC Z<|aN ?_;exact iP (false) () h SF Z
 intro b g h;refine BF h Z (λ_ h=>?_) λ_ h=>?_
 ·refine aP<|aA Z<|aC Z<|aN<|aV<|bS<|aK ?_;cases h;exact wD Z
 refine aP<|aA Z<|bR Z<|aC Z<|aN ?_;refine dK h Z (λh=>?_) λh=>?_
 ·refine aP<|aC Z<|aN<|aV<|bS<|aK ?_;cases h;exact wD Z
 refine aP<|aA Z ?_;refine aD (kQ (i:=0) Z Z Z Z Z (by decide)) Z ?_;refine dO 0 Z<|cW Z<|aC Z<|aN ?_;refine dK h Z (λh=>?_) λh=>?_
 ·refine aP ?_;refine aD (kQ (i:=0) Z Z Z Z Z (by decide)) Z ?_;refine dO 0 Z<|aC Z<|aN<|aV<|bS<|aK ?_;cases h;exact wD Z
 refine dR<|oP<|aP ?_;refine aD (kQ (i:=1) Z Z Z Z Z (by decide)) Z ?_;refine dO 0 Z<|aC Z<|aN<|aV ?_;cases h;exact wD Z
def nS  (a:aS):Option aS:=
 some (a)
def kK (U:Nat) (b:G_) (h:bE) (d:Int) (c:Int) (a:Aj) (e:(Int×aS)->Option aS):Option aS:=
 if a.1<(List.length ((at' b.1.2.2 c).2.2.2):Int)then(ck (0<=a.1∧a.1<(List.length ((at' b.1.2.2 c).2.2.2):Int)) (Option.bind (fT U ((((b.2.1.1.1,b.2.1.1.2.1,b.2.1.1.2.2)),((b.2.1.2.1.1,b.2.1.2.1.2)),b.2.1.2.2.1,b.2.1.2.2.2)) h d ((at' ((at' b.1.2.2 c).2.2.2) a.1).2.2)) λf=>(ck (0<=((at' ((at' b.1.2.2 c).2.2.2) a.1).1)∧((at' ((at' b.1.2.2 c).2.2.2) a.1).1)<(List.length b.1.2.1:Int)) (ck (0<=d∧d<(List.length b.2.2:Int)) (ck (0<=((at' ((at' b.1.2.2 c).2.2.2) a.1).1)∧((at' ((at' b.1.2.2 c).2.2.2) a.1).1)<(List.length (at' b.2.2 d):Int)) (Option.bind (rW U ((at' b.1.2.1 ((at' ((at' b.1.2.2 c).2.2.2) a.1).1)).2.1) ((((at' (at' b.2.2 d) ((at' ((at' b.1.2.2 c).2.2.2) a.1).1)).1),((at' (at' b.2.2 d) ((at' ((at' b.1.2.2 c).2.2.2) a.1).1)).2))) f) λg=>(ck (0<=((at' ((at' b.1.2.2 c).2.2.2) a.1).1)∧((at' ((at' b.1.2.2 c).2.2.2) a.1).1)<(List.length a.2:Int)) (e ((wI .i64 (a.1+(1:Int))),(List.set a.2 (Int.toNat ((at' ((at' b.1.2.2 c).2.2.2) a.1).1)) g))))))))))else(nS  (a.2))
def lH (U:Nat) (d:G_) (b:bE) (a:Int) (c:Int):Option aS:=
 ck (0<=a∧a<(List.length b:Int)) (ck ((List.length ([]:aS):Int)+(List.length (at' b a):Int)<=1099511627) (ck (0<=c∧c<(List.length d.1.2.2:Int)) (bP (kK U d b a c) U ((0:Int),(([]:aS)++(at' b a))))))
theorem Xw:aR Tryz.prog 224:=Tryz.call224
theorem Da (U:Nat) {b:G_} {C:bE} {m:Int} {f:Int} (j:Nat)  (O:Value)  (P:Value)  (k:Nat)  (E:Value)  (F:Value)  (G:Value)  (H:Value)  (Q:mV)  (I:Value)  (y:pA)  (w:Value)  (M:mV)  (i:Value)  (A:pA) (r:aS) (h:lH U b C m f=some r):
  aW Tryz.prog 224 #[vP j,i,vI (m),vI (f)] [bX j [vS (b.1.1),O,P,vP k,w] 165,Sl aJ O b.1.2.1,Sl aG P b.1.2.2,bX k [vS (b.2.1.1.1),E,F,G,H,vI (b.2.1.2.2.1),I] 212,Sl aJ E b.2.1.1.2.1,Sl aG F b.2.1.1.2.2,Sl bJ G b.2.1.2.1.1,S2 bG H Q b.2.1.2.1.2,S2 bJ I y b.2.1.2.2.2,S2 bG w M b.2.2,S2 bJ i A C] (λx:Value=>x) (λx l=>Ar cI x r::l) (λ_ l=>l):=by
 refine aW.of Tryz.func224 Z Tryz.ntmps224 Z λc=>?_;refine aP<|aC Z<|aN<|aP<|aA Z<|aA Z<|eH h λB h=>aD (cV Z Z (aF.fact 10 Z) Z Z B) Z<|aD (cX Z (aF.fact 10 Z) Z Z B) Z<|jK (iD cI)<|eH h λS h=>aH (iL 0 dL Z Z Z (aF.el (aF.fact 10 Z) B.1 B.2) Z Z Z Z S Z) Z λv=>aC Z<|aN<|aM<|fF (λo=>nS  o=some r) (λo N=>[(9,v)]) (λo N=>[Ar cI v o]) ?_ ?_
 ·refine aP<|aA Z<|aD (bW Z) Z<|bV Z<|bV Z<|aD (dU Z (aF.fact 0 Z) Z Z Z) Z<|aA Z<|eH h λg h=>aD (bK Z Z (aF.fact 2 Z) Z Z g) Z<|aD (lO Z Z Z Z Z) Z<|aD (oH Z (aF.fact 2 Z) Z Z Z yV g) Z<|aD (kR Z (uT (aF.fact 2 Z) fU g.1 g.2) Z) Z<|aA Z<|aN<|aT<|fJ (kK U b C m f) (λa p=>[(0,vP j),(1,i),(2,vI (m)),(9,v),(26,(at' b.1.2.2 f).2.2.1),(27,vI (List.length ((at' b.1.2.2 f).2.2.2):Int)),(28,vI (a.1))]) (λa p=>[Ar cI v a.2]) ((0:Int),(([]:aS)++(at' C m))) () h SF (bA.refl _) ?_;intro T a p h;refine aP<|cW Z<|aN<|aM ?_;refine dK h Z (λh=>?_) λh=>?_
  ·refine cT<|aM<|aT<|aP<|eH h λd h=>aD (bK Z Z (uT (aF.fact 2 Z) fU g.1 g.2) Z Z d) Z<|aD (OP (cs:=[vI ((at' ((at' b.1.2.2 f).2.2.2) a.1).1),(at' ((at' b.1.2.2 f).2.2.2) a.1).2.1]) Z (uT (aF.fact 2 Z) fU g.1 g.2) JF Z Z Z Z d) Z<|aH (aL.alloc (cs:=[vI (0:Int),lX]) Z Z) Z λR=>bZ (Know.one ((uT (uT (aF.fact 2 Z) fU g.1 g.2) Ce d.1 d.2))) λq=>bO 0 (vs:=[vI ((at' ((at' b.1.2.2 f).2.2.2) a.1).1),(at' ((at' b.1.2.2 f).2.2.2) a.1).2.1]) Z Z (cG Z (cG q Z)) Z Z Z<|aN<|aM ?_;refine JR.start [0,1,3,7,0,0,0,64,255,511] 8 mixedOrders (by decide +kernel) ?_;refine JR.open (by exact rfl) ?_;refine bD Z<|iB Z (bW Z)<|cH Z<|bL Z .nil (nW 0 Z) (dU Z (aF.fact 0 Z) Z Z Z) aO.z<|bD Z<|bD Z<|cH Z<|gU 0 Z<|bQ 8 Z Z<|fE h λD J h=>aH (aL.callQ Qx (wL U k E F G H Q I y i A ((at' ((at' b.1.2.2 f).2.2.2) a.1).2.1) D J) Z (aE.cons (aF.fact 3 Z) (aE.cons (aF.fact 4 Z) (aE.cons (aF.fact 5 Z) (aE.cons (aF.fact 6 Z) (aE.cons (aF.fact 7 Z) (aE.cons (aF.fact 8 Z) (aE.cons (aF.fact 10 Z) (aE.cons (uT (uT (aF.fact 2 Z) fU g.1 g.2) Ce d.1 d.2) .nil))))))))) Z λV=>aC Z<|aN ?_;refine JR.start [0,0,2,0,8,24,56,120,0,256,1016,2040,4088,0,8192,24576,57344,0,253952,516096,0,1048576,4186112,8380416,0,33554424,67108863,134217727] 26 mixedOrders (by decide +kernel) ?_;refine JR.open (by exact rfl) ?_;refine bD Z<|cH Z<|gU 0 Z<|bD Z<|iB Z (bW Z)<|cH Z<|cH Z<|bL Z .nil (nW 0 Z) (dU Z (aF.fact 0 Z) Z Z Z) aO.z<|cH Z<|gU 0 Z<|eH h λs h=>bL Z .nil (nW 1 Z) (bK Z Z (aF.fact 0 Z) Z Z s) aO.z<|iB Z (lO Z Z Z Z Z)<|bL Z .nil (nW 1 Z) (oH Z (aF.fact 0 Z) Z Z Z qZ s) aO.z<|bD Z<|iB Z (bW Z)<|cH Z<|bL Z .nil (nW 0 Z) (dU Z (aF.fact 0 Z) Z Z Z) aO.z<|bD Z<|eH h λe h=>bL Z .nil (nW 9 Z) (cV Z Z (aF.fact 0 Z) Z Z e) aO.z<|bL Z .nil (nW 9 Z) (cX Z (aF.fact 0 Z) Z Z e) aO.z<|cH Z<|gU 0 Z<|eH h λt h=>bL Z .nil (nW 9 Z) (bK Z Z (aF.el (aF.fact 0 Z) e.1 e.2) Z Z t) aO.z<|bL Z .nil (nW 9 Z) (g_ (cs:=[vI ((at' (at' b.2.2 m) ((at' ((at' b.1.2.2 f).2.2.2) a.1).1)).1),vI ((at' (at' b.2.2 m) ((at' ((at' b.1.2.2 f).2.2.2) a.1).1)).2)]) Z (aF.el (aF.fact 0 Z) e.1 e.2) bI Z Z Z Z t) aO.z<|bD Z<|fE h λn K h=>JR.loud Z Z Z (aL.callQ Uo (Dc U  n K) Z .nil) Z (λL=>(mP [([0],[])] Z)) λL=>bQ 26 Z Z<|eH h λu h=>aD (bK Z Z (a_ (aF.res 1 Z) dL) Z Z u) Z<|Mw 1 n u Z Z Z Z Z Z Z<|eN<|oP<|aQ<|cJ Z<|aA Z<|aN ?_;exact mW ((wI .i64 (a.1+(1:Int))),(List.set a.2 (Int.toNat ((at' ((at' b.1.2.2 f).2.2.2) a.1).1)) n)) () h SF (bA.ix [1] Z Z) (aE.refl _ _)
  refine gX ?_;exact iP (a.2) () h SF Z
 intro o N h;unfold nS at h;refine aP<|aA Z<|aC Z<|aN<|aV ?_;cases h;exact jE (v) Z Z (RV.tmp Z) (bA.refl _) aE.nil
def nU  (a:bE):Option bE:=
 some (a)
def kM (b:Int×bE) (a:(Int×bE)->Option bE) (c:bE):Option bE:=
 a ((wI .i64 (b.1+(1:Int))),c)
def iF (U:Nat) (b:G_) (d:bE) (g:Int) (a:Int×bE) (c:(Int×bE)->Option bE):Option bE:=
 if a.1<(List.length d:Int)then(ck (0<=a.1) (if(dA .u32 (lY .u32 g a.1) (1:Int))=(1:Int)then(Option.bind (eL U ((((b.1.1,b.1.2.1,b.1.2.2)),((((b.2.1.1.1,b.2.1.1.2.1,b.2.1.1.2.2)),((b.2.1.2.1.1,b.2.1.2.1.2)),b.2.1.2.2.1,b.2.1.2.2.2)),b.2.2)) d a.1) λe=>(Option.bind (lH U ((((b.1.1,b.1.2.1,b.1.2.2)),((((b.2.1.1.1,b.2.1.1.2.1,b.2.1.1.2.2)),((b.2.1.2.1.1,b.2.1.2.1.2)),b.2.1.2.2.1,b.2.1.2.2.2)),b.2.2)) d a.1 e) λf=>(ck (0<=a.1∧a.1<(List.length a.2:Int)) (kM a c (List.set a.2 (Int.toNat a.1) f)))))else(kM a c (a.2))))else(nU  (a.2))
def jB (U:Nat) (b:G_) (a:bE) (c:Int):Option bE:=
 Option.bind (qW U a) λd=>(bP (iF U b a c) U ((0:Int),d))
theorem Xj:aR Tryz.prog 168:=Tryz.call168
theorem Db (U:Nat) {e:G_} {v:bE} {w:Int} (g:Nat)  (D:Value)  (E:Value)  (o:Nat)  (F:Value)  (G:Value)  (H:Value)  (I:Value)  (Q:mV)  (J:Value)  (t:pA)  (p:Value)  (u:mV)  (d:Value)  (q:pA) (r:bE) (h:jB U e v w=some r):
  aW Tryz.prog 168 #[vP g,d,vU (w)] [bX g [vS (e.1.1),D,E,vP o,p] 165,Sl aJ D e.1.2.1,Sl aG E e.1.2.2,bX o [vS (e.2.1.1.1),F,G,H,I,vI (e.2.1.2.2.1),J] 212,Sl aJ F e.2.1.1.2.1,Sl aG G e.2.1.1.2.2,Sl bJ H e.2.1.2.1.1,S2 bG I Q e.2.1.2.1.2,S2 bJ J t e.2.1.2.2.2,S2 bG p u e.2.2,S2 bJ d q v] (λx:Hx=>x.1) (λx l=>Ar dD.raw x.1 x.2::jH cI x.2 r::l) (λ_ l=>l):=by
 refine aW.of Tryz.func168 Z Tryz.ntmps168 Z λc=>?_;refine aP<|aC Z<|aN<|aP<|aA Z<|fE h λR S h=>aH (aL.callQ OY (AT U d q R S) Z (mK [10] Z)) Z λs=>aC Z<|aN<|aM<|EF (B:=gQ) (λy=>nU  y=some r) (λy z=>[(7,s.1)]) (λy z=>[Ar dD.raw s.1 z,jH cI z y]) ?_ ?_
 ·refine aP<|aA Z<|aD (kE Z (aF.fact 10 Z) Z) Z<|aA Z<|aN<|aT<|fJ (B:=gQ) (iF U e v w) (λa b=>[(0,vP g),(1,d),(2,vU (w)),(7,s.1),(12,vI (List.length v:Int)),(13,vI (a.1))]) (λa b=>[Ar dD.raw s.1 b,jH cI b a.2]) ((0:Int),R) (s.2) h SF (bA.refl _) ?_;intro L a b h;refine aP<|cW Z<|aN<|aM ?_;refine dK h Z (λh=>?_) λh=>?_
  ·refine cT<|aM<|EF (B:=gQ) (λf=>kM a (bP (iF U e v w) L) f=some r) (λf m=>[(0,vP g),(1,d),(2,vU (w)),(7,s.1),(12,vI (List.length v:Int)),(13,vI (a.1))]) (λf m=>[Ar dD.raw s.1 m,jH cI m f]) ?_ ?_
   ·refine aT<|aP<|aA Z<|aC Z<|aN<|aP<|aA Z<|aA Z<|eH h λK h=>aD (Fg Z Z K) Z<|xZ Z<|bR Z<|aN ?_;refine dK h Z (λh=>?_) λh=>?_
    ·refine aQ<|aA Z<|aA Z<|aA Z<|aA Z<|aA Z<|aA Z<|aA Z<|aA Z<|fE h λM N h=>aH (aL.callQ Qt (yA U g D E o F G H I Q J t p u d q M N) Z (mK [0,1,2,3,4,5,6,7,8,9,10] Z)) Z λT=>fE h λC O h=>aH (aL.callQ Xw (Da U g D E o F G H I Q J t p u d q C O) Z (mK [0,1,2,3,4,5,6,7,8,9,10] Z)) Z λP=>eH h λn h=>aD (cV Z Z (aX (i:=1) (j:=2) Z Z dL) Z Z n) Z<|bZ (Know.one ((a_ (aF.res 0 Z) dL))) λA=>jK (wR (k:=a.1) 2 0 Z Z Z n) ?_;refine qE 0 1 ⟨n.1,by first|exact n.2|simpa using n.2⟩ Z Z Z Z Z (by simp) A Z ?_;refine eN<|oP ?_;exact iP (List.set a.2 (Int.toNat a.1) C) (List.set b (Int.toNat a.1) P) h SF Z
    refine dR<|oP ?_;exact iP (a.2) (b) h SF Z
   intro f m h;unfold kM at h;refine aQ<|cJ Z<|aA Z<|aN ?_;exact AX ((wI .i64 (a.1+(1:Int))),f) (m) h SF Z
  refine gX ?_;exact iP (a.2) (b) h SF Z
 intro y z h;unfold nU at h;refine aP<|aA Z<|aC Z<|aN<|aV ?_;cases h;exact jE (s.1,z) Z Z (RV.tmp Z) (bA.refl _) aE.nil
def xP  (a:Int):Option (Int):=
 some (a)
def tO (c:dQ) (b:dY->Option (Int)) (a:Int):Option (Int):=
 b (a,(wI .i64 (c.2+(1:Int))))
def qY (e:Int) (d:Int->Option Bool) (a:dQ) (b:dY->Option (Int)):Option (Int):=
 if a.2<e then(Option.bind (d a.2) λc=>(if c=true then(ck (0<=a.2) (tO a b (Ec .u32 a.1 (wC .u32 (1:Int) a.2))))else(tO a b (a.1))))else(xP  (a.1))
def zC (U:Nat) (b:Int) (a:Int->Option Bool):Option (Int):=
 bP (qY b a) U ((0:Int),(0:Int))
theorem Xt:aR Tryz.prog 220:=Tryz.call220
theorem Md (U:Nat) {j:Int} {n:Int->Option Bool} (m:FuncId) (d:gQ) (k:List aY) (f:aR Tryz.prog m) (g:∀(u:Int) (r:Bool),n u=some r->aW Tryz.prog m ([vI (u)]++d).toArray k (λ_:Unit=>vB (r)) (λ_ l=>l) (λ_ l=>l)) (r:Int) (h:zC U j n=some r):
  aW Tryz.prog 220 #[vI (j),Value.func (.func m) #[] (d).toArray] ([]++k) (λx:Unit=>vU (r)) (λx l=>l) (λ_ l=>l):=by
 refine aW.of Tryz.func220 Z Tryz.ntmps220 Z λc=>?_;unfold zC at h;refine aP<|aC Z<|aN<|aP<|aC Z<|aN<|aM<|sX (B:=Unit) (λi=>xP  i=some r) (λi o=>[(5,vU (i))]) (λi o=>[]) (λi o=>([]++k)) ?_ ?_
 ·refine aP<|aA Z<|aA Z<|aN<|aT<|Dn (B:=Unit) (qY j n) (λb p=>[(1,Value.func (.func m) #[] (d).toArray),(5,vU (b.1)),(7,vI (j)),(8,vI (b.2))]) (λb p=>[]) (λb p=>([]++k)) ((0:Int),(0:Int)) () h SF (bA.refl _) (aE.refl _ _) ?_;intro v b p h;refine aP<|cW Z<|aN<|aM ?_;refine dK h Z (λh=>?_) λh=>?_
  ·refine cT<|aM<|sX (B:=Unit) (λa=>tO b (bP (qY j n) v) a=some r) (λa e=>[(1,Value.func (.func m) #[] (d).toArray),(5,vU (a)),(7,vI (j)),(8,vI (b.2))]) (λa e=>[]) (λa e=>([]++k)) ?_ ?_
   ·refine aT<|aP<|aA Z<|aC Z<|aN<|aP<|aA Z<|aA Z<|fE h λs t h=>aH (rP (vs:=[vI (b.2)]) (cs:=d) f Z (g b.2 s t) Z (aE.tail _) (λ_ _=>rfl)) Z λw=>aN ?_;refine BF h Z (λ_ h=>?_) λ_ h=>?_
    ·refine aQ<|aA Z<|aA Z<|eH h λq h=>aD (Ff Z Z q) Z<|aD (Le Z Z) Z<|aC Z<|eN<|oP ?_;exact iP (Ec .u32 b.1 (wC .u32 (1:Int) b.2)) () h SF Z
    refine dR<|oP ?_;exact iP (b.1) () h SF Z
   intro a e h;unfold tO at h;refine aQ<|cJ Z<|aA Z<|aN ?_;exact AX (a,(wI .i64 (b.2+(1:Int)))) () h SF Z
  refine gX ?_;exact iP (b.1) () h SF Z
 intro i o h;unfold xP at h;refine aP<|aA Z<|aC Z<|aN<|aV ?_;cases h;exact lL Z
def kH (U:Nat) (b:Int) (a:G_) (c:bE):Option (Bool):=
 Option.bind (eL U ((((a.1.1,a.1.2.1,a.1.2.2)),((((a.2.1.1.1,a.2.1.1.2.1,a.2.1.1.2.2)),((a.2.1.2.1.1,a.2.1.2.1.2)),a.2.1.2.2.1,a.2.1.2.2.2)),a.2.2)) c b) λd=>(some (decide ((0:Int)<=d)))
theorem Xu:aR Tryz.prog 221:=Tryz.call221
theorem Ak (U:Nat) {v:Int} {a:G_} {w:bE} (j:Nat)  (d:Nat)  (o:Value)  (p:Value)  (e:Nat)  (q:Value)  (s:Value)  (t:Value)  (u:Value)  (y:mV)  (f:Value)  (k:pA)  (g:Value)  (m:mV)  (b:Nat)  (i:Value)  (n:pA) (r:Bool) (h:kH U v a w=some r):
  aW Tryz.prog 221 #[vI (v),vP j,vP b] [bX j [vP d] 75,bX d [vS (a.1.1),o,p,vP e,g] 165,Sl aJ o a.1.2.1,Sl aG p a.1.2.2,bX e [vS (a.2.1.1.1),q,s,t,u,vI (a.2.1.2.2.1),f] 212,Sl aJ q a.2.1.1.2.1,Sl aG s a.2.1.1.2.2,Sl bJ t a.2.1.2.1.1,S2 bG u y a.2.1.2.1.2,S2 bJ f k a.2.1.2.2.2,S2 bG g m a.2.2,bX b [i] 30,S2 bJ i n w] (λx:Unit=>vB (r)) (λx l=>l) (λ_ l=>l):=by
 refine aW.of Tryz.func221 Z Tryz.ntmps221 Z λc=>?_;refine aP<|aC Z<|aN<|aP<|aD (dU Z (aF.fact 0 Z) Z Z Z) Z<|aD (dU Z (aF.fact 11 Z) Z Z Z) Z<|aA Z<|fE h λz A h=>aH (aL.callQ Qt (yA U d o p e q s t u y f k g m i n z A) Z (mK [1,2,3,4,5,6,7,8,9,10,12] Z)) Z λB=>aD (Eb Z Z) Z<|aC Z<|aN<|aV ?_;cases h;exact lL Z
def d_ (U:Nat) (a:G_) (b:bE):Option (Int):=
 Option.bind (zC U (List.length a.2.2:Int) (λd=>kH U d ((((a.1.1,a.1.2.1,a.1.2.2)),((((a.2.1.1.1,a.2.1.1.2.1,a.2.1.1.2.2)),((a.2.1.2.1.1,a.2.1.2.1.2)),a.2.1.2.2.1,a.2.1.2.2.2)),a.2.2)) b)) λc=>(some (c))
theorem Qr:aR Tryz.prog 165:=Tryz.call165
theorem u_ (U:Nat) {a:G_} {w:bE} (b:Nat)  (k:Value)  (m:Value)  (e:Nat)  (n:Value)  (o:Value)  (p:Value)  (q:Value)  (y:mV)  (s:Value)  (g:pA)  (f:Value)  (i:mV)  (d:Value)  (j:pA) (r:Int) (h:d_ U a w=some r):
  aW Tryz.prog 165 #[vP b,d] [bX b [vS (a.1.1),k,m,vP e,f] 165,Sl aJ k a.1.2.1,Sl aG m a.1.2.2,bX e [vS (a.2.1.1.1),n,o,p,q,vI (a.2.1.2.2.1),s] 212,Sl aJ n a.2.1.1.2.1,Sl aG o a.2.1.1.2.2,Sl bJ p a.2.1.2.1.1,S2 bG q y a.2.1.2.1.2,S2 bJ s g a.2.1.2.2.2,S2 bG f i a.2.2,S2 bJ d j w] (λx:Unit=>vU (r)) (λx l=>l) (λ_ l=>l):=by
 refine aW.of Tryz.func165 Z Tryz.ntmps165 Z λc=>?_;refine aP<|aH (aL.box (cs:=[vP b]) Z Z) Z λt=>bZ (Know.one (aF.sl (aF.fact 10 Z))) λv=>?_;refine aH (aL.box (cs:=[d]) Z (by rw[kA v])) Z λu=>?_;refine aC Z<|aN<|aP<|dO 1 Z<|aD (bW Z) Z<|bV Z<|aD (dU Z (aF.fact 0 Z) Z Z Z) Z<|aD (kE Z (aF.fact 9 Z) Z) Z<|aD (zP (cs:=[.tmp 2,.tmp 3]) (vs:=[vP t,vP u]) Z) Z<|fE h λz A h=>aH (aL.callQ Xt (Md U 221 [vP t,vP u] [bX t [vP b] 75,bX b [vS (a.1.1),k,m,vP e,f] 165,Sl aJ k a.1.2.1,Sl aG m a.1.2.2,bX e [vS (a.2.1.1.1),n,o,p,q,vI (a.2.1.2.2.1),s] 212,Sl aJ n a.2.1.1.2.1,Sl aG o a.2.1.1.2.2,Sl bJ p a.2.1.2.1.1,S2 bG q y a.2.1.2.1.2,S2 bJ s g a.2.1.2.2.2,S2 bG f i a.2.2,bX u [d] 30,S2 bJ d j w] Xu (λC r h=>Ak U t b k m e n o p q y s g f i u d j r h) z A) Z (aE.cons (aF.res 1 Z) (aE.cons (aF.fact 0 Z) (aE.cons (aF.fact 1 Z) (aE.cons (aF.fact 2 Z) (aE.cons (aF.fact 3 Z) (aE.cons (aF.fact 4 Z) (aE.cons (aF.fact 5 Z) (aE.cons (aF.fact 6 Z) (aE.cons (aF.fact 7 Z) (aE.cons (aF.fact 8 Z) (aE.cons (aF.fact 9 Z) (aE.cons (aF.res 0 Z) (mK [10] Z)))))))))))))) Z λB=>aC Z<|aN<|aV ?_;cases h;exact wD Z
end Go.Proofs.YtjkjpdonlpdcaaaGreatDoor
namespace Go.Proofs.YtjkjpdonlpdcaaaGreatDoor
open Go Go.Sx
abbrev RL:=E×List (Nat×E)
abbrev AH:=zL×GR×Int×bE
def Eu (R:List RL):Jx:=R.map λr=>(r.1.ts,r.2.map λs=>((s.1:Int),s.2.ts))
def Kn (a:Nat) (e:E):Bool:=e.wf a false&&decide (e.depth<=100)&&decide (e.ts.length<=800)
def xC (a:Nat) (R:List RL):Bool:=decide (R.length<=20)&&R.all λr=>Kn a r.1&&decide (r.2.length<=20)&&r.2.all λs=>decide (s.1<a)&&Kn a s.2
instance:Inhabited E:=⟨.lf 1 0⟩
def Qm (g:GR) (v i:Nat):Int:=BV (row g (jA (row g v) i).1.toNat) (v:Int)
def fH (g:GR):bE:=(List.range g.2.length).map λv=>(List.range (row g v).length).map (Qm g v)
def sV (S:AH) (c:bE) (v:Nat) (e:E):Int:=e.den (Zj (S,c,(v:Int),[])) (row S.2.1 v).length (-1)
def qC (S:AH) (R:List RL) (c:bE) (v:Nat):Int:=BK (R.map λr=>sV S c v r.1)
def wU (a:Int) (b:dQ) (x:Int):Int:=if b.1<=x∧x<=b.2 then x else if a=3 then -1 else if x<b.1 then b.1 else b.2
def Td (S:AH) (a:List EU) (c:bE) (v:Nat) (b:aS) (s:Nat×E):aS:=b.set s.1 (wU (at' a (s.1:Int)).2.1 (wJ S.2.1 a v s.1) (sV S c v s.2))
def xY (S:AH) (a:List EU) (R:List RL) (c:bE) (v:Nat) (i:Int):aS:=(at' R i).2.foldl (Td S a c v) (at' c (v:Int))
def enD (S:AH) (R:List RL) (c:bE):Nat:=kP (λv=>decide (0<=qC S R c v)) S.2.1.2.length
def iC (S:AH) (a:List EU) (R:List RL) (c:bE) (t:Nat):bE:=(List.range c.length).map λv=>if t.testBit v=true then xY S a R c v (qC S R c v)else at' c (v:Int)
structure uU (g:GR) (nv:Nat) (c:bE):Prop where
 len:c.length=g.2.length
 row:∀v:Nat,v<g.2.length->(at' c (v:Int)).length=nv
theorem FY.shape {g:GR} {c:bE} {a:List EU} (h:FY g c a):uU g a.length c:=⟨h.len,h.row⟩
section
variable {S:AH} {nv:Nat} {c:List (List Int)} {v:Nat}
theorem wok (b:S.2.2.2=fH S.2.1) (d:VG S.2.1) (e:uU S.2.1 nv c) (h:v<S.2.1.2.length) (j:List (Int×Int)):WOk (S,c,(v:Int),j) nv S.2.1.2.length v:=by
 refine⟨rfl,h,rfl,d.len,e.len,e.row,λu a i g=> ?_,by show S.2.2.2.length=_;rw[b];simp[fH],λu a=>by
  show(at' S.2.2.2 (u:Int)).length=_;rw[b,fH,x_ _ a,List.length_map,List.length_range]⟩
 obtain⟨w,k,f⟩:=d.to a g;show 0<=(jA (row S.2.1 u) i).1∧(jA (row S.2.1 u) i).1<_;rw[f];omega
theorem Oh (i:S.2.2.2=fH S.2.1) (a:VG S.2.1) (j:uU S.2.1 nv c) (f:v<S.2.1.2.length) {e:E} (b:Kn nv e=true):fT 1000 S c (v:Int) e.ts=some (sV S c v e):=by
 simp only[Kn,Bool.and_eq_true,decide_eq_true_eq]at b;have g:=a.n24;have d:=(a.node v f).deg;unfold fT;have:=Wo (wok i a j f e.ts) (deg:=(row S.2.1 v).length) Z (by omega) b.2 e false 1000 0 (-1) [] [] (by simp) Z b.1.1 (λh=>by cases h) (by omega);rw[bF (show bT 1000 _ (0:Int) (-1)=_ from this)];rfl
end
section
variable {p:zL} {g:GR} {gr:Int} {R:List RL} {nv:Nat} {c:List (List Int)} {v:Nat}
theorem FB (a:p.2.2.map vE=Eu R):p.2.2.length=R.length:=by simpa [Eu]using congrArg List.length a
theorem Rf (b:p.2.2.map vE=Eu R) {i:Nat} (a:i<R.length):vE (at' p.2.2 (i:Int))=((at' R (i:Int)).1.ts,(at' R (i:Int)).2.map λs=>((s.1:Int),s.2.ts)):=by
 have d:=FB b;have:=congrArg (λq=>q[i]?) b;simp only[Eu,List.getElem?_map,List.getElem?_eq_getElem a,List.getElem?_eq_getElem (show i<p.2.2.length by omega),Option.map_some,Option.some.injEq]at this;rw[lC a,lC (show i<p.2.2.length by omega)];exact this
theorem Rn (a:xC nv R=true) {i:Nat} (b:i<R.length):Kn nv (at' R (i:Int)).1=true∧(at' R (i:Int)).2.length<=20∧∀s∈(at' R (i:Int)).2,s.1<nv∧Kn nv s.2=true:=by
 simp only[xC,Bool.and_eq_true,List.all_eq_true,decide_eq_true_eq]at a;have:=a.2 (at' R (i:Int)) (by rw[lC b];exact List.getElem_mem b);exact⟨this.1.1,this.1.2,λs d=>this.2 s d⟩
theorem YI (a:xC nv R=true):R.length<=20:=by
 simp only[xC,Bool.and_eq_true,decide_eq_true_eq]at a;exact a.1
theorem UX (f:VG g) (h:uU g nv c) (j:v<g.2.length) (b:p.2.2.map vE=Eu R) (d:xC nv R=true) {i:Nat} (a:i<R.length):kN 1000 (p,g,gr,fH g) c (v:Int) (i:Int)=some (nz (sV (p,g,gr,fH g) c v (at' R (i:Int)).1)):=by
 have k:=FB b;have e:(at' p.2.2 (i:Int)).2.1.2=(at' R (i:Int)).1.ts:=congrArg Prod.fst (Rf b a);unfold kN;dsimp only;rw[cS (by omega),e];rw[bF (show fT 1000 _ c (v:Int) _=_ from Oh (S:=(p,g,gr,fH g)) Z f h j (Rn d a).1)];rfl
theorem Ro (z:VG g) (A:uU g nv c) (C:v<g.2.length) (w:p.2.2.map vE=Eu R) (s:xC nv R=true) (h:List (List (Int×Int))):eL 1000 (p,(p,g,gr,fH g),h) c (v:Int)=some (qC (p,g,gr,fH g) R c v):=by
 have E:=FB w;have y:=YI s;let l:=R.map λr=>sV (p,g,gr,fH g) c v r.1;have B:l.length=R.length:=by simp[l]
 have o:∀i,i<R.length->at' l (i:Int)=sV (p,g,gr,fH g) c v (at' R (i:Int)).1:=λi t=>by
  rw[lC (by omega),lC t];simp[l]
 have b:∀(k:Nat) a,k<R.length->kL 1000 (p,(p,g,gr,fH g),h) c (v:Int) (k:Int) a=if nz (at' l (k:Int))=true then some (k:Int)else a (((k+1:Nat):Int)):=by
  intro k a d;unfold kL;dsimp only;rw[if_pos (by omega),bF (show kN 1000 _ c (v:Int) (k:Int)=_ from UX z A C w s d),o k d,dG (by omega)]
 unfold eL qC;by_cases f:∃i,i<R.length∧at' l (i:Int)≠0
 ·obtain⟨i,t,x⟩:=f;obtain⟨m,D,q,n⟩:=Kv (p:=λi=>at' l (i:Int)≠0) i x;have n:∀j,j<m->at' l (j:Int)=0:=λj u=>Decidable.not_not.1 (n j u);rw[show BK _=(m:Int)from Ay (l:=l) (by omega) q n];exact eF (K:=some (m:Int)) m (λk=>(k:Int)) (λk a d=>by rw[b k a (by omega),if_neg (by simp[nz,n k d])]) (λa=>by rw[b m a (by omega),if_pos (by simpa [nz]using q)]) 1000 (by omega)
 ·have f:∀j,j<l.length->at' l (j:Int)=0:=λj u=>Decidable.not_not.1 λe=>f ⟨j,by omega,e⟩;rw[show BK _=(-1:Int)from Ax (l:=l) f];exact eF (K:=some (-1)) R.length (λk=>(k:Int)) (λk a d=>by rw[b k a d,if_neg (by simp[nz,f k (by omega)])]) (λa=>by
   unfold kL nT;dsimp only;rw[if_neg (by omega)]) 1000 (by omega)
theorem Bm (S:AH) (R:List RL) (c:List (List Int)) (v:Nat):qC S R c v = -1∨∃i:Nat,qC S R c v=(i:Int)∧i<R.length∧sV S c v (at' R (i:Int)).1≠0:=by
 let l:=R.map λr=>sV S c v r.1;by_cases h:∃i,i<l.length∧at' l (i:Int)≠0
 ·obtain⟨i,n,k⟩:=h;obtain⟨m,o,f,a⟩:=Kv (p:=λi=>at' l (i:Int)≠0) i k;have a:∀j,j<m->at' l (j:Int)=0:=λj b=>Decidable.not_not.1 (a j b);have d:m<R.length:=by simp[l]at n;omega
  refine .inr ⟨m,Ay (l:=l) (by omega) f a,d,?_⟩;have:at' l (m:Int)=sV S c v (at' R (m:Int)).1:=by rw[lC (by simpa [l]using d),lC d];simp[l]
  rw[<-this];exact f
 ·exact .inl (Ax (l:=l) λj b=>Decidable.not_not.1 λe=>h ⟨j,b,e⟩)
theorem EJ {S:AH} {R:List RL} {c:List (List Int)} {v:Nat}:qC S R c v = -1↔∀i:Nat,i<R.length->sV S c v (at' R (i:Int)).1=0:=by
 let l:=R.map λr=>sV S c v r.1;have a:∀i,i<R.length->at' l (i:Int)=sV S c v (at' R (i:Int)).1:=λi b=>by rw[lC (by simpa [l]using b),lC b];simp[l]
 constructor
 ·intro h i b;refine Decidable.not_not.1 λe=> ?_;obtain⟨m,n,k,f⟩:=Kv (p:=λi=>at' l (i:Int)≠0) i (by rw[a i b];exact e);have f:∀j,j<m->at' l (j:Int)=0:=λj d=>Decidable.not_not.1 (f j d);have:qC S R c v=(m:Int):=Ay (l:=l) (by simp[l];omega) k f;omega
 ·intro h;exact Ax (l:=l) λj d=>by rw[a j (by simpa [l]using d)];exact h j (by simpa [l]using d)
theorem Pj (hV:VG g) (hc:uU g nv c) (hz:p.2.2.map vE=Eu R) (hR:xC nv R=true) {tab:List (List (Int×Int))} (ht:tab.length=g.2.length):d_ 1000 (p,(p,g,gr,fH g),tab) c=some ((enD (p,g,gr,fH g) R c:Nat):Int):=by
 have h24:=hV.n24;unfold d_ zC;let q:Nat->Bool:=λv=>decide (0<=qC (p,g,gr,fH g) R c v);have:=eF (step:=qY (tab.length:Int) (λy0=>kH 1000 y0 (p,(p,g,gr,fH g),tab) c)) (K:=some ((kP q g.2.length:Nat):Int)) g.2.length (λk=>(((kP q k:Nat):Int),(k:Int))) (λk ag hk=>by
  have hm:=BS q (k:=k) (by omega);unfold qY tO kH;dsimp only;rw[if_pos (by omega),bF (show Option.bind (eL 1000 _ c (k:Int)) _=some (q k) by rw[bF (show eL 1000 _ c (k:Int)=_ from Ro hV hc hk hz hR tab)]),dG (by omega)];cases hq:q k with
  |true=>
   rw[if_pos Z,cS (by omega),Gl hm (by omega)];simp only[kP,hq,if_true]
  |false=>
   rw[if_neg (by decide)];simp only[kP,hq];rfl) (λag=>by
  unfold qY xP;dsimp only;rw[if_neg (by omega)]) 1000 (by omega)
 rw[bF (show bP _ 1000 ((0:Int),(0:Int))=_ from this)];rfl
end
theorem MZ (f:Nat) (k:Int) (b:dQ) (x:Int):rW f k b x=some (wU k b x):=by
 unfold rW tU wU;by_cases a:b.1<=x
 ·by_cases c:x<=b.2
  ·simp only[a,c,and_self,if_true,decide_true]
  ·simp only[a,c,and_false,if_true,if_false,decide_false,Bool.false_eq_true];split
   ·rfl
   ·split<;>rfl
 ·simp only[a,false_and,if_false,Bool.false_eq_true];split
  ·rfl
  ·split<;>rfl
theorem NU {S:AH} {a:List EU} {c:bE} {v:Nat} (l:List (Nat×E)) (b:aS):(l.foldl (Td S a c v) b).length=b.length:=by
 induction l generalizing b with
 |nil=>rfl
 |cons s l d=>rw[List.foldl_cons,d];simp[Td]
theorem GE {S:AH} {a:List EU} {R:List RL} {c:bE} {v:Nat} {i:Int}:(xY S a R c v i).length=(at' c (v:Int)).length:=NU _ _
section
variable {p:zL} {g:GR} {gr:Int} {R:List RL} {c:List (List Int)} {v:Nat}
theorem Yt (A:VG g) (J:vF g p.2.1) (o:uU g p.2.1.length c) (x:v<g.2.length) (E:p.2.2.map vE=Eu R) (H:xC p.2.1.length R=true) {i:Nat} (B:i<R.length):
  lH 1000 (p,(p,g,gr,fH g),Ag g p.2.1) c (v:Int) (i:Int)=some (xY (p,g,gr,fH g) p.2.1 R c v (i:Int)):=by
 have G:=A.n24;have I:=o.len;have l:=o.row v x;have N:=J.len;have O:=FB E;have r:=Rf E B;obtain⟨-,m,d⟩:=Rn H B;have D:(Ag g p.2.1).length=g.2.length:=by simp[Ag]
 have w:at' (Ag g p.2.1) (v:Int)=Bl g p.2.1 v:=x_ _ x;have L:(Bl g p.2.1 v).length=p.2.1.length:=by simp[Bl]
 have y:(at' p.2.2 (i:Int)).2.2.2.map (λs=>(s.1,s.2.2))=(at' R (i:Int)).2.map λs=>((s.1:Int),s.2.ts):=congrArg Prod.snd r;have n:(at' p.2.2 (i:Int)).2.2.2.length=(at' R (i:Int)).2.length:=by simpa using congrArg List.length y
 unfold lH;dsimp only;rw[cS (by omega),cS (by simp;omega),cS (by omega),List.nil_append];unfold xY;let a:=(at' R (i:Int)).2;have:=eF (step:=kK 1000 (p,(p,g,gr,fH g),Ag g p.2.1) c (v:Int) (i:Int)) (K:=some (a.foldl (Td (p,g,gr,fH g) p.2.1 c v) (at' c (v:Int)))) a.length (λk=>((k:Int),(a.take k).foldl (Td (p,g,gr,fH g) p.2.1 c v) (at' c (v:Int)))) (λk F e=>by
  have j:k<(at' p.2.2 (i:Int)).2.2.2.length:=by rw[n];exact e
  have z:((at' (at' p.2.2 (i:Int)).2.2.2 (k:Int)).1,(at' (at' p.2.2 (i:Int)).2.2.2 (k:Int)).2.2)=(((at' a (k:Int)).1:Int),(at' a (k:Int)).2.ts):=by
   have:=congrArg (λq=>q[k]?) y;simp only[List.getElem?_map,List.getElem?_eq_getElem j,List.getElem?_eq_getElem (show k<(at' R (i:Int)).2.length from e),Option.map_some,Option.some.injEq]at this;rw[lC j,lC e];exact this
  have f:=congrArg Prod.fst z;have h:=congrArg Prod.snd z;dsimp only at f h;obtain⟨t,u⟩:=d (at' a (k:Int)) (by rw[lC e];exact List.getElem_mem e);have C:((a.take k).foldl (Td (p,g,gr,fH g) p.2.1 c v) (at' c (v:Int))).length=p.2.1.length:=by rw[NU,l]
  have b:at' (Bl g p.2.1 v) ((at' a (k:Int)).1:Int)=wJ g p.2.1 v (at' a (k:Int)).1:=x_ _ t;have M:a.length<=20:=m;unfold kK;dsimp only;rw[if_pos (by omega),cS (by omega),f,h,bF (show fT 1000 _ c (v:Int) _=_ from Oh (S:=(p,g,gr,fH g)) Z A o x u),cS (by omega),cS (by omega),w,cS (by omega),b,bF (MZ 1000 _ _ _),cS (by omega),dG (by omega),Int.toNat_natCast,Bo e,List.foldl_append];rfl) (λF=>by
  unfold kK nS;dsimp only;rw[if_neg (by show¬(a.length:Int)<_;rw[n];exact Int.lt_irrefl _),List.take_length]) 1000 (by show(at' R (i:Int)).2.length<1000;omega)
 exact this
theorem YN (m:VG g) (s:vF g p.2.1) (l:uU g p.2.1.length c) (u:p.2.2.map vE=Eu R) (o:xC p.2.1.length R=true) {t:Nat} (b:t<4294967296) (B:∀v,t.testBit v=true->0<=qC (p,g,gr,fH g) R c v):
  jB 1000 (p,(p,g,gr,fH g),Ag g p.2.1) c (t:Int)=some (iC (p,g,gr,fH g) p.2.1 R c t):=by
 have x:=m.n24;have z:=l.len;have C:=s.len;unfold jB;rw[bF (Lr c (by omega) (λv D=>by rw[l.row v (by omega)];omega))];let f:Nat->List Int:=λv=>if t.testBit v=true then xY (p,g,gr,fH g) p.2.1 R c v (qC (p,g,gr,fH g) R c v)else at' c (v:Int);let Q:Nat->List (List Int):=λk=>(List.range k).map f++c.drop k;have y:∀k,k<=c.length->(Q k).length=c.length:=λk a=>by simp[Q];omega
 have j:∀k,k<c.length->(Q k).set k (f k)=Q (k+1):=λk a=>by
  show((List.range k).map f++c.drop k).set k (f k)=(List.range (k+1)).map f++c.drop (k+1);rw[List.set_append_right _ _ (by simp),List.length_map,List.length_range,Nat.sub_self,List.drop_eq_getElem_cons a,List.set_cons_zero,List.range_succ,List.map_append,List.map_singleton,List.append_assoc];rfl
 have d:∀k,k<c.length->f k=at' c (k:Int)->Q k=Q (k+1):=λk a A=>by
  show(List.range k).map f++c.drop k=(List.range (k+1)).map f++c.drop (k+1);rw[List.range_succ,List.drop_eq_getElem_cons a,List.map_append,List.map_singleton,A,lC a];simp
 rw[show c=Q 0 by simp[Q]];refine eF (step:=iF 1000 (p,(p,g,gr,fH g),Ag g p.2.1) (Q 0) (t:Int)) (K:=some (iC (p,g,gr,fH g) p.2.1 R (Q 0) t)) c.length (λk=>((k:Int),Q k)) (λk w a=> ?_) (λw=> ?_) 1000 (by omega)
 ·rw[show Q 0=c by simp[Q]];unfold iF kM;dsimp only;rw[if_pos (by omega),cS (by omega),dG (by omega)];by_cases h:t.testBit k=true
  ·obtain⟨i,r,n,_⟩:=(Bm (p,g,gr,fH g) R c k).resolve_left (λe=>by have:=B k h;omega);rw[if_pos ((Gy (by omega) b).2 h),bF (show eL 1000 _ c (k:Int)=_ from Ro m l (by omega) u o _),r,bF (show lH 1000 _ c (k:Int) (i:Int)=_ from Yt m s l (by omega) u o n),cS (by rw[y k (by omega)];omega),Int.toNat_natCast];have:xY (p,g,gr,fH g) p.2.1 R c k (i:Int)=f k:=by simp only[f];rw[if_pos h,r]
   rw[this,j k a]
  ·rw[if_neg (λq=>h ((Gy (by omega) b).1 q)),d k a (by simp only[f];rw[if_neg h])]
 ·rw[show Q 0=c by simp[Q]];unfold iF nU;dsimp only;rw[if_neg (by omega)];simp[Q,iC,f]
theorem GU {S:AH} {a:List EU} {t:Nat}:(iC S a R c t).length=c.length:=by simp[iC]
theorem CY {S:AH} {a:List EU} {t:Nat} (b:v<c.length):at' (iC S a R c t) (v:Int)=if t.testBit v=true then xY S a R c v (qC S R c v)else at' c (v:Int):=x_ _ b
theorem uU.step {S:AH} {a:List EU} {t:Nat} {e:Nat} {g:GR} (b:uU g e c):uU g e (iC S a R c t):=⟨by rw[GU,b.len],λv d=>by
 rw[CY (by rw[b.len];exact d)];split
 ·rw[GE,b.row v d]
 ·exact b.row v d⟩
end
end Go.Proofs.YtjkjpdonlpdcaaaGreatDoor
namespace Go.Proofs.YtjkjpdonlpdcaaaGreatDoor
open Go.Sx
def gK (U:Nat) (a:Int):Option (Int):=
 ck (0<=(24:Int)) (ck (0<=(lY .u32 a (24:Int))∧(lY .u32 a (24:Int))<(List.length FZ:Int)) (ck (0<=(16:Int)) (ck (0<=(dA .u32 (lY .u32 a (16:Int)) (255:Int))∧(dA .u32 (lY .u32 a (16:Int)) (255:Int))<(List.length FZ:Int)) (ck (0<=(8:Int)) (ck (0<=(dA .u32 (lY .u32 a (8:Int)) (255:Int))∧(dA .u32 (lY .u32 a (8:Int)) (255:Int))<(List.length FZ:Int)) (ck (0<=(dA .u32 a (255:Int))∧(dA .u32 a (255:Int))<(List.length FZ:Int)) (some (wI .i64 (wI .u8 ((wI .u8 ((wI .u8 ((at' FZ (lY .u32 a (24:Int)))+(at' FZ (dA .u32 (lY .u32 a (16:Int)) (255:Int)))))+(at' FZ (dA .u32 (lY .u32 a (8:Int)) (255:Int)))))+(at' FZ (dA .u32 a (255:Int)))))))))))))
theorem W_:aR Tryz.prog 140:=Tryz.call140
theorem EK (U:Nat) {a:Int} (r:Int) (h:gK U a=some r):
  aW Tryz.prog 140 #[vU (a)] [] (λx:Unit=>vI (r)) (λx l=>l) (λ_ l=>l):=by
 refine aW.of Tryz.func140 Z Tryz.ntmps140 Z λc=>?_;refine aP<|aC Z<|aN<|aM ?_;refine JR.start [0,1,3,0,8,24,56,127,0,256,768,1792,4095,0,8192,24576,65535,131071,262143] 16 mixedOrders (by decide +kernel) ?_;refine JR.open (by exact rfl) ?_;refine bD Z<|eH h λb h=>iB Z (Fg Z Z b)<|eH h λd h=>iB Z (BD Z Z Z Lo d)<|bD Z<|eH h λe h=>iB Z (Fg Z Z e)<|iB Z (Kb Z Z)<|eH h λf h=>iB Z (BD Z Z Z Lo f)<|iB Z (zN Z Z)<|bD Z<|eH h λg h=>iB Z (Fg Z Z g)<|iB Z (Kb Z Z)<|eH h λi h=>iB Z (BD Z Z Z Lo i)<|iB Z (zN Z Z)<|bD Z<|iB Z (Kb Z Z)<|eH h λj h=>iB Z (BD Z Z Z Lo j)<|bQ 16 Z Z<|cJ Z<|aD (Gg Z Z Z) Z<|aC Z<|aN<|aV ?_;cases h;exact lL Z
def mC  (a:Unit):Option (Bool):=
 some (true)
def hZ (c:aS) (a:Int) (b:(Int)->Option (Bool)):Option (Bool):=
 if a<(List.length c:Int)then(ck (0<=a∧a<(List.length c:Int)) (if(sF .u32 (at' c a) (16777215:Int))≠(0:Int)then(some (false))else(b (wI .i64 (a+(1:Int))))))else(mC  (()))
def gJ (U:Nat) (a:aS):Option (Bool):=
 bP (hZ a) U (0:Int)
theorem Qv:aR Tryz.prog 226:=Tryz.call226
theorem Ac (U:Nat) {d:aS} (e:Value) (r:Bool) (h:gJ U d=some r):
  aW Tryz.prog 226 #[e] [Sl sE e d] (λx:Unit=>vB (r)) (λx l=>l) (λ_ l=>l):=by
 refine aW.of Tryz.func226 Z Tryz.ntmps226 Z λc=>?_;unfold gJ at h;refine aP<|aC Z<|aN<|aM<|fF (λa=>mC  a=some r) (λa f=>[]) (λa f=>[]) ?_ ?_
 ·refine aP<|aA Z<|jS (aF.fact 0 Z) Z<|aA Z<|aN<|aT<|fJ (hZ d) (λb g=>[(5,e),(6,vI (List.length d:Int)),(7,vI (b))]) (λb g=>[]) (0:Int) () h SF (bA.refl _) ?_;intro j b g h;refine aP<|cW Z<|aN<|aM ?_;refine dK h Z (λh=>?_) λh=>?_
  ·refine cT<|aM<|aT<|aP<|eH h λi h=>aD (bK Z Z (aF.fact 0 Z) Z Z i) Z<|aD (cQ Z (aF.fact 0 Z) Z Z Z CE i) Z<|aC Z<|aN<|aP<|aA Z<|aD (Fe Z Z) Z<|p_ Z<|aN ?_;refine dK h Z (λh=>?_) λh=>?_
   ·refine aP<|aC Z<|aN<|aV<|bS<|aK<|aK<|bS<|aK ?_;cases h;exact lL Z
   refine dR<|oP<|aQ<|cJ Z<|aA Z<|aN ?_;exact AX (wI .i64 (b+(1:Int))) () h SF Z
  refine gX ?_;exact iP () (()) h SF Z
 intro a f h;unfold mC at h;refine aP<|aC Z<|aN<|aV ?_;cases h;exact lL Z
def kS  (a:Bool):Option (Bool):=
 some (a)
def gS (U:Nat) (a:Em) (c:Bool):Option (Bool):=
 if c=true then(some (false))else(if(wI .i64 (a.2.2.1+(1:Int)))<a.2.2.2.1 then(some (false))else(if a.1<=a.2.1 then(if a.2.1<=(wI .i64 ((24:Int)*a.1))then(Option.bind (gJ U ([a.2.2.2.2])) λb=>(kS  (b)))else(kS  (false)))else(kS  (false))))
def iN (U:Nat) (a:Em):Option (Bool):=
 if a.1<(0:Int)then(gS U a (true))else(if(4096:Int)<a.1 then(gS U a (true))else(if a.2.2.1<(0:Int)then(gS U a (true))else(if a.2.2.2.1<a.2.2.1 then(gS U a (true))else(gS U a (decide (a.1<a.2.2.2.1))))))
theorem Xx:aR Tryz.prog 225:=Tryz.call225
theorem HB (U:Nat) {a:Em} (r:Bool) (h:iN U a=some r):
  aW Tryz.prog 225 #[Value.agg #[vI (a.1),vI (a.2.1),vI (a.2.2.1),vI (a.2.2.2.1),vU (a.2.2.2.2)]] [] (λx:Unit=>vB (r)) (λx l=>l) (λ_ l=>l):=by
 refine aW.of Tryz.func225 Z Tryz.ntmps225 Z λc=>?_;refine aP<|aH (aL.box (cs:=[vI (a.1),vI (a.2.1),vI (a.2.2.1),vI (a.2.2.2.1),vU (a.2.2.2.2)]) Z Z) Z λj=>aC Z<|aN<|aM<|aM<|fF (λb=>gS U a b=some r) (λb k=>[(1,vP j),(29,vB (b))]) (λb k=>[bX j [vI (a.1),vI (a.2.1),vI (a.2.2.1),vI (a.2.2.2.1),vU (a.2.2.2.2)] 33]) ?_ ?_
 ·refine aQ<|bV Z<|dO 0 Z<|cW Z<|aA Z ?_;refine CP h Z (λ_ h=>?_) λ_ h=>?_
  ·refine aI Z<|aI Z<|aI Z<|eR Z<|aA Z<|aI Z<|aI Z<|aI Z<|eR Z<|aA Z<|aI Z<|aI Z<|aI Z<|aI Z<|aI Z<|eR Z<|aA Z<|aI Z<|aI Z<|aI Z<|aI Z<|aI Z<|eR Z<|aN ?_;exact iP (true) () h SF Z
  refine aU Z (dM Z Z Z Z Z) Z<|aU Z (eS 0 Z Z Z Z Z) Z<|aU Z (zO Z Z) Z<|eY Z<|aA Z ?_;refine CP h Z (λ_ h=>?_) λ_ h=>?_
  ·refine aI Z<|aI Z<|aI Z<|eR Z<|aA Z<|aI Z<|aI Z<|aI Z<|aI Z<|aI Z<|eR Z<|aA Z<|aI Z<|aI Z<|aI Z<|aI Z<|aI Z<|eR Z<|aN ?_;exact iP (true) () h SF Z
  refine aU Z (dM Z Z Z Z Z) Z<|aU Z (eS 0 Z Z Z Z Z) Z<|aU Z (Hg Z Z) Z<|eY Z<|aA Z ?_;refine CP h Z (λ_ h=>?_) λ_ h=>?_
  ·refine aI Z<|aI Z<|aI Z<|aI Z<|aI Z<|eR Z<|aA Z<|aI Z<|aI Z<|aI Z<|aI Z<|aI Z<|eR Z<|aN ?_;exact iP (true) () h SF Z
  refine aU Z (dM Z Z Z Z Z) Z<|aU Z (eS 0 Z Z Z Z Z) Z<|aU Z (dM Z Z Z Z Z) Z<|aU Z (eS 0 Z Z Z Z Z) Z<|aU Z (zO Z Z) Z<|eY Z<|aA Z ?_;refine CP h Z (λ_ h=>?_) λ_ h=>?_
  ·refine aI Z<|aI Z<|aI Z<|aI Z<|aI Z<|eR Z<|aN ?_;exact iP (true) () h SF Z
  refine aU Z (dM Z Z Z Z Z) Z<|aU Z (eS 0 Z Z Z Z Z) Z<|aU Z (dM Z Z Z Z Z) Z<|aU Z (eS 0 Z Z Z Z Z) Z<|aU Z (zO Z Z) Z<|eY Z<|aN ?_;exact iP (decide (a.1<a.2.2.2.1)) () h SF Z
 intro b k h;refine BF h Z (λ_ h=>?_) λ_ h=>?_
 ·refine aP<|aC Z<|aN<|aV<|aK ?_;cases h;exact wD Z
 refine cT<|aM<|aP<|bV Z<|dO 0 Z<|bV Z<|dO 0 Z<|cJ Z<|aD (zO Z Z) Z<|aN ?_;refine dK h Z (λh=>?_) λh=>?_
 ·refine aP<|aC Z<|aN<|aV<|aK ?_;cases h;exact wD Z
 refine cT<|aM<|fF (λd=>kS  d=some r) (λd m=>[(2,vB (d))]) (λd m=>[]) ?_ ?_
 ·refine aQ<|bV Z<|dO 0 Z<|bV Z<|dO 0 Z<|aD (A_ Z Z) Z<|aA Z ?_;refine CP h Z (λ_ h=>?_) λ_ h=>?_
  ·refine aU Z (dM Z Z Z Z Z) Z<|aU Z (eS 0 Z Z Z Z Z) Z<|aU Z (dM Z Z Z Z Z) Z<|aU Z (eS 0 Z Z Z Z Z) Z<|aU Z (yG Z Z) Z<|aU Z (A_ Z Z) Z<|eR Z<|aA Z ?_;refine CP h Z (λ_ h=>?_) λ_ h=>?_
   ·refine aU Z (dM Z Z Z Z Z) Z<|aU Z (eS 0 Z Z Z Z Z) Z<|rE Z (cP (e:=lM) ([a.2.2.2.2]) [(0,vU (a.2.2.2.2))] Z Z Z Z (qL (vU (a.2.2.2.2)) Z) Z Z Z) Z λg=>fE h λf i h=>rE Z (aL.callQ Qv (Ac U g f i) Z (aE.cons (a_ (aF.res 0 Z) kZ) .nil)) Z λn=>eR Z<|aC Z<|aN ?_;exact b_ (f) () h SF .nil (aE.refl _ _)
   refine aI Z<|aI Z<|aI Z<|aI Z<|eY Z<|aC Z<|aN ?_;exact b_ (false) () h SF .nil (aE.refl _ _)
  refine aI Z<|aI Z<|aI Z<|aI Z<|aI Z<|aI Z<|eY Z<|aA Z<|aI Z<|aI Z<|aI Z<|aI Z<|eY Z<|aC Z<|aN ?_;exact b_ (false) () h SF .nil (aE.refl _ _)
 intro d m h;unfold kS at h;refine aV ?_;cases h;exact lL Z
def mZ (b:Em) (c:Int) (a:dQ):Option ((Int×Int×Int×Int×Int)×Int):=
 some ((((wI .i64 (b.1+(1:Int))),(wI .i64 (b.2.1+c)),a.1,(wI .i64 (b.2.2.1+(1:Int))),a.2)),(0:Int))
def mY (U:Nat) (a:Em) (c:Int) (d:Int) (e:Bool):Option ((Int×Int×Int×Int×Int)×Int):=
 if e=true then(some ((((0:Int),(0:Int),(0:Int),(0:Int),(0:Int))),(11:Int)))else(if a.1=(4096:Int)then(some ((((0:Int),(0:Int),(0:Int),(0:Int),(0:Int))),(3:Int)))else(Option.bind (gK U c) λb=>(if(dA .u32 (sF .u32 a.2.2.2.2 c) d)=(0:Int)then(mZ a b ((wI .i64 (a.2.2.1+(1:Int))),d))else(mZ a b (a.2.2.1,(dA .u32 (sF .u32 a.2.2.2.2 c) d))))))
def jJ (U:Nat) (a:Em) (b:Int) (c:Int):Option ((Int×Int×Int×Int×Int)×Int):=
 Option.bind (iN U ((a.1,a.2.1,a.2.2.1,a.2.2.2.1,a.2.2.2.2))) λe=>(if(!e)=true then(some ((((0:Int),(0:Int),(0:Int),(0:Int),(0:Int))),(7:Int)))else(if b=(0:Int)then(mY U a b c (true))else(Option.bind (gJ U ([b,c])) λd=>(mY U a b c ((!d))))))
theorem Xk:aR Tryz.prog 169:=Tryz.call169
theorem JN (U:Nat) {a:Em} {g:Int} {d:Int} (r:(Int×Int×Int×Int×Int)×Int) (h:jJ U a g d=some r):
  aW Tryz.prog 169 #[Value.agg #[vI (a.1),vI (a.2.1),vI (a.2.2.1),vI (a.2.2.2.1),vU (a.2.2.2.2)],vU (g),vU (d)] [] (λx:Unit=>Value.tuple #[Value.agg #[vI (r.1.1),vI (r.1.2.1),vI (r.1.2.2.1),vI (r.1.2.2.2.1),vU (r.1.2.2.2.2)],vI (r.2)]) (λx l=>l) (λ_ l=>l):=by
 refine aW.of Tryz.func169 Z Tryz.ntmps169 Z λc=>?_;refine aP<|aH (aL.box (cs:=[vI (a.1),vI (a.2.1),vI (a.2.2.1),vI (a.2.2.2.1),vU (a.2.2.2.2)]) Z Z) Z λm=>aH (aL.alloc (cs:=Zz) Z Z) Z λn=>aC Z<|aN<|aM<|aP<|dC 1 Z<|fE h λu v h=>aH (aL.callQ Xx (HB U  u v) Z .nil) Z λz=>aD (wG Z) Z<|aN ?_;refine BF h Z (λ_ h=>?_) λ_ h=>?_
 ·refine aP ?_;refine aD (Gf (r:=Value.agg #[vI (0:Int),vI (0:Int),vI (0:Int),vI (0:Int),vU (0:Int)]) (by intro w;simp[Instr.build,Instr.fill,dV,cY,cM,dW,dX,cZ,eT])) Z ?_;refine bO 0 (vs:=Zz) Z Z Z Z Z Z<|aC Z<|aN<|aV<|aK ?_;cases h;exact iA () Z Z (RV.cell 0 Z Z Z Z) (RV.tmp Z) .nil aE.nil
 refine cT<|aM<|aM<|fF (λi=>mY U a g d i=some r) (λi t=>[(1,vU (g)),(2,vU (d)),(3,vP m),(6,vP n),(20,vB (i))]) (λi t=>[bX n Zz 33,bX m [vI (a.1),vI (a.2.1),vI (a.2.2.1),vI (a.2.2.2.1),vU (a.2.2.2.2)] 33]) ?_ ?_
 ·refine aQ<|aA Z<|bR Z<|aA Z ?_;refine CP h Z (λ_ h=>?_) λ_ h=>?_
  ·refine aI Z<|aI Z<|aI Z<|aI Z<|aI Z<|eR Z<|aN ?_;exact iP (true) () h SF Z
  refine eP Z<|eP Z<|rE Z (cP (e:=lM) ([g,d]) [(0,vU (g)),(1,vU (d))] Z Z Z Z (UQ (vU (g)) (vU (d)) Z Z) Z Z Z) Z λo=>fE h λk q h=>rE Z (aL.callQ Qv (Ac U o k q) Z (aE.cons (a_ (aF.res 0 Z) kZ) .nil)) Z λy=>aU Z (wG Z) Z<|eY Z<|aN ?_;exact b_ ((!k)) () h SF (bA.ix [1,2] Z Z) (aE.refl _ _)
 intro i t h;refine BF h Z (λ_ h=>?_) λ_ h=>?_
 ·refine aP ?_;refine aD (Gf (r:=Value.agg #[vI (0:Int),vI (0:Int),vI (0:Int),vI (0:Int),vU (0:Int)]) (by intro w;simp[Instr.build,Instr.fill,dV,cY,cM,dW,dX,cZ,eT])) Z ?_;refine bO 0 (vs:=Zz) Z Z Z Z Z Z<|aC Z<|aN<|aV<|aK ?_;cases h;exact iA () Z Z (RV.cell 0 Z Z Z Z) (RV.tmp Z) .nil aE.nil
 refine cT<|aM<|aP<|bV Z<|dO 1 Z<|bR Z<|aN ?_;refine dK h Z (λh=>?_) λh=>?_
 ·refine aP ?_;refine aD (Gf (r:=Value.agg #[vI (0:Int),vI (0:Int),vI (0:Int),vI (0:Int),vU (0:Int)]) (by intro w;simp[Instr.build,Instr.fill,dV,cY,cM,dW,dX,cZ,eT])) Z ?_;refine bO 0 (vs:=Zz) Z Z Z Z Z Z<|aC Z<|aN<|aV<|aK ?_;cases h;exact iA () Z Z (RV.cell 0 Z Z Z Z) (RV.tmp Z) .nil aE.nil
 refine cT<|aP<|bV Z<|dO 1 Z<|cJ Z<|bV Z<|iV 1 Z Z Z Z Z Z<|aN<|aM ?_;refine JR.start [0,1,0,4,15,31,63] 4 mixedOrders (by decide +kernel) ?_;refine JR.open (by exact rfl) ?_;refine cH Z<|gU 1 Z<|bD Z<|fE h λf p h=>JR.loud Z Z Z (aL.callQ W_ (EK U  f p) Z .nil) Z (λs=>(mP [([1],[])] Z)) λs=>bQ 4 Z Z<|cJ Z<|bV Z<|iV 1 Z Z Z Z Z Z<|aN<|aP<|bV Z<|dO 1 Z<|cJ Z<|bV Z<|iV 1 Z Z Z Z Z Z<|aN<|aP<|bV Z<|dO 1 Z<|aA Z<|aD (Fe Z Z) Z<|aA Z<|xZ Z<|bV Z<|iV 1 Z Z Z Z Z Z<|aN<|aM<|fF (λb=>mZ a f b=some r) (λb j=>[(3,vP m),(6,vP n)]) (λb j=>[bX n Zz 33,bX m [vI (wI .i64 (a.1+(1:Int))),vI (wI .i64 (a.2.1+f)),vI (b.1),vI (wI .i64 (a.2.2.1+(1:Int))),vU (b.2)] 33]) ?_ ?_
 ·refine aP<|bV Z<|dO 1 Z<|bR Z<|aN ?_;refine dK h Z (λh=>?_) λh=>?_
  ·refine aP<|bV Z<|dO 1 Z<|bV Z<|iV 1 Z Z Z Z Z Z<|aN<|aQ<|aA Z<|bV Z<|iV 1 Z Z Z Z Z Z<|aN ?_;exact iP ((wI .i64 (a.2.2.1+(1:Int))),d) () h SF Z
  refine cT ?_;exact iP (a.2.2.1,(dA .u32 (sF .u32 a.2.2.2.2 g) d)) () h SF Z
 intro b j h;unfold mZ at h;refine aP<|dC 1 Z<|bO 0 (vs:=[vI (wI .i64 (a.1+(1:Int))),vI (wI .i64 (a.2.1+f)),vI (b.1),vI (wI .i64 (a.2.2.1+(1:Int))),vU (b.2)]) Z Z Z Z Z Z<|aC Z<|aN<|aV ?_;cases h;exact iA () Z Z (RV.cell 0 Z Z Z Z) (RV.tmp Z) .nil aE.nil
end Go.Proofs.YtjkjpdonlpdcaaaGreatDoor
namespace Go.Proofs.YtjkjpdonlpdcaaaGreatDoor
open Go Go.Sx
abbrev CT:=Em
theorem Eg (l:aS) (h:l.length<=900):∃b,gJ 1000 l=some b:=by
 unfold gJ;have:=vM (step:=hZ l) (Q:=λ_:Bool=>True) (λi:Int=>∃k:Nat,i=(k:Int)∧k<=l.length) (λi=>l.length - i.toNat) (λi f c a=>by
  obtain⟨k,rfl,g⟩:=c;unfold hZ mC;by_cases e:k<l.length
  ·rw[if_pos (by omega),cS (by omega)];split
   ·exact⟨_,rfl,trivial⟩
   ·rw[dG (by omega)];exact a _ ⟨k+1,rfl,by omega⟩ (by omega)
  ·rw[if_neg (by omega)];exact⟨_,rfl,trivial⟩) 1000 0 ⟨0,rfl,by omega⟩ (by omega)
 obtain⟨b,d,_⟩:=this;exact⟨b,d⟩
theorem Lh (k:CT):∃b,iN 1000 k=some b:=by
 obtain⟨q,d⟩:=Eg [k.2.2.2.2] (by simp);have c:∀a,∃b,gS 1000 k a=some b:=by
  intro a;unfold gS kS;split
  ·exact⟨_,rfl⟩
  ·split
   ·exact⟨_,rfl⟩
   ·split
    ·split
     ·rw[bF d];exact⟨_,rfl⟩
     ·exact⟨_,rfl⟩
    ·exact⟨_,rfl⟩
 unfold iN
 repeat' split
 all_goals exact c _
theorem SV {t:Nat} (i:t<4294967296):∃n,gK 1000 (t:Int)=some n:=by
 have g:(List.length FZ:Int)=256:=by decide +kernel
 have b:∀a:Nat,a<4294967296->0<=dA .u32 (a:Int) 255∧dA .u32 (a:Int) 255<256:=λa f=>by
  rw[show(255:Int)=((255:Nat):Int)from rfl,Cg f (by omega)];have:a &&& 255<=255:=Nat.and_le_right;omega
 have c:∀k:Nat,k<32->lY .u32 (t:Int) (k:Int)=((t / 2^k:Nat):Int):=λk h=>Fi h;have e:lY .u32 (t:Int) 24=((t / 2^24:Nat):Int):=c 24 (by omega);have d:lY .u32 (t:Int) 16=((t / 2^16:Nat):Int):=c 16 (by omega);have j:lY .u32 (t:Int) 8=((t / 2^8:Nat):Int):=c 8 (by omega);unfold gK;rw[g,e,d,j,cS (by decide),cS (by omega),cS (by decide),cS (b _ (by omega)),cS (by decide),cS (b _ (by omega)),cS (b _ i)];exact⟨_,rfl⟩
theorem TV (k:CT) {t:Nat} (h:t<4294967296) (e:Int):∃r,jJ 1000 k (t:Int) e=some r:=by
 obtain⟨b,d⟩:=Lh k;obtain⟨q,g⟩:=Eg [(t:Int),e] (by simp);obtain⟨n,f⟩:=SV h;have c:∀a,∃r,mY 1000 k (t:Int) e a=some r:=by
  intro a;unfold mY mZ;split
  ·exact⟨_,rfl⟩
  ·split
   ·exact⟨_,rfl⟩
   ·rw[bF f];split<;>exact⟨_,rfl⟩
 unfold jJ;rw[bF (show iN 1000 _=some b from d)];split
 ·exact⟨_,rfl⟩
 ·split
  ·exact c _
  ·rw[bF g];exact c _
def bM (p:zL) (g:GR):AH:=(p,g,lU g g.2.length,fH g)
def yY (S:AH) (R:List RL) (a:Nat) (c:bE):Nat:=enD S R c &&& a
theorem XT (S:AH) (R:List RL) (c:bE) (v:Nat):(enD S R c).testBit v=(decide (v<S.2.1.2.length)&&decide (0<=qC S R c v)):=xB _ v _
theorem yZ (S:AH) (R:List RL) (a:Nat) (c:bE) (v:Nat):(yY S R a c).testBit v=true↔v<S.2.1.2.length∧0<=qC S R c v∧a.testBit v=true:=by
 unfold yY;rw[Nat.testBit_and,XT,Bool.and_eq_true,Bool.and_eq_true,decide_eq_true_eq,decide_eq_true_eq,and_assoc]
theorem aav {S:AH} (a:VG S.2.1) (R:List RL) (c:bE):enD S R c<4294967296:=BS _ (by have:=a.n24;omega)
theorem Ph (S:AH) (R:List RL) (a:Nat) (c:bE):JB S.2.1 (yY S R a c):=λi b=>((yZ S R a c i).1 b).1
def BN (ch:f_):aS:=ch.map λt=>((t:Nat):Int)
end Go.Proofs.YtjkjpdonlpdcaaaGreatDoor
namespace Go.Proofs.YtjkjpdonlpdcaaaGreatDoor
open Go.Sx
def qJ  (a:Bool):Option (Bool):=
 some (a)
def vR (U:Nat) (a:Int):Option (Bool):=
 if(1:Int)<=a then(qJ  (decide (a<=(4:Int))))else(qJ  (false))
theorem WU:aR Tryz.prog 102:=Tryz.call102
theorem Jm (U:Nat) {b:Int} (r:Bool) (h:vR U b=some r):
  aW Tryz.prog 102 #[vI (b)] [] (λx:Unit=>vB (r)) (λx l=>l) (λ_ l=>l):=by
 refine aW.of Tryz.func102 Z Tryz.ntmps102 Z λc=>?_;refine aP<|aC Z<|aN<|aM<|fF (λa=>qJ  a=some r) (λa d=>[(2,vB (a))]) (λa d=>[]) ?_ ?_
 ·refine aQ<|aA Z<|aD (Eb Z Z) Z<|aA Z ?_;refine CP h Z (λ_ h=>?_) λ_ h=>?_
  ·refine eP Z<|aU Z (A_ Z Z) Z<|eR Z<|aC Z<|aN ?_;exact iP (decide (b<=(4:Int))) () h SF Z
  refine aI Z<|aI Z<|eY Z<|aC Z<|aN ?_;exact iP (false) () h SF Z
 intro a d h;unfold qJ at h;refine aV ?_;cases h;exact lL Z
def xX (U:Nat) (a:yB) (b:dJ) (d:Int) (e:bE) (f:Int):Option (Int):=
 Option.bind (nK U ((a.1,a.2.1,a.2.2)) ((b.1,b.2)) e) λc=>(if c≠(0:Int)then(some (c))else(Option.bind (vR U d) λg=>(if(!g)=true then(some (12:Int))else(if(4096:Int)<f then(some (3:Int))else(some (0:Int))))))
theorem ZZ:aR Tryz.prog 27:=Tryz.call27
theorem NW (U:Nat) {a:yB} {g:dJ} {j:Int} {k:bE} {m:Int} (b:Value)  (d:Value)  (e:Value)  (f:Value)  (n:mV)  (i:Value)  (o:pA) (r:Int) (h:xX U a g j k m=some r):
  aW Tryz.prog 27 #[Value.agg #[vS (a.1),b,d],Value.agg #[e,f],vI (j),i,vI (m)] [Sl aJ b a.2.1,Sl aG d a.2.2,PF (Value.agg #[vS a.1,b,d]),Sl bJ e g.1,S2 bG f n g.2,S2 bJ i o k] (λx:Unit=>vI (r)) (λx l=>l) (λ_ l=>l):=by
 refine aW.of Tryz.func27 Z Tryz.ntmps27 Z λc=>?_;refine aP<|aH (aL.box (cs:=[vS (a.1),b,d]) Z Z) Z λu=>aH (aL.box (cs:=[e,f]) Z Z) Z λv=>aC Z<|aN<|aM<|aP<|dC 1 Z<|dC 0 Z<|aA Z<|fE h λp s h=>aH (aL.callQ Un (De U b d e f n i o p s) Z (mK [0,1,2,3,4,5] Z)) Z λw=>aC Z<|aN<|aP<|aA Z<|p_ Z<|aN ?_;refine dK h Z (λh=>?_) λh=>?_
 ·refine aP<|aA Z<|aC Z<|aN<|aV<|aK ?_;cases h;exact wD Z
 refine cT<|aM<|aP<|aA Z<|fE h λq t h=>aH (aL.callQ WU (Jm U  q t) Z .nil) Z λy=>aD (wG Z) Z<|aN ?_;refine BF h Z (λ_ h=>?_) λ_ h=>?_
 ·refine aP<|aC Z<|aN<|aV<|aK ?_;cases h;exact wD Z
 refine cT<|aM<|aP<|aA Z<|aD (zO Z Z) Z<|aN ?_;refine dK h Z (λh=>?_) λh=>?_
 ·refine aP<|aC Z<|aN<|aV<|aK ?_;cases h;exact wD Z
 refine cT<|aP<|aC Z<|aN<|aV ?_;cases h;exact wD Z
def sN (U:Nat) (a:bE) (b:Int) (c:Em):Option (Unit):=
 some (())
theorem Uj:aR Tryz.prog 29:=Tryz.call29
theorem FS (U:Nat) {b:bE} {d:Int} {a:Em} (e:Value)  (f:pA) (r:Unit) (h:sN U b d a=some r):
  aW Tryz.prog 29 #[e,vU (d),Value.agg #[vI (a.1),vI (a.2.1),vI (a.2.2.1),vI (a.2.2.2.1),vU (a.2.2.2.2)]] [S2 bJ e f b] (λx:Unit=>Value.tuple #[]) (λx l=>l) (λ_ l=>l):=by
 refine aW.of Tryz.func29 Z Tryz.ntmps29 Z λc=>?_;unfold sN at h;refine aQ<|aH (aL.box (cs:=[vI (a.1),vI (a.2.1),vI (a.2.2.1),vI (a.2.2.2.1),vU (a.2.2.2.2)]) Z Z) Z λg=>eN ?_;cases h;exact Do () Z Z .normal (.inr Z) .nil aE.nil
def uB (U:Nat) (a:Int):Option ((Int×Int×Int×Int×Int)):=
 some (((0:Int),(0:Int),(0:Int),(0:Int),(dA .u32 a (16777215:Int))))
theorem Xi:aR Tryz.prog 166:=Tryz.call166
theorem HA (U:Nat) {a:Int} (r:(Int×Int×Int×Int×Int)) (h:uB U a=some r):
  aW Tryz.prog 166 #[vU (a)] [] (λx:Unit=>Value.agg #[vI (r.1),vI (r.2.1),vI (r.2.2.1),vI (r.2.2.2.1),vU (r.2.2.2.2)]) (λx l=>l) (λ_ l=>l):=by
 refine aW.of Tryz.func166 Z Tryz.ntmps166 Z λc=>?_;unfold uB at h;refine aP<|aH (aL.alloc (cs:=Zz) Z Z) Z λb=>aN<|aP<|aA Z<|xZ Z ?_;refine aD (TQ (r:=Value.agg #[vI (0:Int),vI (0:Int),vI (0:Int),vI (0:Int),vU (dA .u32 a (16777215:Int))]) Z (by intro w;simp[Instr.build,Instr.fill,dV,cY,cM,dW,dX,cZ,eT])) Z ?_;refine bO 0 (vs:=[vI (0:Int),vI (0:Int),vI (0:Int),vI (0:Int),vU (dA .u32 a (16777215:Int))]) Z Z Z Z Z Z<|aN<|aV ?_;cases h;exact jE () Z Z (RV.cell 0 Z Z Z Z) .nil aE.nil
def AR  (a:Hv):Option Ca:=
 some (((a.2.2.2.2.2.2.1,a.2.2.2.2.2.2.2.1,a.2.2.2.2.2.2.2.2,((a.1,a.2.1,a.2.2.1,a.2.2.2.1,a.2.2.2.2.1)))),a.2.2.2.2.2.1)
def xK  (a:aS×aS×bE×Int×Int×Int×Int×Int×Int):Option Ca:=
 AR  (a.2.2.2.1,a.2.2.2.2.1,a.2.2.2.2.2.1,a.2.2.2.2.2.2.1,a.2.2.2.2.2.2.2.1,a.2.2.2.2.2.2.2.2,a.1,a.2.1,a.2.2.1)
def tI  (a:aS×Int×Int×Int×Int×Int×bE×aS):Option Ca:=
 xK  (a.2.2.2.2.2.2.2,a.1,a.2.2.2.2.2.2.1,a.2.1,a.2.2.1,a.2.2.2.1,a.2.2.2.2.1,a.2.2.2.2.2.1,(0:Int))
def AS (U:Nat) (f:yB) (j:dJ) (l:Int) (c:Int×aS×fL×Int×bE) (a:Int×aS×Int×Int×Int×Int×Int×Int×bE×aS) (h:(Int×aS×Int×Int×Int×Int×Int×Int×bE×aS)->Option Ca) (d:Int):Option Ca:=
 if¬(a.1≠(0:Int))then(tI  (a.2.1,a.2.2.2.1,a.2.2.2.2.1,a.2.2.2.2.2.1,a.2.2.2.2.2.2.1,a.2.2.2.2.2.2.2.1,a.2.2.2.2.2.2.2.2.1,a.2.2.2.2.2.2.2.2.2))else(Option.bind (fC U c.2.1 l a.1 d) λi=>(if(!i)=true then(xK  (([]:aS),([]:aS),([]:bE),(0:Int),(0:Int),(0:Int),(0:Int),(0:Int),(11:Int)))else(Option.bind (jB U ((((f.1,f.2.1,f.2.2)),((((f.1,f.2.1,f.2.2)),((j.1,j.2)),c.2.2.2.1,c.2.2.2.2)),c.2.2.1)) a.2.2.2.2.2.2.2.2.1 d) λg=>(Option.bind (d_ U ((((f.1,f.2.1,f.2.2)),((((f.1,f.2.1,f.2.2)),((j.1,j.2)),c.2.2.2.1,c.2.2.2.2)),c.2.2.1)) g) λe=>(Option.bind (jJ U ((a.2.2.2.1,a.2.2.2.2.1,a.2.2.2.2.2.1,a.2.2.2.2.2.2.1,a.2.2.2.2.2.2.2.1)) d (dA .u32 e c.1)) λb=>(Option.bind (sN U g (dA .u32 e c.1) ((b.1.1,b.1.2.1,b.1.2.2.1,b.1.2.2.2.1,b.1.2.2.2.2))) λk=>(ck ((List.length a.2.2.2.2.2.2.2.2.2:Int)+(List.length ([d]):Int)<=1099511627) (ck ((List.length a.2.1:Int)+(List.length ([(dA .u32 e c.1)]):Int)<=1099511627) (h ((dA .u32 e c.1),(a.2.1++([(dA .u32 e c.1)])),(wI .i64 (a.2.2.1+(1:Int))),b.1.1,b.1.2.1,b.1.2.2.1,b.1.2.2.2.1,b.1.2.2.2.2,g,(a.2.2.2.2.2.2.2.2.2++[d])))))))))))
def tK (U:Nat) (g:yB) (h:dJ) (f:Int) (e:aS) (c:Int×aS×fL×Int×bE) (a:Int×aS×Int×Int×Int×Int×Int×Int×bE×aS) (b:(Int×aS×Int×Int×Int×Int×Int×Int×bE×aS)->Option Ca):Option Ca:=
 if a.2.2.1<(List.length e:Int)then(ck (0<=a.2.2.1∧a.2.2.1<(List.length e:Int)) (Option.bind (eM U c.2.1 f a.1 (at' e a.2.2.1)) λd=>(AS U g h f c a b (d))))else(tI  (a.2.1,a.2.2.2.1,a.2.2.2.2.1,a.2.2.2.2.2.1,a.2.2.2.2.2.2.1,a.2.2.2.2.2.2.2.1,a.2.2.2.2.2.2.2.2.1,a.2.2.2.2.2.2.2.2.2))
def AQ (U:Nat) (d:yB) (f:dJ) (g:Int) (h:bE) (i:aS) (b:Int×aS×fL×Int×bE):Option Ca:=
 Option.bind (qW U h) λe=>(Option.bind (d_ U ((((d.1,d.2.1,d.2.2)),((((d.1,d.2.1,d.2.2)),((f.1,f.2)),b.2.2.2.1,b.2.2.2.2)),b.2.2.1)) e) λc=>(Option.bind (uB U (dA .u32 c b.1)) λa=>(Option.bind (sN U e (dA .u32 c b.1) ((a.1,a.2.1,a.2.2.1,a.2.2.2.1,a.2.2.2.2))) λj=>(ck ((List.length ([]:aS):Int)+(List.length ([(dA .u32 c b.1)]):Int)<=1099511627) (bP (tK U d f g i b) U ((dA .u32 c b.1),(([]:aS)++([(dA .u32 c b.1)])),(0:Int),a.1,a.2.1,a.2.2.1,a.2.2.2.1,a.2.2.2.2,e,([]:aS)))))))
def xL (U:Nat) (e:yB) (b:dJ) (f:Int) (g:bE) (h:aS) (a:fL×Int×bE):Option Ca:=
 Option.bind (oB U ((b.1,b.2))) λc=>(Option.bind (rX U ((b.1,b.2))) λd=>(AQ U e b f g h (d,c,a.1,a.2.1,a.2.2)))
def xM (U:Nat) (c:yB) (d:dJ) (e:Int) (f:bE) (g:aS) (a:Int×bE):Option Ca:=
 Option.bind (jP U ((c.1,c.2.1,c.2.2)) ((d.1,d.2))) λb=>(xL U c d e f g (b,a.1,a.2))
def tJ (U:Nat) (b:yB) (c:dJ) (d:Int) (e:bE) (f:aS) (a:Int×bE):Option Ca:=
 xM U b c d e f (a.1,a.2)
def xN (d:dJ) (a:Int×Int×bE) (b:(Int×Int×bE)->Option Ca) (c:bE):Option Ca:=
 b ((wI .i64 (a.1+(1:Int))),(max a.2.1 (at' d.1 a.1)),c)
def qX (U:Nat) (f:dJ) (a:Int×Int×bE) (d:(Int×Int×bE)->Option Ca) (b:Int×bE) (e:(Int×bE)->Option Ca):Option Ca:=
 if b.1<(List.length (at' f.2 a.1):Int)then(ck (0<=b.1∧b.1<(List.length (at' f.2 a.1):Int)) (ck (0<=a.1∧a.1<(List.length b.2:Int)) (Option.bind (rY U ((f.1,f.2)) ((at' (at' f.2 a.1) b.1).1) a.1) λc=>(ck ((List.length (at' b.2 a.1):Int)+(List.length ([c]):Int)<=1099511627) (ck (0<=a.1∧a.1<(List.length (List.set b.2 (Int.toNat a.1) ((at' b.2 a.1)++[c])):Int)) (e ((wI .i64 (b.1+(1:Int))),(List.set b.2 (Int.toNat a.1) ((at' b.2 a.1)++[c])))))))))else(xN f a d (b.2))
def mM (U:Nat) (d:yB) (c:dJ) (e:Int) (f:bE) (g:aS) (a:Int×Int×bE) (b:(Int×Int×bE)->Option Ca):Option Ca:=
 if a.1<(List.length c.2:Int)then(ck (0<=a.1∧a.1<(List.length c.2:Int)) (ck (0<=a.1∧a.1<(List.length c.1:Int)) (bP (qX U c a b) U ((0:Int),a.2.2))))else(tJ U d c e f g (a.2.1,a.2.2))
def jQ (U:Nat) (b:yB) (a:dJ) (c:Int) (d:bE) (e:aS):Option Ca:=
 Option.bind (xX U ((b.1,b.2.1,b.2.2)) ((a.1,a.2)) c d (List.length e:Int)) λf=>(if f≠(0:Int)then(some (((([]:aS),([]:aS),([]:bE),(((0:Int),(0:Int),(0:Int),(0:Int),(0:Int))))),f))else(ck (0<=(List.length a.2:Int)∧(List.length a.2:Int)<=1099511627) (bP (mM U b a c d e) U ((0:Int),(0:Int),(List.replicate (Int.toNat (List.length a.2:Int)) ([]:aS))))))
theorem Kf:aR Tryz.prog 6:=Tryz.call6
theorem sR (U:Nat) {n:yB} {C:dJ} {R:Int} {p3:bE} {p4:aS} (p:Value)  (q:Value)  (v:Value)  (t:Value)  (z4:mV)  (v5:Value)  (z6:pA)  (v7:Value) (r:(aS×aS×bE×(Int×Int×Int×Int×Int))×Int) (h:jQ U n C R p3 p4=some r):
  aW Tryz.prog 6 #[Value.agg #[vS (n.1),p,q],Value.agg #[v,t],vI (R),v5,v7] [Sl aJ p n.2.1,Sl aG q n.2.2,PF (Value.agg #[vS n.1,p,q]),Sl bJ v C.1,S2 bG t z4 C.2,S2 bJ v5 z6 p3,Sl sE v7 p4,Gb 0 (cellsOf Cy qP)] (λx:Value×Value×Value×List Value=>Value.tuple #[Value.agg #[x.1,x.2.1,x.2.2.1,vI (r.1.2.2.2.1),vI (r.1.2.2.2.2.1),vI (r.1.2.2.2.2.2.1),vI (r.1.2.2.2.2.2.2.1),vU (r.1.2.2.2.2.2.2.2)],vI (r.2)]) (λx l=>Ar lM x.1 r.1.1::Ar lM x.2.1 r.1.2.1::Ar dD.raw x.2.2.1 x.2.2.2::jH cI x.2.2.2 r.1.2.2.1::l) (λ_ l=>l):=by
 refine aW.of Tryz.func6 Z Tryz.ntmps6 Z λc=>?_;refine aP<|aH (aL.box (cs:=[vS (n.1),p,q]) Z Z) Z λb1=>aH (aL.box (cs:=[v,t]) Z Z) Z λb2=>aH (aL.alloc (cs:=ER) Z Z) Z λb3=>aC Z<|aN<|aM<|aP<|dC 2 Z<|dC 1 Z<|aA Z<|aA Z<|aA Z<|jS (aF.fact 6 Z) Z<|fE h λr4 w5 h=>aH (aL.callQ ZZ (NW U p q v t z4 v5 z6 r4 w5) Z (mK [0,1,2,3,4,5] Z)) Z λx6=>aC Z<|aN<|aP<|aA Z<|p_ Z<|aN ?_;refine dK h Z (λh=>?_) λh=>?_
 ·refine aP ?_;refine aD (Gf (r:=Value.agg #[lX,lX,lX,vI (0:Int),vI (0:Int),vI (0:Int),vI (0:Int),vU (0:Int)]) (by intro w;simp[Instr.build,Instr.fill,dV,cY,cM,dW,dX,cZ,eT])) Z ?_;refine aA Z<|bO 0 (vs:=ER) Z Z Z Z Z Z<|aC Z<|aN<|aV<|aK<|jK (iD lM)<|jK (iD lM)<|jK (iD dD.raw) (jK (rR cI) ?_);cases h;exact iA ((lX),(lX),(lX),([]:gQ)) Z Z (RV.cell 4 Z Z Z Z) (RV.tmp Z) (bA.ix [2,3,1,0] Z Z) aE.nil
 refine cT<|aP<|dC 2 Z<|dC 1 Z<|aA Z<|Cz (A:=Int×aS×fL×Int×bE) (B:=Nat×Value×Nat×Value×List Value×Value×List Value) (vs:=[Value.agg #[vS (n.1),p,q],Value.agg #[v,t],vI (R),Value.func (.func 29) #[] #[]]) (λd=>AQ U n C R p3 p4 d=some r) (λd a=>Value.agg #[vP a.1,a.2.1,vI (R),vU (d.1),Value.func (.func 29) #[] #[]]) (λd a=>[Ar lM a.2.1 d.2.1,bX a.1 [vS (n.1),p,q,vP a.2.2.1,a.2.2.2.1] 165,Ar dD.raw a.2.2.2.1 a.2.2.2.2.1,jH bU a.2.2.2.2.1 d.2.2.1,bX a.2.2.1 [vS (n.1),p,q,v,t,vI (d.2.2.2.1),a.2.2.2.2.2.1] 212,Ar dD.raw a.2.2.2.2.2.1 a.2.2.2.2.2.2,jH cI a.2.2.2.2.2.2 d.2.2.2.2,bX b3 ER 35]) (λd a=>[Sl aJ p n.2.1,Sl aG q n.2.2,PF (Value.agg #[vS n.1,p,q]),Sl bJ v C.1,S2 bG t z4 C.2,S2 bJ v5 z6 p3,Sl sE v7 p4,Gb 0 (cellsOf Cy qP)]) (xR.fn (show aR Tryz.prog 28 from Tryz.call28) Z) Tryz.func28 Z Tryz.ntmps28 Z Z ?_ ?_
 ·refine aP<|aH (aL.box (cs:=[vS (n.1),p,q]) Z Z) Z λW=>aH (aL.box (cs:=[v,t]) Z Z) Z λX=>aH (aL.alloc (cs:=vD2) Z Z) Z λaa=>aN<|aM ?_;refine JR.start [0,0,3,0,15,0,0,95,0,511,1023] 9 mixedOrders (by decide +kernel) ?_;refine JR.open (by exact rfl) ?_;refine fP 2 Z<|fP 1 Z<|Qe (A:=fL×Int×bE) (B:=Nat×Nat×Value×List Value×Value×List Value) (vs:=[Value.agg #[vS (n.1),p,q],Value.agg #[v,t]]) (λI=>xL U n C R p3 p4 I=some r) (λI m=>vP m.1) (λI m=>[bX m.1 [vS (n.1),p,q,vP m.2.1,m.2.2.1] 165,Ar dD.raw m.2.2.1 m.2.2.2.1,jH bU m.2.2.2.1 I.1,bX m.2.1 [vS (n.1),p,q,v,t,vI (I.2.1),m.2.2.2.2.1] 212,Ar dD.raw m.2.2.2.2.1 m.2.2.2.2.2,jH cI m.2.2.2.2.2 I.2.2,bX aa vD2 79,bX X [v,t] 27,bX W [vS (n.1),p,q] 42,bX b3 ER 35]) (λI m=>[Sl aJ p n.2.1,Sl aG q n.2.2,PF (Value.agg #[vS n.1,p,q]),Sl bJ v C.1,S2 bG t z4 C.2,S2 bJ v5 z6 p3,Sl sE v7 p4,Gb 0 (cellsOf Cy qP)]) Z Z Z (xR.fn (show aR Tryz.prog 103 from Tryz.call103) Z) Tryz.func103 Z Tryz.ntmps103 Z Z (λ_ _=>(mP [] Z)) ?_ ?_
  ·refine aP<|aH (aL.box (cs:=[vS (n.1),p,q]) Z Z) Z λae=>aH (aL.box (cs:=[v,t]) Z Z) Z λaf=>aC Z<|aN<|aM ?_;refine JR.start [0,0,0,6,0,0,62,127,255,511] 7 mixedOrders (by decide +kernel) ?_;refine JR.open (by exact rfl) ?_;refine fP 1 Z<|fP 1 Z<|fP 0 Z<|Qe (A:=Int×bE) (B:=Nat×Value×List Value) (vs:=[Value.agg #[vS (n.1),p,q],Value.agg #[v,t]]) (λM=>xM U n C R p3 p4 M=some r) (λM y=>vP y.1) (λM y=>[bX y.1 [vS (n.1),p,q,v,t,vI (M.1),y.2.1] 212,Ar dD.raw y.2.1 y.2.2,jH cI y.2.2 M.2,bX af [v,t] 27,bX ae [vS (n.1),p,q] 42,bX aa vD2 79,bX X [v,t] 27,bX W [vS (n.1),p,q] 42,bX b3 ER 35]) (λM y=>[Sl aJ p n.2.1,Sl aG q n.2.2,PF (Value.agg #[vS n.1,p,q]),Sl bJ v C.1,S2 bG t z4 C.2,S2 bJ v5 z6 p3,Sl sE v7 p4,Gb 0 (cellsOf Cy qP)]) Z Z Z (xR.fn (show aR Tryz.prog 164 from Tryz.call164) Z) Tryz.func164 Z Tryz.ntmps164 Z Z (λ_ _=>(mP [([4],[])] Z)) ?_ ?_
   ·refine aP<|aH (aL.box (cs:=[vS (n.1),p,q]) Z Z) Z λcl=>aH (aL.box (cs:=[v,t]) Z Z) Z λab=>aC Z<|aN<|aM ?_;refine JR.start [0,0,0,4,12,28,63,127,255] 6 mixedOrders (by decide +kernel) ?_;refine JR.open (by exact rfl) ?_;refine fP 1 Z<|fP 0 Z<|cH Z<|gU 0 Z<|bL Z .nil (nW 4 Z) (kE Z (aF.fact 0 Z) Z) aO.z<|eH h λbu h=>JR.stp (xT cI (Int.toNat (List.length C.2:Int)))<|JR.loud Z Z Z (wP (e:=dD.raw) (lX) Z Z Z Z bu Z Z Z) Z (λF=>(mP [([2],[]),([3],[])] Z)) λF=>bQ 6 Z Z<|bZ (Know.one (aF.sl (aX (i:=0) (j:=1) Z Z dL))) λbf=>?_;refine aD (TR (r:=Value.agg #[vS (n.1),p,q,v,t,vI (0:Int),F]) Z Z Z (by intro w;simp[Instr.build,Instr.fill,dV,cY,cM,dW,dX,cZ,eT,kA bf])) Z ?_;refine aH (aL.box (cs:=[vS (n.1),p,q,v,t,vI (0:Int),F]) Z Z) Z λN=>aC Z<|aN<|aM<|EF (B:=gQ) (λO=>tJ U n C R p3 p4 O=some r) (λO ag=>[(5,vP N)]) (λO ag=>[bX N [vS (n.1),p,q,v,t,vI (O.1),F] 212,Ar dD.raw F ag,jH cI ag O.2,bX af [v,t] 27,bX ae [vS (n.1),p,q] 42,bX aa vD2 79,bX X [v,t] 27,bX W [vS (n.1),p,q] 42,bX b3 ER 35]) ?_ ?_
    ·refine aP<|bV Z<|dO 3 Z<|aD (kE Z (aF.fact 4 Z) Z) Z<|aA Z<|aN<|aT<|fJ (B:=gQ) (mM U n C R p3 p4) (λf ac=>[(3,vP ab),(5,vP N),(19,t),(20,vI (List.length C.2:Int)),(21,vI (f.1))]) (λf ac=>[bX N [vS (n.1),p,q,v,t,vI (f.2.1),F] 212,Ar dD.raw F ac,jH cI ac f.2.2,bX ab [v,t] 27,bX af [v,t] 27,bX ae [vS (n.1),p,q] 42,bX aa vD2 79,bX X [v,t] 27,bX W [vS (n.1),p,q] 42,bX b3 ER 35]) ((0:Int),(0:Int),(List.replicate (Int.toNat (List.length C.2:Int)) ([]:aS))) (List.replicate (Int.toNat (List.length C.2:Int)) (lX)) h SF (bA.ix [0,1,2,3,5,6,7,8,9,10] Z Z) ?_;intro aY f ac h;refine aP<|cW Z<|aN<|aM ?_;refine dK h Z (λh=>?_) λh=>?_
     ·refine cT<|aM<|EF (B:=gQ) (λV=>xN C f (bP (mM U n C R p3 p4) aY) V=some r) (λV ah=>[(3,vP ab),(5,vP N),(19,t),(20,vI (List.length C.2:Int)),(21,vI (f.1))]) (λV ah=>[bX N [vS (n.1),p,q,v,t,vI (max f.2.1 (at' C.1 f.1)),F] 212,Ar dD.raw F ah,jH cI ah V,bX ab [v,t] 27,bX af [v,t] 27,bX ae [vS (n.1),p,q] 42,bX aa vD2 79,bX X [v,t] 27,bX W [vS (n.1),p,q] 42,bX b3 ER 35]) ?_ ?_
      ·refine aT<|aP<|aA Z<|eH h λP h=>aD (cV Z Z (aF.fact 4 Z) Z Z P) Z<|aD (cX Z (aF.fact 4 Z) Z Z P) Z<|aC Z<|aC Z<|aN<|aM ?_;refine JR.start [0,0,2,6,14,0,32,0,224,480,1022,2047,4095,8191] 11 mixedOrders (by decide +kernel) ?_;refine JR.open (by exact rfl) ?_;refine bD Z<|bD Z<|iB Z (bW Z)<|cH Z<|gU 0 Z<|cH Z<|gU 3 Z<|bD Z<|eH h λaI h=>bL Z .nil (nW 3 Z) (bK Z Z (aF.fact 0 Z) Z Z aI) aO.z<|bL Z .nil (nW 3 Z) (cQ Z (aF.fact 0 Z) Z Z Z fG aI) aO.z<|iB Z (Ir Z Z)<|bQ 11 Z Z<|aD (bW Z) Z<|bV Z<|iV 0 Z Z Z Z Z Z<|aN<|aP<|aA Z<|aD (kR Z (aF.el (aF.fact 4 Z) P.1 P.2) Z) Z<|aA Z<|aN<|aT<|fJ (B:=gQ) (qX U C f (bP (mM U n C R p3 p4) aY)) (λE ad=>[(3,vP ab),(5,vP N),(6,vI (f.1)),(19,t),(20,vI (List.length C.2:Int)),(21,vI (f.1)),(39,(at' z4 f.1).1),(40,vI (List.length (at' C.2 f.1):Int)),(41,vI (E.1))]) (λE ad=>[bX N [vS (n.1),p,q,v,t,vI (max f.2.1 (at' C.1 f.1)),F] 212,Ar dD.raw F ad,jH cI ad E.2,bX ab [v,t] 27,bX af [v,t] 27,bX ae [vS (n.1),p,q] 42,bX aa vD2 79,bX X [v,t] 27,bX W [vS (n.1),p,q] 42,bX b3 ER 35]) ((0:Int),f.2.2) (ac) h SF (bA.refl _) ?_;intro cn E ad h;refine aP<|cW Z<|aN<|aM ?_;refine dK h Z (λh=>?_) λh=>?_
       ·refine cT<|aM<|aT<|aP<|eH h λaU h=>aD (bK Z Z (aF.el (aF.fact 4 Z) P.1 P.2) Z Z aU) Z<|aD (g_ (cs:=[vI ((at' (at' C.2 f.1) E.1).1),vI ((at' (at' C.2 f.1) E.1).2)]) Z (aF.el (aF.fact 4 Z) P.1 P.2) bI Z Z Z Z aU) Z<|aH (aL.alloc (cs:=Ti) Z Z) Z λcm=>bO 0 (vs:=[vI ((at' (at' C.2 f.1) E.1).1),vI ((at' (at' C.2 f.1) E.1).2)]) Z Z Z Z Z Z<|aN ?_;refine JR.start [0,1,3,7,0,0,32,96,224,0,992,2016,0,0,8192,0,61440,126976,262112,524287,1048575] 19 mixedOrders (by decide +kernel) ?_;refine JR.open (by exact rfl) ?_;refine bD Z<|iB Z (bW Z)<|cH Z<|gU 1 Z<|bD Z<|bD Z<|iB Z (bW Z)<|cH Z<|gU 1 Z<|bD Z<|eH h λao h=>cA (cO 3 Z) λa5=>?_;refine bL Z (bA.cons 2 Z .nil) .nil (iW 0 Z Z Z Z Z ao.1 (by have q1:=ao.2;have q2:=a5;(try simp only[List.length_set]at q1);(try simp only[List.length_set]at q2);(try simp only[List.length_set]);omega)) aO.z ?_;refine cA (cO 3 Z) λa6=>bL Z (bA.cons 2 Z .nil) .nil (lP 0 Z Z a6 Z Z ao) aO.z<|fP 4 Z<|cH Z<|gU 0 Z<|bD Z<|fE h λai b7 h=>JR.loud Z Z Z (aL.callQ Xl (Jn U v t z4 ai b7) Z (mK [3,4] Z)) Z (λcb=>(mP [([2],[]),([2],[]),([1],[]),([1],[])] Z)) λcb=>JR.loud Z Z Z (cP (e:=cI) ([ai]) [(0,vI (ai))] Z Z Z Z (qL (vI (ai)) Z) Z Z Z) Z (λbH=>(mP [([3],[]),([3],[]),([2],[]),([2],[])] Z)) λbH=>eH h λbw h=>JR.loud Z Z Z (qI 4 dL Z Z Z (a_ (aF.res 0 Z) dL) Z Z Z Z ao bw Z) Z (λa3=>(mP [([2],[])] Z)) λa3=>bQ 19 Z Z<|eH h λQ h=>bZ (cO 4 Z) λa7=>?_;refine aD (iW 3 Z Z Z Z Z Q.1 (by have q1:=Q.2;have q2:=a7;(try simp only[List.length_set]at q1);(try simp only[List.length_set]at q2);(try simp only[List.length_set]);omega)) Z ?_;refine bZ (As 4 (k:=f.1) Z ⟨Q.1,by first|exact Q.2|simpa using Q.2⟩) λbg=>?_;refine qE 3 4 ⟨Q.1,by first|exact Q.2|simpa using Q.2⟩ Z Z Z Z Z (by simp) bg Z ?_;refine eN<|oP<|aQ<|cJ Z<|aA Z<|aN ?_;exact mW ((wI .i64 (E.1+(1:Int))),(List.set E.2 (Int.toNat f.1) ((at' E.2 f.1)++[ai]))) (List.set ad (Int.toNat f.1) a3) h SF (bA.ix [2,3,4,5,6,7,8,9,10,11] Z Z) (aE.refl _ _)
       refine sW<|eZ<|eZ<|yR<|oP ?_;exact iP (E.2) (ad) h SF Z
      intro V ah h;unfold xN at h;refine aQ<|cJ Z<|aA Z<|aN ?_;exact AX ((wI .i64 (f.1+(1:Int))),(max f.2.1 (at' C.1 f.1)),V) (ah) h SF Z
     refine gX ?_;exact b_ (f.2.1,f.2.2) (ac) h SF (bA.ix [0,1,2,4,5,6,7,8,9] Z Z) (aE.refl _ _)
    intro O ag h;unfold tJ at h;refine aP<|aA Z<|aC Z<|aN<|aV ?_;exact zJ (O.1,O.2) (N,F,ag) h (.inl Z) (HM.r1 Z (RV.tmp Z)) Z (bA.refl _) (aE.refl _ _)
   intro M y h;unfold xM at h;refine bL Z (bA.cons 4 Z .nil) .nil (jL 0 Z Z Z Z) (aO.h (bA.ix [1] Z Z) .nil aO.z)<|bL Z (bA.cons 3 Z .nil) .nil (jL 0 Z Z Z Z) (aO.h (bA.ix [0] Z Z) .nil aO.z)<|fE h λa2 b6 h=>JR.loud Z Z Z (aL.callQ OX (Ad U p q v t z4 a2 b6) Z (mK [0,1,2,3,4] Z)) Z (λaj=>(mP [([6],[])] Z)) λaj=>bQ 7 Z Z<|bZ (Know.one (aF.sl (aX (i:=0) (j:=1) Z Z bI))) λbe=>?_;refine aD (TR (r:=Value.agg #[vS (n.1),p,q,Value.pointer (some ⟨y.1,0,none⟩),aj.1]) Z Z Z (by intro w;simp[Instr.build,Instr.fill,dV,cY,cM,dW,dX,cZ,eT,kA be])) Z ?_;refine aH (aL.box (cs:=[vS (n.1),p,q,vP y.1,aj.1]) Z Z) Z λbh=>aC Z<|aN<|aV ?_;exact zJ (a2,M.1,M.2) (bh,y.1,aj.1,aj.2,y.2.1,y.2.2) h (.inl Z) (HM.r1 Z (RV.tmp Z)) Z (bA.ix [0,1,2,3,4,5,8,9,10,11] Z Z) (aE.refl _ _)
  intro I m h;unfold xL at h;refine bL Z (bA.cons 7 Z .nil) .nil (jL 0 Z Z Z Z) (aO.h (bA.ix [1] Z Z) .nil aO.z)<|fE h λa1 b4 h=>JR.loud Z Z Z (aL.callQ WV (HD U v t z4 a1 b4) Z (mK [3,4] Z)) Z (λar=>(mP [] Z)) λar=>iB Z (gR Z)<|bL Z (bA.cons 8 Z .nil) .nil (jL 0 Z Z Z Z) (aO.h (bA.ix [7] Z Z) .nil (aO.h (bA.ix [1] Z Z) .nil aO.z))<|fE h λaq b5 h=>JR.loud Z Z Z (aL.callQ Qo (Ht U v t z4 aq b5) Z (mK [3,4] Z)) Z (λca=>(mP [] Z)) λca=>iB Z (gR Z)<|bQ 9 Z Z<|bZ (Know.one ((a_ (aF.res 0 Z) kZ))) λbc=>?_;refine aD (Y.bld5 (r:=Value.agg #[Value.pointer (some ⟨m.1,0,none⟩),ar,vI (R),vU (aq),Value.func (.func 29) #[] #[]]) Z Z Z Z Z (by intro w;simp[Instr.build,Instr.fill,dV,cY,cM,dW,dX,cZ,eT,kA bc])) Z ?_;refine bZ (Know.one ((a_ (aF.res 0 Z) kZ))) λbd=>bO 7 (vs:=[vP m.1,ar,vI (R),vU (aq),Value.func (.func 29) #[] #[]]) Z Z (cG Z (cG bd (cG Z (cG Z (cG Z Z))))) Z Z Z<|aN<|aV ?_;exact zJ (aq,a1,I.1,I.2.1,I.2.2) (m.1,ar,m.2.1,m.2.2.1,m.2.2.2.1,m.2.2.2.2.1,m.2.2.2.2.2) h (.inl Z) (HM.r1 Z (RV.cell 7 Z Z Z Z)) Z (bA.ix [0,1,2,3,4,5,6,10] Z Z) (aE.refl _ _)
 intro d a h;refine aA Z<|aA Z<|Cz (A:=Hv) (B:=Value×Value×Value×List Value) (vs:=[Value.agg #[vP a.1,a.2.1,vI (R),vU (d.1),Value.func (.func 29) #[] #[]],v5,v7]) (λD=>AR  D=some r) (λD G=>Value.tuple #[Value.agg #[G.1,G.2.1,G.2.2.1,vI (D.1),vI (D.2.1),vI (D.2.2.1),vI (D.2.2.2.1),vU (D.2.2.2.2.1)],vI (D.2.2.2.2.2.1)]) (λD G=>[bX b3 ER 35,Ar lM G.1 D.2.2.2.2.2.2.1,Ar lM G.2.1 D.2.2.2.2.2.2.2.1,Ar dD.raw G.2.2.1 G.2.2.2,jH cI G.2.2.2 D.2.2.2.2.2.2.2.2]) (λD G=>[Sl aJ p n.2.1,Sl aG q n.2.2,PF (Value.agg #[vS n.1,p,q]),Sl bJ v C.1,S2 bG t z4 C.2,S2 bJ v5 z6 p3,Sl sE v7 p4,Gb 0 (cellsOf Cy qP)]) (xR.fn (show aR Tryz.prog 30 from Tryz.call30) Z) Tryz.func30 Z Tryz.ntmps30 Z Z ?_ ?_
 ·refine aP<|aH (aL.box (cs:=[vP a.1,a.2.1,vI (R),vU (d.1),Value.func (.func 29) #[] #[]]) Z Z) Z λak=>bZ (Know.one ((aF.fact 6 Z))) λbl=>?_;refine aH (aL.box (cs:=[v7]) Z (by rw[kA bl])) Z λal=>?_;refine aH (aL.alloc (cs:=ER) Z Z) Z λay=>aC Z<|aN<|aP<|dC 2 Z<|aA Z<|dO 1 Z<|jS (aF.fact 6 Z) Z<|aD (zP (cs:=[.tmp 3,.tmp 5]) (vs:=[vP ak,vP al]) Z) Z<|Cz (A:=aS×aS×bE×Int×Int×Int×Int×Int×Int) (B:=Value×Value×Value×List Value) (vs:=[Value.agg #[vP a.1,a.2.1,vI (R),vU (d.1),Value.func (.func 29) #[] #[]],v5,vI (List.length p4:Int),Value.func (.func 107) #[] #[vP ak,vP al]]) (λs=>xK  s=some r) (λs H=>Value.tuple #[Value.agg #[H.1,H.2.1,H.2.2.1,vI (s.2.2.2.1),vI (s.2.2.2.2.1),vI (s.2.2.2.2.2.1),vI (s.2.2.2.2.2.2.1),vU (s.2.2.2.2.2.2.2.1)],vI (s.2.2.2.2.2.2.2.2)]) (λs H=>[bX ay ER 35,bX b3 ER 35,Ar lM H.1 s.1,Ar lM H.2.1 s.2.1,Ar dD.raw H.2.2.1 H.2.2.2,jH cI H.2.2.2 s.2.2.1]) (λs H=>[Sl aJ p n.2.1,Sl aG q n.2.2,PF (Value.agg #[vS n.1,p,q]),Sl bJ v C.1,S2 bG t z4 C.2,S2 bJ v5 z6 p3,Sl sE v7 p4,Gb 0 (cellsOf Cy qP)]) (xR.fn (show aR Tryz.prog 106 from Tryz.call106) Z) Tryz.func106 Z Tryz.ntmps106 Z Z ?_ ?_
  ·refine aP<|aH (aL.box (cs:=[vP a.1,a.2.1,vI (R),vU (d.1),Value.func (.func 29) #[] #[]]) Z Z) Z λa4=>aH (aL.alloc (cs:=ER) Z Z) Z λav=>aC Z<|aN<|aP<|aH (aL.alloc (cs:=ER) Z Z) Z λaw=>aN<|aP<|aA Z<|fE h λaz cf h=>aH (aL.callQ OY (AT U v5 z6 az cf) Z (mK [5] Z)) Z λan=>aC Z<|aN<|aM ?_;refine JR.start [0,1,0,7,0,16,63,127] 6 mixedOrders (by decide +kernel) ?_;refine JR.open (by exact rfl) ?_;refine cH Z<|gU 4 Z<|bD Z<|fE h λam cg h=>JR.loud Z Z Z (aL.callQ Qr (u_ U a.1 p q a.2.2.1 p q v t z4 a.2.2.2.2.2.1 (List.zip a.2.2.2.2.2.2 d.2.2.2.2) a.2.2.2.1 (List.zip a.2.2.2.2.1 d.2.2.1) an.1 (List.zip an.2 az) am cg) Z (aE.cons (aF.res 9 Z) (aE.cons (aF.fact 0 Z) (aE.cons (aF.fact 1 Z) (aE.cons (aF.res 12 Z) (aE.cons (aF.fact 0 Z) (aE.cons (aF.fact 1 Z) (aE.cons (aF.fact 3 Z) (aE.cons (aF.fact 4 Z) (aE.cons (aX (i:=13) (j:=14) Z Z dL) (aE.cons (aX (i:=10) (j:=11) Z Z bI) (aE.cons (aX (i:=0) (j:=1) Z Z dL) .nil)))))))))))) Z (λcj=>(mP [] Z)) λcj=>iB Z (dM Z Z Z Z Z)<|bL Z (bA.cons 4 Z .nil) .nil (eS 0 Z Z Z Z Z) (aO.h (bA.ix [4] Z Z) .nil aO.z)<|bQ 6 Z Z<|xZ Z<|aC Z<|aN<|aP<|aA Z<|fE h λK ch h=>aH (aL.callQ Xi (HA U  K ch) Z .nil) Z λcv=>aH (aL.alloc (cs:=Zz) Z Z) Z λax=>bO 0 (vs:=[vI (K.1),vI (K.2.1),vI (K.2.2.1),vI (K.2.2.2.1),vU (K.2.2.2.2)]) Z Z Z Z Z Z<|aN<|aP<|bV Z<|dO 5 Z<|aA Z<|aA Z<|dC 0 Z<|fE h λcd ci h=>aH (rP (vs:=[an.1,vU (dA .u32 am d.1),Value.agg #[vI (K.1),vI (K.2.1),vI (K.2.2.1),vI (K.2.2.2.1),vU (K.2.2.2.2)]]) (cs:=[]) Uj Z (FS U an.1 (List.zip an.2 az) cd ci) Z (aE.cons (aX (i:=1) (j:=2) Z Z dL) .nil) (λ_ _=>rfl)) Z λcw=>aN<|aP<|bV Z<|dO 3 Z<|aA Z<|aH (cP (e:=lM) ([(dA .u32 am d.1)]) [(0,vU (dA .u32 am d.1))] Z Z Z Z (qL (vU (dA .u32 am d.1)) Z) Z Z Z) Z λcu=>jK (iD lM)<|eH h λcc h=>aH (iL 0 kZ Z Z Z (a_ (aF.res 1 Z) kZ) Z Z Z Z cc Z) Z λce=>bV Z<|bZ (Know.one ((a_ (aF.res 0 Z) kZ))) λbp=>iV 5 Z Z bp Z Z Z<|aN<|aM<|EF (B:=Value×List Value×Value×Value) (λo=>tI  o=some r) (λo J=>[(1,J.1),(8,vP av),(10,vP aw),(12,vP ax)]) (λo J=>[Ar lM J.2.2.2 o.1,bX ax [vI (o.2.1),vI (o.2.2.1),vI (o.2.2.2.1),vI (o.2.2.2.2.1),vU (o.2.2.2.2.2.1)] 33,Ar dD.raw J.1 J.2.1,jH cI J.2.1 o.2.2.2.2.2.2.1,bX aw [J.2.2.1,J.2.2.2,lX,vI (0:Int),vI (0:Int),vI (0:Int),vI (0:Int),vU (0:Int)] 35,bX av ER 35,bX ay ER 35,bX b3 ER 35,Ar lM J.2.2.1 o.2.2.2.2.2.2.2]) ?_ ?_
   ·refine aP<|aA Z<|aA Z<|aN<|aT<|jK (iD lM)<|fJ (B:=Value×List Value×Value×Value) (tK U n C R p4 d) (λb g=>[(1,g.1),(3,Value.func (.func 107) #[] #[vP ak,vP al]),(4,vP a4),(8,vP av),(10,vP aw),(11,vU (b.1)),(12,vP ax),(39,vI (List.length p4:Int)),(40,vI (b.2.2.1))]) (λb g=>[Ar lM g.2.2.2 b.2.1,bX ax [vI (b.2.2.2.1),vI (b.2.2.2.2.1),vI (b.2.2.2.2.2.1),vI (b.2.2.2.2.2.2.1),vU (b.2.2.2.2.2.2.2.1)] 33,Ar dD.raw g.1 g.2.1,jH cI g.2.1 b.2.2.2.2.2.2.2.2.1,bX aw [g.2.2.1,g.2.2.2,lX,vI (0:Int),vI (0:Int),vI (0:Int),vI (0:Int),vU (0:Int)] 35,bX av ER 35,bX a4 [vP a.1,a.2.1,vI (R),vU (d.1),Value.func (.func 29) #[] #[]] 79,bX ay ER 35,bX al [v7] 29,bX ak [vP a.1,a.2.1,vI (R),vU (d.1),Value.func (.func 29) #[] #[]] 79,Ar lM a.2.1 d.2.1,bX a.1 [vS (n.1),p,q,vP a.2.2.1,a.2.2.2.1] 165,Ar dD.raw a.2.2.2.1 a.2.2.2.2.1,jH bU a.2.2.2.2.1 d.2.2.1,bX a.2.2.1 [vS (n.1),p,q,v,t,vI (d.2.2.2.1),a.2.2.2.2.2.1] 212,Ar dD.raw a.2.2.2.2.2.1 a.2.2.2.2.2.2,jH cI a.2.2.2.2.2.2 d.2.2.2.2,bX b3 ER 35,Ar lM g.2.2.1 b.2.2.2.2.2.2.2.2.2]) ((dA .u32 am d.1),(([]:aS)++([(dA .u32 am d.1)])),(0:Int),K.1,K.2.1,K.2.2.1,K.2.2.2.1,K.2.2.2.2,az,([]:aS)) (an.1,an.2,(lX),ce) h SF (bA.ix [1,3,4,5,6,7,8,9,10,11,12,13,14,15,16,17,18,19,0] Z Z) ?_;intro bx b g h;refine aP<|cW Z<|aN<|aM ?_;refine dK h Z (λh=>?_) λh=>?_
    ·refine cT<|aM<|aT<|aP<|aA Z<|aC Z<|aN<|aP<|aA Z<|aA Z<|aA Z<|Cz (A:=Int) (B:=Unit) (vs:=[vI (b.2.2.1),vU (b.1),vP ak,vP al]) (λL=>AS U n C R d b (bP (tK U n C R p4 d) bx) L=some r) (λL au=>Value.tuple #[vU (L),vB (decide (b.1≠(0:Int)))]) (λL au=>[Ar lM g.2.2.2 b.2.1,bX ax [vI (b.2.2.2.1),vI (b.2.2.2.2.1),vI (b.2.2.2.2.2.1),vI (b.2.2.2.2.2.2.1),vU (b.2.2.2.2.2.2.2.1)] 33,Ar dD.raw g.1 g.2.1,jH cI g.2.1 b.2.2.2.2.2.2.2.2.1,bX aw [g.2.2.1,g.2.2.2,lX,vI (0:Int),vI (0:Int),vI (0:Int),vI (0:Int),vU (0:Int)] 35,bX av ER 35,bX a4 [vP a.1,a.2.1,vI (R),vU (d.1),Value.func (.func 29) #[] #[]] 79,bX ay ER 35,bX al [v7] 29,bX ak [vP a.1,a.2.1,vI (R),vU (d.1),Value.func (.func 29) #[] #[]] 79,Ar lM a.2.1 d.2.1,bX a.1 [vS (n.1),p,q,vP a.2.2.1,a.2.2.2.1] 165,Ar dD.raw a.2.2.2.1 a.2.2.2.2.1,jH bU a.2.2.2.2.1 d.2.2.1,bX a.2.2.1 [vS (n.1),p,q,v,t,vI (d.2.2.2.1),a.2.2.2.2.2.1] 212,Ar dD.raw a.2.2.2.2.2.1 a.2.2.2.2.2.2,jH cI a.2.2.2.2.2.2 d.2.2.2.2,bX b3 ER 35,Ar lM g.2.2.1 b.2.2.2.2.2.2.2.2.2]) (λL au=>[Sl aJ p n.2.1,Sl aG q n.2.2,PF (Value.agg #[vS n.1,p,q]),Sl bJ v C.1,S2 bG t z4 C.2,S2 bJ v5 z6 p3,Sl sE v7 p4,Gb 0 (cellsOf Cy qP)]) (RQ (us:=[vI (b.2.2.1),vU (b.1)]) (cs:=[vP ak,vP al]) (show aR Tryz.prog 107 from Tryz.call107) Z Z Z) Tryz.func107 Z Tryz.ntmps107 Z Z ?_ ?_
     ·refine aP<|aC Z<|aC Z<|aN<|aM ?_;refine JR.start [0,1,0,4,0,0,0,96,224,511,0,1024,1023,8191] 13 mixedOrders (by decide +kernel) ?_;refine JR.open (by exact rfl) ?_;refine cH Z<|gU 9 Z<|cH Z<|gU 9 Z<|bD Z<|gU 8 Z<|bD Z<|eH h λaB h=>bL Z .nil (nW 6 Z) (bK Z Z (aF.fact 0 Z) Z Z aB) aO.z<|bL Z .nil (nW 6 Z) (cQ Z (aF.fact 0 Z) Z Z Z CE aB) aO.z<|fE h λa0 b0 h=>JR.loud Z Z Z (aL.callQ Qp (v_ U a.2.1 a0 b0) Z (aE.cons (a_ (aF.res 10 Z) kZ) (mK [7] Z))) Z (λb9=>(mP [] Z)) λb9=>iB Z (gR Z)<|iB Z (Kd Z Z)<|iB Z (vG Z)<|bQ 13 Z Z<|aC Z<|aN<|aV ?_;exact zJ (a0) () h (.inl Z) (HM.r2 Z (RV.tmp Z) (RV.tmp Z)) Z (bA.refl _) (aE.refl _ _)
     intro L au h;refine aA Z<|gA Z<|gA Z<|aC Z<|aC Z<|aN<|aM<|aP<|aA Z<|aD (ZO Z) Z<|aN ?_;refine dK h Z (λh=>?_) λh=>?_
     ·refine sW<|eZ<|Wy Z<|eZ<|eZ<|yR<|Aq ?_;exact b_ (b.2.1,b.2.2.2.1,b.2.2.2.2.1,b.2.2.2.2.2.1,b.2.2.2.2.2.2.1,b.2.2.2.2.2.2.2.1,b.2.2.2.2.2.2.2.2.1,b.2.2.2.2.2.2.2.2.2) (g.1,g.2.1,g.2.2.1,g.2.2.2) h SF (bA.ix [0,1,2,3,4,5,7,17,18] Z Z) (aE.refl _ _)
     refine cT<|aM<|aP<|bV Z<|dO 6 Z<|bV Z<|dO 6 Z<|aA Z<|aA Z<|fE h λbz bM h=>aH (aL.callQ Qs (vZ U a.2.1 bz bM) Z (aE.cons (a_ (aF.res 10 Z) kZ) (mK [7] Z))) Z λcq=>aD (wG Z) Z<|aN ?_;refine BF h Z (λ_ h=>?_) λ_ h=>?_
     ·refine aP ?_;refine aD (Gf (r:=Value.agg #[lX,lX,lX,vI (0:Int),vI (0:Int),vI (0:Int),vI (0:Int),vU (0:Int)]) (by intro w;simp[Instr.build,Instr.fill,dV,cY,cM,dW,dX,cZ,eT])) Z ?_;refine bO 5 (vs:=ER) Z Z Z Z Z Z<|aC Z<|aN<|aV<|aK<|bS<|aK<|aK<|bS<|aK<|jK (iD lM)<|jK (iD lM)<|jK (iD dD.raw) (jK (rR cI) ?_);exact zJ (([]:aS),([]:aS),([]:bE),(0:Int),(0:Int),(0:Int),(0:Int),(0:Int),(11:Int)) ((lX),(lX),(lX),([]:gQ)) h (.inl Z) (HM.r2 Z (RV.cell 9 Z Z Z Z) (RV.tmp Z)) Z (bA.ix [11,21,2,3,1,0] Z Z) (aE.refl _ _)
     refine cT<|aP<|bV Z<|dO 6 Z<|aA Z<|aA Z<|fE h λap bN h=>aH (aL.callQ Xj (Db U a.1 p q a.2.2.1 p q v t z4 a.2.2.2.2.2.1 (List.zip a.2.2.2.2.2.2 d.2.2.2.2) a.2.2.2.1 (List.zip a.2.2.2.2.1 d.2.2.1) g.1 (List.zip g.2.1 b.2.2.2.2.2.2.2.2.1) ap bN) Z (aE.cons (aF.res 11 Z) (aE.cons (aF.fact 0 Z) (aE.cons (aF.fact 1 Z) (aE.cons (aF.res 14 Z) (aE.cons (aF.fact 0 Z) (aE.cons (aF.fact 1 Z) (aE.cons (aF.fact 3 Z) (aE.cons (aF.fact 4 Z) (aE.cons (aX (i:=15) (j:=16) Z Z dL) (aE.cons (aX (i:=12) (j:=13) Z Z bI) (aE.cons (aX (i:=2) (j:=3) Z Z dL) .nil)))))))))))) Z λT=>aC Z<|aN<|aM ?_;refine JR.start [0,1,0,7,0,16,63,127] 6 mixedOrders (by decide +kernel) ?_;refine JR.open (by exact rfl) ?_;refine cH Z<|gU 8 Z<|bD Z<|fE h λS bR h=>JR.loud Z Z Z (aL.callQ Qr (u_ U a.1 p q a.2.2.1 p q v t z4 a.2.2.2.2.2.1 (List.zip a.2.2.2.2.2.2 d.2.2.2.2) a.2.2.2.1 (List.zip a.2.2.2.2.1 d.2.2.1) T.1 (List.zip T.2 ap) S bR) Z (aE.cons (aF.res 13 Z) (aE.cons (aF.fact 0 Z) (aE.cons (aF.fact 1 Z) (aE.cons (aF.res 16 Z) (aE.cons (aF.fact 0 Z) (aE.cons (aF.fact 1 Z) (aE.cons (aF.fact 3 Z) (aE.cons (aF.fact 4 Z) (aE.cons (aX (i:=17) (j:=18) Z Z dL) (aE.cons (aX (i:=14) (j:=15) Z Z bI) (aE.cons (aX (i:=0) (j:=1) Z Z dL) .nil)))))))))))) Z (λb8=>(mP [] Z)) λb8=>iB Z (dM Z Z Z Z Z)<|bL Z (bA.cons 8 Z .nil) .nil (eS 0 Z Z Z Z Z) (aO.h (bA.ix [8] Z Z) .nil aO.z)<|bQ 6 Z Z<|xZ Z<|aC Z<|aN<|aP<|dC 3 Z<|aA Z<|aA Z<|fE h λu bT h=>aH (aL.callQ Xk (JN U  u bT) Z .nil) Z λcr=>aA Z<|gA Z<|gA Z<|bO 3 (vs:=[vI (u.1.1),vI (u.1.2.1),vI (u.1.2.2.1),vI (u.1.2.2.2.1),vU (u.1.2.2.2.2)]) Z Z Z Z Z Z<|aN<|aP<|bV Z<|dO 8 Z<|aA Z<|aA Z<|dC 3 Z<|fE h λbB bY h=>aH (rP (vs:=[T.1,vU (dA .u32 S d.1),Value.agg #[vI (u.1.1),vI (u.1.2.1),vI (u.1.2.2.1),vI (u.1.2.2.2.1),vU (u.1.2.2.2.2)]]) (cs:=[]) Uj Z (FS U T.1 (List.zip T.2 ap) bB bY) Z (aE.cons (aX (i:=0) (j:=1) Z Z dL) .nil) (λ_ _=>rfl)) Z λct=>aN<|aP<|bV Z<|dO 6 Z<|aA Z<|aH (cP (e:=lM) ([L]) [(0,vU (L))] Z Z Z Z (qL (vU (L)) Z) Z Z Z) Z λco=>eH h λbs h=>aH (iL 21 kZ Z Z Z (a_ (aF.res 0 Z) kZ) Z Z Z Z bs Z) Z λbC=>bV Z<|bZ (Know.one ((a_ (aF.res 21 Z) kZ))) λba=>iV 7 Z Z ba Z Z Z<|aN<|aQ<|bV Z<|dO 7 Z<|aA Z<|aH (cP (e:=lM) ([(dA .u32 S d.1)]) [(0,vU (dA .u32 S d.1))] Z Z Z Z (qL (vU (dA .u32 S d.1)) Z) Z Z Z) Z λcp=>eH h λbt h=>aH (iL 4 kZ Z Z Z (a_ (aF.res 0 Z) kZ) Z Z Z Z bt Z) Z λbF=>bV Z<|bZ (Know.one ((a_ (aF.res 4 Z) kZ))) λbb=>iV 8 Z Z bb Z Z Z<|eN<|oP<|aQ<|cJ Z<|aA Z<|aN ?_;exact mW ((dA .u32 S d.1),(b.2.1++([(dA .u32 S d.1)])),(wI .i64 (b.2.2.1+(1:Int))),u.1.1,u.1.2.1,u.1.2.2.1,u.1.2.2.2.1,u.1.2.2.2.2,ap,(b.2.2.2.2.2.2.2.2.2++[L])) (T.1,T.2,bC,bF) h SF (bA.ix [4,5,2,3,8,9,10,11,12,13,14,15,16,17,18,19,20,21,22] Z Z) (aE.refl _ _)
    refine gX ?_;exact b_ (b.2.1,b.2.2.2.1,b.2.2.2.2.1,b.2.2.2.2.2.1,b.2.2.2.2.2.2.1,b.2.2.2.2.2.2.2.1,b.2.2.2.2.2.2.2.2.1,b.2.2.2.2.2.2.2.2.2) (g.1,g.2.1,g.2.2.1,g.2.2.2) h SF (bA.ix [0,1,2,3,4,5,7,17,18] Z Z) (aE.refl _ _)
   intro o J h;unfold tI at h;refine aM ?_;refine JR.start [0,0,1,5,15,31] 4 mixedOrders (by decide +kernel) ?_;refine JR.open (by exact rfl) ?_;refine bD Z<|fP 1 Z<|cH Z<|cA (Know.one (aF.sl (aX (i:=2) (j:=3) Z Z dL))) λbq=>pJ Z Z Z (My 4 Z Z bq Z Z Z) (λck=>(mP [([1],[])] Z)) λck=>bQ 4 Z Z<|bV Z<|KZ (Il 4 (us:=[vI (o.2.1),vI (o.2.2.1),vI (o.2.2.2.1),vI (o.2.2.2.2.1),vU (o.2.2.2.2.2.1)]) Z Z Z Z Z Z Z Z Z) λcx=>aN<|aP<|dC 4 Z<|bZ (Know.one ((a_ (aF.res 8 Z) kZ))) λbr=>bZ (Know.one ((a_ (aF.res 0 Z) kZ))) λa8=>bZ (Know.one (aF.sl (aX (i:=2) (j:=3) Z Z dL))) λa9=>bO 5 (vs:=[J.2.2.1,J.2.2.2,J.1,vI (o.2.1),vI (o.2.2.1),vI (o.2.2.2.1),vI (o.2.2.2.2.1),vU (o.2.2.2.2.2.1)]) Z Z (cG br (cG a8 (cG a9 (cG Z (cG Z (cG Z (cG Z (cG Z Z)))))))) Z Z Z<|aC Z<|aN<|aV ?_;exact zJ (o.2.2.2.2.2.2.2,o.1,o.2.2.2.2.2.2.1,o.2.1,o.2.2.1,o.2.2.2.1,o.2.2.2.2.1,o.2.2.2.2.2.1,(0:Int)) (J.2.2.1,J.2.2.2,J.1,J.2.1) h (.inl Z) (HM.r2 Z (RV.cell 5 Z Z Z Z) (RV.tmp Z)) Z (bA.ix [6,7,8,0,2,3] Z Z) (aE.refl _ _)
  intro s H h;unfold xK at h;refine gA Z<|gA Z<|bZ (Know.one ((a_ (aF.res 2 Z) kZ))) λbm=>bZ (Know.one ((a_ (aF.res 3 Z) kZ))) λbn=>bZ (Know.one (aF.sl (aX (i:=4) (j:=5) Z Z dL))) λbo=>bO 0 (vs:=[H.1,H.2.1,H.2.2.1,vI (s.2.2.2.1),vI (s.2.2.2.2.1),vI (s.2.2.2.2.2.1),vI (s.2.2.2.2.2.2.1),vU (s.2.2.2.2.2.2.2.1)]) Z Z (cG bm (cG bn (cG bo (cG Z (cG Z (cG Z (cG Z (cG Z Z)))))))) Z Z Z<|aC Z<|aN<|aV ?_;exact zJ (s.2.2.2.1,s.2.2.2.2.1,s.2.2.2.2.2.1,s.2.2.2.2.2.2.1,s.2.2.2.2.2.2.2.1,s.2.2.2.2.2.2.2.2,s.1,s.2.1,s.2.2.1) (H.1,H.2.1,H.2.2.1,H.2.2.2) h (.inl Z) (HM.r2 Z (RV.cell 0 Z Z Z Z) (RV.tmp Z)) Z (bA.ix [1,2,3,4,5] Z Z) (aE.refl _ _)
 intro D G h;unfold AR at h;refine gA Z<|gA Z<|bZ (Know.one ((a_ (aF.res 1 Z) kZ))) λbi=>bZ (Know.one ((a_ (aF.res 2 Z) kZ))) λbj=>bZ (Know.one (aF.sl (aX (i:=3) (j:=4) Z Z dL))) λbk=>bO 0 (vs:=[G.1,G.2.1,G.2.2.1,vI (D.1),vI (D.2.1),vI (D.2.2.1),vI (D.2.2.2.1),vU (D.2.2.2.2.1)]) Z Z (cG bi (cG bj (cG bk (cG Z (cG Z (cG Z (cG Z (cG Z Z)))))))) Z Z Z<|aC Z<|aN<|aV ?_;cases h;exact iA (G.1,G.2.1,G.2.2.1,G.2.2.2) Z Z (RV.cell 0 Z Z Z Z) (RV.tmp Z) (bA.ix [1,2,3,4] Z Z) aE.nil
end Go.Proofs.YtjkjpdonlpdcaaaGreatDoor
namespace Go.Proofs.YtjkjpdonlpdcaaaGreatDoor
open Go Go.Sx
theorem Tc {g:GR} (e:VG g) (p:zL) (b:Int) (c:bE) (o:aS):
  bP (mM 1000 p g b c o) 1000 ((0:Int),(0:Int),(List.replicate (Int.toNat (List.length g.2:Int)) ([]:aS)))=tJ 1000 p g b c o (lU g g.2.length,fH g):=by
 have z:=e.n24;have s:=e.len;let f:Nat->aS:=λv=>(List.range (row g v).length).map (Qm g v);let Q:Nat->bE:=λk=>(List.range k).map f++List.replicate (g.2.length - k) [];have q:∀k,k<=g.2.length->(Q k).length=g.2.length:=λk i=>by simp[Q];omega
 rw[show List.replicate (Int.toNat (List.length g.2:Int)) ([]:aS)=Q 0 by simp[Q]];refine eF (step:=mM 1000 p g b c o) g.2.length (λk=>((k:Int),lU g k,Q k)) (λk d i=> ?_) (λd=> ?_) 1000 (by omega)
 ·have r:=(e.node k i).deg;have t:k<(Q k).length:=by rw[q k (by omega)];exact i
  unfold mM;dsimp only;rw[if_pos (by omega),cS (by omega),cS (by omega)];let a:Nat->aS:=λj=>(List.range j).map (Qm g k);have y:Q k=(Q k).set k (a 0):=by
   have:at' (Q k) (k:Int)=a 0:=by
    rw[lC t];simp[Q,a]
   rw[<-this];exact(Jk (Q k) (k:Int) (by simpa using t) (by omega)).symm
  rw[show(Q k)=(Q k).set k (a 0)from y];have h:∀A:bE,A.length=g.2.length->bP (qX 1000 g ((k:Int),lU g k,(Q k).set k (a 0)) d) 1000 ((0:Int),A.set k (a 0))=d (((k+1:Nat):Int),lU g (k+1),A.set k (f k)):=by
   intro A D;refine eF (step:=qX 1000 g ((k:Int),lU g k,(Q k).set k (a 0)) d) (K:=d (((k+1:Nat):Int),lU g (k+1),A.set k (f k))) (row g k).length (λj=>((j:Int),A.set k (a j))) (λj m C=> ?_) (λm=> ?_) 1000 (by omega)
   ·obtain⟨u,w,l⟩:=e.to i C;have B:=(e.node u w).deg;have x:at' (A.set k (a j)) (k:Int)=a j:=by rw[uO _ _ _ _ (by omega),if_pos Z]
    have n:(a j).length=j:=by simp[a]
    unfold qX;dsimp only;rw[if_pos (show(j:Int)<((row g k).length:Int) by omega),cS (show 0<=(j:Int)∧(j:Int)<((row g k).length:Int) by omega),cS (by simp only[List.length_set];omega),show at' (at' g.2 (k:Int)) (j:Int)=jA (row g k) j from rfl,l,bF (show rY 1000 _ (u:Int) (k:Int)=_ from SY g u (k:Int) w (by omega)),x,cS (by rw[n];simp;omega),cS (by simp only[List.length_set];omega),dG (by omega),Int.toNat_natCast,List.set_set];have:a j++[BV (row g u) (k:Int)]=a (j+1):=by
     simp only[a];rw[List.range_succ,List.map_append,List.map_singleton,Qm,l,Int.toNat_natCast]
    rw[this]
   ·unfold qX xN;dsimp only;rw[if_neg (show¬((row g k).length:Int)<((row g k).length:Int)from Int.lt_irrefl _),dG (by omega)];rfl
  have:=h (Q k) (q k (by omega));rw[xJ f [] g.2.length k i]at this;exact this
 ·unfold mM;dsimp only;rw[if_neg (by omega)];simp[Q,fH,f]
def jI (g:GR):Nat:=2^g.2.length - 1
theorem WM {g:GR} (b:VG g):jI g<4294967296:=by
 have a:=b.n24;have:(2:Nat)^g.2.length<=2^24:=Nat.pow_le_pow_right (by omega) a;unfold jI;omega
section
variable {p:zL} {g:GR} {R:List RL}
theorem Pm (hV:VG g) (hp:vF g p.2.1) (hz:p.2.2.map vE=Eu R) (hR:xC p.2.1.length R=true) {kind:Int} (hk1:1<=kind) (hk4:kind<=4) {c0:List (List Int)} (hc0:FY g c0 p.2.1) {ws:List Int} (hws:ws.length<=900) (hw:∀k:Nat,k<ws.length->∃m:Nat,at' ws (k:Int)=(m:Int)∧m<4294967296)
  (P:Nat->List (List Int)->List Nat->CT->Prop) (h0:P 0 c0 [] (0,0,0,0,dA .u32 ((yY (bM p g) R (jI g) c0:Nat):Int) 16777215))
  (hstep:∀k c ch cnt t cnt' err,k<ws.length->uU g p.2.1.length c->P k c ch cnt->yY (bM p g) R (jI g) c≠0->t≠0->(∀i,t.testBit i=true->(yY (bM p g) R (jI g) c).testBit i=true)->(kind<=2->∀v u,t.testBit v=true->t.testBit u=true->¬Cc g v u)->(kind=4->t=yY (bM p g) R (jI g) c)->(∃net,oB 1000 g=some net∧eM 1000 net kind ((yY (bM p g) R (jI g) c:Nat):Int) (at' ws (k:Int))=some (t:Int))->
   jJ 1000 cnt (t:Int) ((yY (bM p g) R (jI g) (iC (bM p g) p.2.1 R c t):Nat):Int)=some (cnt',err)->P (k+1) (iC (bM p g) p.2.1 R c t) (ch++[t]) cnt'):
  ∃k c ch cnt ens,jQ 1000 p g kind c0 ws=some ((BN ch,ens,c,cnt),0)∧P k c ch cnt∧uU g p.2.1.length c∧k<=ws.length∧ch.length=k∧ens.length=k+1∧at' ens (k:Int)=((yY (bM p g) R (jI g) c:Nat):Int)∧(k=ws.length∨yY (bM p g) R (jI g) c=0):=by
 have h24:=hV.n24;have hvl:=hp.len;let S:=bM p g;have hVS:VG S.2.1:=hV;obtain⟨net,hnet,hN⟩:=aaV hV;have hcheck:xX 1000 p g kind c0 (ws.length:Int)=some 0:=by
  unfold xX;rw[bF (show nK 1000 _ _ c0=_ from Ng hV hp hc0),if_neg (by decide)];have:vR 1000 kind=some true:=by
   unfold vR qJ;rw[if_pos hk1,decide_eq_true hk4]
  rw[bF this,if_neg (by decide),if_neg (by omega)]
 unfold jQ;rw[bF (show xX 1000 _ _ kind c0 _=_ from hcheck),if_neg (by decide),cS (by omega),Tc hV p kind c0 ws];unfold tJ xM;rw[bF (show jP 1000 _ _=_ from Ju hV hp)];unfold xL;rw[bF (show oB 1000 _=_ from hnet),bF (show rX 1000 _=some ((jI g:Nat):Int)from TX hV)];have hen:∀c,uU g p.2.1.length c->d_ 1000 (p,(p,g,lU g g.2.length,fH g),Ag g p.2.1) c=some ((enD S R c:Nat):Int):=λc hc=>Pj hV hc hz hR (by simp[Ag]);have hand:∀c,dA .u32 ((enD S R c:Nat):Int) ((jI g:Nat):Int)=((yY S R (jI g) c:Nat):Int):=λc=>Cg (aav hVS R c) (WM hV);unfold AQ;dsimp only;rw[bF (Lr c0 (by rw[hc0.len];omega) (λv hv=>by rw[hc0.row v (by rw[<-hc0.len];exact hv)];omega)),bF (show d_ 1000 _ c0=_ from hen c0 hc0.shape),hand,bF (show uB 1000 _=some (0,0,0,0,dA .u32 ((yY S R (jI g) c0:Nat):Int) 16777215)from rfl),bF (show sN 1000 _ _ _=some ()from rfl),cS (by simp),List.nil_append];let A20:Int×List Int×(List (List (Int×Int)))×Int×List (List Int):=(((jI g:Nat):Int),net,Ag g p.2.1,lU g g.2.length,fH g)
 have fin:∀k c ch cnt ens,P k c ch cnt->uU g p.2.1.length c->k<=ws.length->ch.length=k->ens.length=k+1->at' ens (k:Int)=((yY S R (jI g) c:Nat):Int)->(k=ws.length∨yY S R (jI g) c=0)->
   OK (λr:(List Int×List Int×List (List Int)×CT)×Int=>∃k c ch cnt ens,r=((BN ch,ens,c,cnt),0)∧P k c ch cnt∧uU g p.2.1.length c∧k<=ws.length∧ch.length=k∧ens.length=k+1∧at' ens (k:Int)=((yY S R (jI g) c:Nat):Int)∧(k=ws.length∨yY S R (jI g) c=0)) (tI (ens,cnt.1,cnt.2.1,cnt.2.2.1,cnt.2.2.2.1,cnt.2.2.2.2,c,BN ch)):=
  λk c ch cnt ens a1 a2 a3 a4 a5 a6 a7=>⟨_,rfl,k,c,ch,cnt,ens,rfl,a1,a2,a3,a4,a5,a6,a7⟩
 have key:=vM (step:=tK 1000 p g kind ws A20) (Q:=λr:(List Int×List Int×List (List Int)×CT)×Int=>∃k c ch cnt ens,r=((BN ch,ens,c,cnt),0)∧P k c ch cnt∧uU g p.2.1.length c∧k<=ws.length∧ch.length=k∧ens.length=k+1∧at' ens (k:Int)=((yY S R (jI g) c:Nat):Int)∧(k=ws.length∨yY S R (jI g) c=0))
  (λx=>∃(k:Nat) (c:List (List Int)) (ch:List Nat) (cnt:CT) (ens:List Int),x=(((yY S R (jI g) c:Nat):Int),ens,(k:Int),cnt.1,cnt.2.1,cnt.2.2.1,cnt.2.2.2.1,cnt.2.2.2.2,c,BN ch)∧P k c ch cnt∧uU g p.2.1.length c∧k<=ws.length∧ch.length=k∧ens.length=k+1∧at' ens (k:Int)=((yY S R (jI g) c:Nat):Int)) (λx=>ws.length - x.2.2.1.toNat) (λx ag hI hrec=>by
  obtain⟨k,c,ch,cnt,ens,rfl,b1,b2,b3,b4,b5,b6⟩:=hI;unfold tK;dsimp only;by_cases hlt:k<ws.length
  rotate_left
  ·rw[if_neg (by omega)];exact fin k c ch cnt ens b1 b2 b3 b4 b5 b6 (.inl (by omega))
  obtain⟨w,hwe,hw32⟩:=hw k hlt;have hin:JB g (yY S R (jI g) c):=Ph S R (jI g) c;obtain⟨t,ht,hsub,hne⟩:=PK hV hN hk1 hk4 hin hw32;rw[if_pos (by omega),cS (by omega),hwe,bF (show eM 1000 net kind _ _=_ from ht)];unfold AS;dsimp only;by_cases he0:yY S R (jI g) c=0
  ·rw[if_pos (by omega)];exact fin k c ch cnt ens b1 b2 b3 b4 b5 b6 (.inr he0)
  obtain⟨ht0,hperm,hk2,hk4'⟩:=hne he0;have ht32:t<4294967296:=by have:=JB.lt hV (λi hi=>hin i (hsub i hi));omega
  rw[if_neg (by omega),bF (show fC 1000 net kind _ _=_ from hperm),if_neg (by decide)];have hst:jB 1000 (p,(p,g,lU g g.2.length,fH g),Ag g p.2.1) c (t:Int)=some (iC S p.2.1 R c t):=YN (gr:=lU g g.2.length) hV hp b2 hz hR ht32 (λv hv=>((yZ S R (jI g) c v).1 (hsub v hv)).2.1);have hsh:uU g p.2.1.length (iC S p.2.1 R c t):=b2.step;obtain⟨⟨cnt',err⟩,hadd⟩:=TV cnt ht32 ((yY S R (jI g) (iC S p.2.1 R c t):Nat):Int);rw[bF (show jB 1000 _ c (t:Int)=_ from hst),bF (show d_ 1000 _ _=_ from hen _ hsh),hand,bF (show jJ 1000 _ (t:Int) _=_ from hadd),bF (show sN 1000 _ _ _=some ()from rfl),cS (by simp[BN];omega),cS (by simp;omega),dG (by omega)];refine hrec _ ⟨k+1,iC S p.2.1 R c t,ch++[t],cnt',ens++[((yY S R (jI g) (iC S p.2.1 R c t):Nat):Int)],by simp[BN],hstep k c ch cnt t cnt' err hlt b2 b1 he0 ht0 hsub hk2 hk4' ⟨net,hnet,by rw[hwe];exact ht⟩ hadd,hsh,by omega,by simp[b4],by simp[b5],?_⟩ (by dsimp only;omega);exact Lk (pre:=ens) (rest:=[]) (by simp) b5) 1000 (((yY S R (jI g) c0:Nat):Int),[((yY S R (jI g) c0:Nat):Int)],(0:Int),0,0,0,0,dA .u32 ((yY S R (jI g) c0:Nat):Int) 16777215,c0,[])
  ⟨0,c0,[],(0,0,0,0,dA .u32 ((yY S R (jI g) c0:Nat):Int) 16777215),[((yY S R (jI g) c0:Nat):Int)],rfl,h0,hc0.shape,by omega,rfl,rfl,rfl⟩ (by dsimp only;omega)
 obtain⟨r,hr,k,c,ch,cnt,ens,rfl,hrest⟩:=key;exact⟨k,c,ch,cnt,ens,hr,hrest⟩
end
end Go.Proofs.YtjkjpdonlpdcaaaGreatDoor
namespace Go.Proofs.YtjkjpdonlpdcaaaGreatDoor
open Go.Sx
def sT  (a:Bool):Option (Bool):=
 some (a)
def AA (U:Nat) (b:Int) (a:Int):Option (Bool):=
 if(0:Int)<=a then(if a<(32:Int)then(ck (0<=(wI .u64 a)) (sT  (decide ((dA .u32 (lY .u32 b (wI .u64 a)) (1:Int))=(1:Int)))))else(sT  (false)))else(sT  (false))
theorem ZY:aR Tryz.prog 24:=Tryz.call24
theorem NX (U:Nat) {b:Int} {d:Int} (r:Bool) (h:AA U b d=some r):
  aW Tryz.prog 24 #[vU (b),vI (d)] [] (λx:Unit=>vB (r)) (λx l=>l) (λ_ l=>l):=by
 refine aW.of Tryz.func24 Z Tryz.ntmps24 Z λc=>?_;refine aP<|aC Z<|aN<|aM<|fF (λa=>sT  a=some r) (λa e=>[(4,vB (a))]) (λa e=>[]) ?_ ?_
 ·refine aQ<|aA Z<|aD (Eb Z Z) Z<|aA Z ?_;refine CP h Z (λ_ h=>?_) λ_ h=>?_
  ·refine eP Z<|aU Z (Hg Z Z) Z<|eR Z<|aA Z ?_;refine CP h Z (λ_ h=>?_) λ_ h=>?_
   ·refine eP Z<|eP Z<|aU Z (Gg Z Z Z) Z<|eH h λf h=>aU Z (Fg Z Z f) Z<|aU Z (Kb Z Z) Z<|aU Z (Kc Z Z) Z<|eR Z<|aC Z<|aN ?_;exact iP (decide ((dA .u32 (lY .u32 b (wI .u64 d)) (1:Int))=(1:Int))) () h SF Z
   refine aI Z<|aI Z<|aI Z<|aI Z<|aI Z<|aI Z<|eY Z<|aC Z<|aN ?_;exact iP (false) () h SF Z
  refine aI Z<|aI Z<|eY Z<|aA Z<|aI Z<|aI Z<|aI Z<|aI Z<|aI Z<|aI Z<|eY Z<|aC Z<|aN ?_;exact iP (false) () h SF Z
 intro a e h;unfold sT at h;refine aV ?_;cases h;exact lL Z
def uK  (a:aS):Option aS:=
 some (a)
def qR (c:aS×Int) (b:(aS×Int)->Option aS) (a:aS):Option aS:=
 b (a,(wI .i64 (c.2+(1:Int))))
def oF (b:aS) (d:Int) (a:aS×Int) (c:(aS×Int)->Option aS):Option aS:=
 if a.2<d then(if(List.length b:Int)=(0:Int)then(ck ((List.length a.1:Int)+(List.length ([(4294967295:Int)]):Int)<=1099511627) (qR a c (a.1++([(4294967295:Int)]))))else(ck ((List.length b:Int)≠0) (ck (0<=(Int.tmod a.2 (List.length b:Int))∧(Int.tmod a.2 (List.length b:Int))<(List.length b:Int)) (ck ((List.length b:Int)≠0) (ck ((24:Int)≠0) (ck (0<=(wI .u64 (Int.tmod (wI .i64 (Int.tdiv a.2 (List.length b:Int))) (24:Int)))) (ck (0<=(wI .u64 ((24:Int) - (wI .u64 (Int.tmod (wI .i64 (Int.tdiv a.2 (List.length b:Int))) (24:Int)))))) (ck ((List.length a.1:Int)+(List.length ([(dA .u32 (Ec .u32 (wC .u32 (dA .u32 (at' b (Int.tmod a.2 (List.length b:Int))) (16777215:Int)) (wI .u64 (Int.tmod (wI .i64 (Int.tdiv a.2 (List.length b:Int))) (24:Int)))) (lY .u32 (dA .u32 (at' b (Int.tmod a.2 (List.length b:Int))) (16777215:Int)) (wI .u64 ((24:Int) - (wI .u64 (Int.tmod (wI .i64 (Int.tdiv a.2 (List.length b:Int))) (24:Int))))))) (16777215:Int))]):Int)<=1099511627) (qR a c (a.1++([(dA .u32 (Ec .u32 (wC .u32 (dA .u32 (at' b (Int.tmod a.2 (List.length b:Int))) (16777215:Int)) (wI .u64 (Int.tmod (wI .i64 (Int.tdiv a.2 (List.length b:Int))) (24:Int)))) (lY .u32 (dA .u32 (at' b (Int.tmod a.2 (List.length b:Int))) (16777215:Int)) (wI .u64 ((24:Int) - (wI .u64 (Int.tmod (wI .i64 (Int.tdiv a.2 (List.length b:Int))) (24:Int))))))) (16777215:Int))])))))))))))else(uK  (a.1))
def jR (U:Nat) (a:aS) (b:Int):Option aS:=
 bP (oF a b) U (([]:aS),(0:Int))
theorem CI:aR Tryz.prog 11:=Tryz.call11
theorem lJ (U:Nat) {a:aS} {i:Int} (n:Value) (r:aS) (h:jR U a i=some r):
  aW Tryz.prog 11 #[n,vI (i)] [Sl sE n a] (λx:Value=>x) (λx l=>Ar lM x r::l) (λ_ l=>l):=by
 refine aW.of Tryz.func11 Z Tryz.ntmps11 Z λc=>?_;unfold jR at h;refine aP<|aC Z<|aN<|aP<|aC Z<|aN<|aM<|EF (B:=Value) (λj=>uK  j=some r) (λj k=>[(5,k)]) (λj k=>[Ar lM k j]) ?_ ?_
 ·refine aP<|aC Z<|aN<|aT<|jK (iD lM)<|fJ (B:=Value) (oF a i) (λb f=>[(0,n),(1,vI (i)),(5,f),(6,vI (b.2))]) (λb f=>[Ar lM f b.1]) (([]:aS),(0:Int)) (lX) h SF (bA.refl _) ?_;intro w b f h;refine aM<|aP<|aA Z<|aA Z<|cW Z<|aN ?_;refine dK h Z (λh=>?_) λh=>?_
  ·refine cT<|aM<|EF (B:=Value) (λd=>qR b (bP (oF a i) w) d=some r) (λd g=>[(0,n),(1,vI (i)),(5,g),(6,vI (b.2))]) (λd g=>[Ar lM g d]) ?_ ?_
   ·refine aT<|aM<|aP<|aA Z<|jS (aF.fact 0 Z) Z<|bR Z<|aN ?_;refine dK h Z (λh=>?_) λh=>?_
    ·refine aP<|aA Z<|aH (cP (e:=lM) ([(4294967295:Int)]) [(0,vU (4294967295:Int))] Z Z Z Z (qL (vU (4294967295:Int)) Z) Z Z Z) Z λC=>eH h λo h=>aH (iL 1 kZ Z Z Z (a_ (aF.res 0 Z) kZ) Z Z Z Z o Z) Z λy=>aC Z<|aN<|sW<|eZ<|yR<|Aq ?_;exact b_ (b.1++([(4294967295:Int)])) (y) h SF (bA.ix [1] Z Z) (aE.refl _ _)
    refine cT<|aM ?_;refine JR.start [0,0,0,4,14,31,63,0,0,256,896,1920,3968,127,16383] 14 mixedOrders (by decide +kernel) ?_;refine JR.open (by exact rfl) ?_;refine bD Z<|bD Z<|bD Z<|bL Z .nil (nW 0 Z) (kR Z (aF.fact 0 Z) Z) aO.z<|eH h λp h=>iB Z (MV Z Z p)<|eH h λm h=>bL Z .nil (nW 0 Z) (bK Z Z (aF.fact 0 Z) Z Z m) aO.z<|bL Z .nil (nW 0 Z) (cQ Z (aF.fact 0 Z) Z Z Z CE m) aO.z<|bD Z<|bD Z<|bL Z .nil (nW 0 Z) (kR Z (aF.fact 0 Z) Z) aO.z<|eH h λq h=>iB Z (TU Z Z q)<|eH h λs h=>iB Z (MV Z Z s)<|iB Z (Gg Z Z Z)<|iB Z (vG Z)<|bQ 14 Z Z<|aC Z<|aN<|aP<|aA Z<|xZ Z<|aC Z<|aN<|aQ<|aA Z<|aA Z<|aA Z<|eH h λt h=>aD (Ff Z Z t) Z<|aA Z<|aA Z<|aD (q_ Z Z) Z<|eH h λu h=>aD (Fg Z Z u) Z<|aD (Le Z Z) Z<|xZ Z<|aH (cP (e:=lM) ([(dA .u32 (Ec .u32 (wC .u32 (dA .u32 (at' a (Int.tmod b.2 (List.length a:Int))) (16777215:Int)) (wI .u64 (Int.tmod (wI .i64 (Int.tdiv b.2 (List.length a:Int))) (24:Int)))) (lY .u32 (dA .u32 (at' a (Int.tmod b.2 (List.length a:Int))) (16777215:Int)) (wI .u64 ((24:Int) - (wI .u64 (Int.tmod (wI .i64 (Int.tdiv b.2 (List.length a:Int))) (24:Int))))))) (16777215:Int))]) [(0,vU (dA .u32 (Ec .u32 (wC .u32 (dA .u32 (at' a (Int.tmod b.2 (List.length a:Int))) (16777215:Int)) (wI .u64 (Int.tmod (wI .i64 (Int.tdiv b.2 (List.length a:Int))) (24:Int)))) (lY .u32 (dA .u32 (at' a (Int.tmod b.2 (List.length a:Int))) (16777215:Int)) (wI .u64 ((24:Int) - (wI .u64 (Int.tmod (wI .i64 (Int.tdiv b.2 (List.length a:Int))) (24:Int))))))) (16777215:Int)))] Z Z Z Z (qL (vU (dA .u32 (Ec .u32 (wC .u32 (dA .u32 (at' a (Int.tmod b.2 (List.length a:Int))) (16777215:Int)) (wI .u64 (Int.tmod (wI .i64 (Int.tdiv b.2 (List.length a:Int))) (24:Int)))) (lY .u32 (dA .u32 (at' a (Int.tmod b.2 (List.length a:Int))) (16777215:Int)) (wI .u64 ((24:Int) - (wI .u64 (Int.tmod (wI .i64 (Int.tdiv b.2 (List.length a:Int))) (24:Int))))))) (16777215:Int))) Z) Z Z Z) Z λD=>eH h λv h=>aH (iL 1 kZ Z Z Z (a_ (aF.res 0 Z) kZ) Z Z Z Z v Z) Z λA=>aC Z<|eN<|oP ?_;exact b_ (b.1++([(dA .u32 (Ec .u32 (wC .u32 (dA .u32 (at' a (Int.tmod b.2 (List.length a:Int))) (16777215:Int)) (wI .u64 (Int.tmod (wI .i64 (Int.tdiv b.2 (List.length a:Int))) (24:Int)))) (lY .u32 (dA .u32 (at' a (Int.tmod b.2 (List.length a:Int))) (16777215:Int)) (wI .u64 ((24:Int) - (wI .u64 (Int.tmod (wI .i64 (Int.tdiv b.2 (List.length a:Int))) (24:Int))))))) (16777215:Int))])) (A) h SF (bA.ix [1] Z Z) (aE.refl _ _)
   intro d g h;unfold qR at h;refine aQ<|aA Z<|cJ Z<|aC Z<|aN ?_;exact AX (d,(wI .i64 (b.2+(1:Int)))) (g) h SF Z
  refine gX ?_;exact iP (b.1) (f) h SF Z
 intro j k h;unfold uK at h;refine aP<|aA Z<|aC Z<|aN<|aV ?_;cases h;exact jE (k) Z Z (RV.tmp Z) (bA.refl _) aE.nil
end Go.Proofs.YtjkjpdonlpdcaaaGreatDoor
namespace Go.Proofs.YtjkjpdonlpdcaaaGreatDoor
open Go Go.Sx
theorem ZT (f:Nat) {m v:Nat} (b:m<4294967296) (a:v<32):AA f (m:Int) (v:Int)=some (m.testBit v):=by
 unfold AA sT;rw[if_pos (by omega),if_pos (by omega),agG a,cS (by omega)];congr 1;rw[Bool.eq_iff_iff,decide_eq_true_eq];exact Gy a b
theorem Oj (x:Int):0<=wI .u64 x:=by
 rw[Cp];have:IntKind.u64.wrap x=x%18446744073709551616:=rfl;rw[this];omega
theorem KP (l:aS) {n:Nat} (y:n<=900):∃ws,jR 1000 l (n:Int)=some ws∧ws.length=n∧∀k:Nat,k<ws.length->∃m:Nat,at' ws (k:Int)=(m:Int)∧m<4294967296:=by
 unfold jR;obtain⟨⟨ws,i⟩,⟨c,b,d⟩,t⟩:=vL (step:=oF l (n:Int)) (K:=λz=>some z.1) n
  (λk z=>z.2=(k:Int)∧z.1.length=k∧∀j:Nat,j<k->∃m:Nat,at' z.1 (j:Int)=(m:Int)∧m<4294967296) (λk z q v h=>by
  obtain⟨ws,i⟩:=z;obtain⟨c,b,d⟩:=h;dsimp only at c b d;subst c;have a:∀m:Nat,m<4294967296->∀j:Nat,j<k+1->∃p:Nat,at' (ws++[(m:Int)]) (j:Int)=(p:Int)∧p<4294967296:=λm o j u=>by
   rw[H_ ws _ (by omega)];by_cases e:j<ws.length
   ·rw[if_pos e];exact d j (by omega)
   ·rw[if_neg e];exact⟨m,rfl,o⟩
  have f:∀m:Nat,(List.length ws:Int)+(List.length [(m:Int)]:Int)<=1099511627:=λm=>by simp;omega
  unfold oF qR;dsimp only;rw[if_pos (by omega),dG (by omega)];by_cases x:l.length=0
  ·rw[if_pos (by omega),cS (show(List.length ws:Int)+(List.length [(4294967295:Int)]:Int)<=1099511627 from f 4294967295)];exact⟨_,⟨rfl,by simp[b],a 4294967295 (by omega)⟩,rfl⟩
  ·have r:Int.tmod (k:Int) (l.length:Int)=((k%l.length:Nat):Int):=rfl;have w:k%l.length<l.length:=Nat.mod_lt _ (by omega);rw[if_neg (by omega),cS (by omega),cS (by rw[r];omega),cS (by omega),cS (by decide),cS (Oj _),cS (Oj _)];have s:∀X:Int,∃m:Nat,dA .u32 X (16777215:Int)=(m:Int)∧m<4294967296:=λX=>⟨_,HP _ _,Nat.lt_of_le_of_lt Nat.and_le_left (Im _)⟩
   obtain⟨m,o,g⟩:=s (Ec .u32 (wC .u32 (dA .u32 (at' l (Int.tmod (k:Int) (l.length:Int))) (16777215:Int)) (wI .u64 (Int.tmod (wI .i64 (Int.tdiv (k:Int) (l.length:Int))) (24:Int)))) (lY .u32 (dA .u32 (at' l (Int.tmod (k:Int) (l.length:Int))) (16777215:Int)) (wI .u64 ((24:Int) - (wI .u64 (Int.tmod (wI .i64 (Int.tdiv (k:Int) (l.length:Int))) (24:Int)))))));rw[o,cS (f m)];exact⟨_,⟨rfl,by simp[b],a m g⟩,rfl⟩) (λz q h=>by
  obtain⟨ws,i⟩:=z;obtain⟨c,b,d⟩:=h;dsimp only at c;subst c;unfold oF uK;dsimp only;rw[if_neg (by omega)]) 1000 (([]:aS),(0:Int)) ⟨rfl,rfl,λj u=>by omega⟩ (by omega)
 exact⟨ws,t,b,λk v=>d k (by dsimp only at b;omega)⟩
def iR (a:f_) (v:Nat):Nat:=a.countP λt=>t.testBit v
theorem zH (a:f_) (t v:Nat):iR (a++[t]) v=iR a v+if t.testBit v=true then 1 else 0:=by
 unfold iR;rw[List.countP_append];cases h:t.testBit v<;>simp[h]
def o_ (f:Nat->Nat):Nat->Nat
 |0=>0
 |n+1=>o_ f n+f n
theorem Jv {f:Nat->Nat}:∀{n:Nat},(∀v,v<n->f v<=1)->o_ f n<=n
 |0,_=>Nat.le_refl 0
 |n+1,h=>by
  have:=Jv (n:=n) λv a=>h v (by omega);have:=h n (by omega);simp only[o_];omega
theorem Ic {f:Nat->Nat} {b:Nat}:∀{n:Nat},(∀v,v<n->f v<=b)->o_ f n<=b*n
 |0,_=>Nat.zero_le _
 |n+1,h=>by
  have:=Ic (n:=n) λv a=>h v (by omega);have:=h n (by omega);simp only[o_,Nat.mul_succ];omega
theorem Bq {f h:Nat->Nat}:∀{n:Nat},(∀v,v<n->f v<=h v)->o_ f n<=o_ h n
 |0,_=>Nat.le_refl 0
 |n+1,k=>by
  have:=Bq (n:=n) λv a=>k v (by omega);have:=k n (by omega);simp only[o_];omega
theorem PV {f h:Nat->Nat}:∀{n:Nat} {u:Nat},(∀v,v<n->f v<=h v)->u<n->f u<h u->o_ f n<o_ h n
 |0,u,_,hu,_=>absurd hu (Nat.not_lt_zero u)
 | n + 1, u, k, hu, hl => by
  simp only[o_];by_cases e:u=n
  ·subst e;have:=Bq (n:=u) λv a=>k v (by omega);omega
  ·have:=PV (n:=n) (u:=u) (λv a=>k v (by omega)) (by omega) hl;have:=k n (by omega);omega
def pN (c:bE) (v:Nat):Int:=at' (at' c (v:Int)) 0
def yN (g:GR) (c:bE) (v i:Nat):Int:=at' (at' c (jA (row g v) i).1) 0
theorem gV {g:GR} {c:bE} {v i u:Nat} (h:(jA (row g v) i).1=(u:Int)):yN g c v i=pN c u:=by unfold yN pN;rw[h]
end Go.Proofs.YtjkjpdonlpdcaaaGreatDoor