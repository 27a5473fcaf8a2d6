/- Models and proofs. Conditions: none. -/
import Derived.Test.YtmdlcmbplnhdnaaGreatDoorZRCl6
import Derived.Test.YtmdlcmbplnhdnaaGreatDoorZRCl2
import Derived.Test.YtmdlcmbplnhdnaaGreatDoorZRCl7
import Derived.Test.YtmdlcmbplnhdnaaGreatDoorZRCl5
set_option linter.unusedVariables false
set_option linter.unusedSimpArgs false
set_option maxHeartbeats 4000000
set_option maxRecDepth 20000
namespace Go.Proofs.YtmdlcmbplnhdnaaGreatDoor
open Go Go.Sx
def Vj (x:Int):Int:=max (-1073741824) (min x 1073741824)
def unD (o x:Int):Int:=if o=18 then wI .i64 (0 - x)else AE (decide (x=0))
def abd (a b:Int):Int:=if b=0 then 0 else if Int.tmod a b≠0∧((decide (a<0)) != (decide (b<0)))=true then wI .i64 (wI .i64 (Int.tdiv a b) - 1)else wI .i64 (Int.tdiv a b)
def adm (o x y:Int):Bool:=if o=35 then decide (x=y)else if o=36 then decide (x≠y)else if o=37 then decide (x<y)else if o=38 then decide (x<=y)else if o=39 then decide (y<x)else decide (y<=x)
def biD (o x y:Int):Int:=
 if o=30 then Vj (wI .i64 (x*y))else if o=31 then Vj (abd x y)else if o=32 then(if y=0 then 0 else Vj (wI .i64 (x - wI .i64 (y*abd x y))))else if o=33 then Vj (wI .i64 (x+y))else if o=34 then Vj (wI .i64 (x - y))
 else if o=41 then AE (decide (x≠0)&&decide (y≠0))else if o=42 then AE (decide (x≠0)||decide (y≠0))else AE (adm o x y)
theorem YJ (f:Nat) (o x:Int):Ao f o x=some (unD o x):=by
 unfold Ao unD;split
 ·rfl
 ·rw[bE (uC f _)]
theorem Yi (f:Nat) (a b:Int):qT f a b=some (abd a b):=by
 unfold qT abd;by_cases c:b=0
 ·rw[if_pos c,if_pos c]
 ·rw[if_neg c,if_neg c,cD c,cD c];by_cases d:Int.tmod a b=0
  ·rw[if_neg (by simpa using d),if_neg (by simp[d])];rfl
  ·rw[if_pos d];unfold sR pL;by_cases e:((decide (a<0)) != (decide (b<0)))=true
   ·rw[if_pos e,if_pos ⟨d,e⟩]
   ·rw[if_neg e,if_neg (λq=>e q.2)]
theorem adn (f:Nat) (o x y:Int):uP f o x y=some (adm o x y):=by
 unfold uP adm
 repeat' split
 all_goals rfl
theorem Uk (f:Nat) (o x y:Int):yN f o x y=some (biD o x y):=by
 unfold yN biD;by_cases h:o=30
 ·rw[if_pos h,if_pos h];rfl
 rw[if_neg h,if_neg h];by_cases h:o=31
 ·rw[if_pos h,if_pos h,bE (Yi f x y)];rfl
 rw[if_neg h,if_neg h];by_cases h:o=32
 ·rw[if_pos h,if_pos h];by_cases b:y=0
  ·rw[if_pos b,if_pos b]
  ·rw[if_neg b,if_neg b,bE (Yi f x y)];rfl
 rw[if_neg h,if_neg h];by_cases h:o=33
 ·rw[if_pos h,if_pos h];rfl
 rw[if_neg h,if_neg h];by_cases h:o=34
 ·rw[if_pos h,if_pos h];rfl
 rw[if_neg h,if_neg h];by_cases h:o=41
 ·rw[if_pos h,if_pos h];by_cases a:x=0
  ·rw[if_neg (by simpa using a),bE (uC f _)];simp[a,pJ]
  ·rw[if_pos a,bE (uC f _)];simp[a,pJ]
 rw[if_neg h,if_neg h];by_cases h:o=42
 ·rw[if_pos h,if_pos h];by_cases a:x=0
  ·rw[if_neg (by simpa using a),bE (uC f _)];simp[a,pK]
  ·rw[if_pos a,bE (uC f _)];simp[a,pK]
 rw[if_neg h,if_neg h,bE (adn f o x y),bE (uC f _)]
def E.den (L:Int->Int->Int->Int) (b:Nat):E->Int->Int
 |lf o a,p=>L o a p
 |un o x,p=>unD o (x.den L b p)
 |ag o x,_=>SU o ((List.range b).map λq=>x.den L b ((q:Nat):Int))
 |bi o x y,p=>biD o (x.den L b p) (y.den L b p)
 |ite x y z,p=>if x.den L b p≠0 then y.den L b p else z.den L b p
def E.wf (c:Nat):Bool->E->Bool
 |b,lf o a=>decide (1<=o)&&decide (o<=17)&&(b||decide (o<=10))&&((decide (o≠5)&&decide (o≠12))||(decide (0<=a)&&decide (a<(c:Int))))
 |b,un o x=>decide (18<=o)&&decide (o<=19)&&x.wf c b
 |_,ag o x=>(decide (o=20)||decide (o=21)||decide (o=22)||decide (o=23)||decide (o=24)||decide (o=26)||decide (o=27))&&x.wf c true
 |b,bi o x y=>decide (30<=o)&&decide (o<=42)&&x.wf c b&&y.wf c b
 |b,ite x y z=>x.wf c b&&y.wf c b&&z.wf c b
theorem Zg {i:Nat}:∀{e:E} {b:Bool},e.wf i b=true->e.arOk=true:=by
 intro e
 induction e with
 |lf o a=>intro b h;simp[E.wf,E.arOk]at h ⊢;omega
 |un o x f=>intro b h;simp[E.wf,E.arOk]at h ⊢;exact⟨h.1,f h.2⟩
 |ag o x f=>intro b h;simp[E.wf,E.arOk]at h ⊢;exact⟨by omega,f h.2⟩
 |bi o x y c d=>intro b h;simp[E.wf,E.arOk]at h ⊢;exact⟨⟨h.1.1,c h.1.2⟩,d h.2⟩
 |ite x y z c d g=>intro b h;simp[E.wf,E.arOk]at h ⊢;exact⟨⟨c h.1.1,d h.1.2⟩,g h.2⟩
def XQ (W:WLK) (p:Int):Int:=(at' (at' W.1.2.1.2 W.2.2.1) p).1
def XF (W:WLK) (o a p:Int):Int:=
 if o=1 then a else if o=2 then 1 else if o=3 then 0 else if o=4 then -1 else if o=5 then at' (at' W.2.1 W.2.2.1) a else if o=12 then at' (at' W.2.1 (XQ W p)) a
 else if o=6 then(W.1.2.1.1.length:Int)else if o=7 then W.1.2.2.1 else if o=8 then at' W.1.2.1.1 W.2.2.1 else if o=9 then((at' W.1.2.1.2 W.2.2.1).length:Int)else if o=10 then AE (decide (W.2.2.1=0))else if o=11 then p
 else if o=13 then at' W.1.2.1.1 (XQ W p)else if o=14 then((at' W.1.2.1.2 (XQ W p)).length:Int)else if o=15 then AE (decide (XQ W p=0))else if o=16 then(at' (at' W.1.2.1.2 W.2.2.1) p).2 else at' (at' W.1.2.2.2 W.2.2.1) p
structure WOk (W:WLK) (nv n v:Nat):Prop where
 node:W.2.2.1=(v:Int)
 lt:v<n
 ports:W.1.2.1.2.length=n
 ids:W.1.2.1.1.length=n
 c:W.2.1.length=n
 row:∀u:Nat,u<n->(at' W.2.1 (u:Int)).length=nv
 to:∀u:Nat,u<n->∀i:Nat,i<(at' W.1.2.1.2 (u:Int)).length->0<=(at' (at' W.1.2.1.2 (u:Int)) (i:Int)).1∧(at' (at' W.1.2.1.2 (u:Int)) (i:Int)).1<(n:Int)
 bl:W.1.2.2.2.length=n
 br:∀u:Nat,u<n->(at' W.1.2.2.2 (u:Int)).length=(at' W.1.2.1.2 (u:Int)).length
def VK (b:Bool) (a:Nat) (p:Int):Prop:=b=true->∃q:Nat,p=(q:Int)∧q<a
theorem aaQ {W:WLK} {k n v:Nat} (h:WOk W k n v) (f:Nat) {b:Bool} {o a p:Int} (s:(E.lf o a).wf k b=true) (r:VK b (at' W.1.2.1.2 (v:Int)).length p):mA f W (o,a) p=some (XF W o a p):=by
 obtain⟨y,c,A,B,C,l,m,F,w⟩:=h;simp only[E.wf,Bool.and_eq_true,Bool.or_eq_true,decide_eq_true_eq]at s;obtain⟨⟨⟨G,H⟩,d⟩,I⟩:=s;have z:(at' W.2.1 (v:Int)).length=k:=l v c;unfold mA XF XQ;dsimp only;rw[y];by_cases e:o=1
 ·simp only[if_pos e]
 simp only[if_neg e];by_cases e:o=2
 ·simp only[if_pos e]
 simp only[if_neg e];by_cases e:o=3
 ·simp only[if_pos e]
 simp only[if_neg e];by_cases e:o=4
 ·simp only[if_pos e]
 simp only[if_neg e];by_cases e:o=5
 ·simp only[if_pos e];rw[cD (by omega),cD (by omega)]
 simp only[if_neg e];by_cases e:o=12
 ·have i:b=true:=by
   rcases d with d|d
   ·exact d
   ·omega
  obtain⟨q,rfl,j⟩:=r i;have g:=m v c q j;obtain⟨u,x⟩:∃u:Nat,(at' (at' W.1.2.1.2 (v:Int)) (q:Int)).1=(u:Int):=⟨_,(Int.toNat_of_nonneg g.1).symm⟩
  simp only[if_pos e];rw[x]at g ⊢;have D:=l u (by omega);rw[cD (by omega),cD (by omega),cD (by omega),cD (by omega)]
 simp only[if_neg e];unfold rY;dsimp only;by_cases e:o=6
 ·simp only[if_pos e];rfl
 simp only[if_neg e];by_cases e:o=7
 ·simp only[if_pos e];rfl
 simp only[if_neg e];by_cases e:o=8
 ·simp only[if_pos e];rw[cD (by omega)];rfl
 simp only[if_neg e];by_cases e:o=9
 ·simp only[if_pos e];rw[cD (by omega)];rfl
 simp only[if_neg e];by_cases e:o=10
 ·simp only[if_pos e];rw[bE (uC f _)];rfl
 simp only[if_neg e];by_cases e:o=11
 ·simp only[if_pos e];rfl
 simp only[if_neg e];have i:b=true:=by
  rcases d with d|d
  ·exact d
  ·omega
 obtain⟨q,rfl,j⟩:=r i;have g:=m v c q j;rw[cD (by omega),cD (by omega)];by_cases e:o=13
 ·simp only[if_pos e];rw[cD (by omega)];rfl
 simp only[if_neg e];by_cases e:o=14
 ·simp only[if_pos e];rw[cD (by omega)];rfl
 simp only[if_neg e];by_cases e:o=15
 ·simp only[if_pos e];rw[bE (uC f _)];rfl
 simp only[if_neg e];by_cases e:o=16
 ·simp only[if_pos e];rfl
 simp only[if_neg e];have t:=w v c;rw[cD (by omega),cD (by omega)];rfl
theorem YY {W:WLK} {nv n v:Nat} (h:WOk W nv n v) {deg:Nat} (m:(at' W.1.2.1.2 (v:Int)).length=deg) (L:deg<=24) (S:W.2.2.2.length<=800):
  ∀(e:E) (b:Bool) (c k:Nat) (p:Int) (g d:fM),W.2.2.2=g++(e.ts++d)->g.length=k->e.wf nv b=true->VK b deg p->e.depth+850<=c->
   bR c W (k:Int) p=some (e.den (XF W) deg p,(((k+e.ts.length:Nat)):Int)):=by
 obtain⟨Q,ab,h1,h2,h3,h4,h5,_,_⟩:=id h;have i:∀{t:eZ} {l g d:fM} {k:Nat},W.2.2.2=g++((t::l)++d)->g.length=k->at' W.2.2.2 (k:Int)=t∧(k:Int)<(W.2.2.2.length:Int):=by
  intro t l g d k j r;refine⟨Sv (rest:=l++d) (by simpa using j) r,?_⟩
  rw[j];simp;omega
 intro e
 induction e with
 |lf o a=>
  intro b c k p g d j r u w B;obtain⟨c,rfl⟩:∃f,c=f+1:=⟨c - 1,by omega⟩
  obtain⟨A,s⟩:=i (l:=[]) j r;show cV (bR c) c W (k:Int) p=_;unfold cV;rw[cD ⟨by omega,s⟩,A];dsimp only;have X:=u;simp only[E.wf,Bool.and_eq_true,Bool.or_eq_true,decide_eq_true_eq]at X;have hl:=aaQ h c u (m▸w);rw[if_pos (by omega),bE (show mA c _ (o,a) p=some (XF W o a p)from hl),fN (by omega)];rfl
 |un o x ih=>
  intro b c k p g d j r u w B;obtain⟨c,rfl⟩:∃f,c=f+1:=⟨c - 1,by omega⟩
  obtain⟨A,s⟩:=i (l:=x.ts) j r;show cV (bR c) c W (k:Int) p=_;unfold cV;rw[cD ⟨by omega,s⟩,A];dsimp only;simp only[E.wf,Bool.and_eq_true,decide_eq_true_eq]at u;simp only[E.depth]at B;have F:=ih b c (k+1) p (g++[(o,0)]) d (by rw[j];simp[E.ts]) (by simp[r]) u.2 w (by omega);rw[if_neg (by omega),if_pos (by omega),fN (by omega),bE (show bR c _ _ p=_ from F),bE (YJ c _ _)];simp only[E.den,E.ts,List.length_cons];rw[show k+1+x.ts.length=k+(x.ts.length+1) by omega]
 |bi o x y G H=>
  intro b c k p g d j r u w B;obtain⟨c,rfl⟩:∃f,c=f+1:=⟨c - 1,by omega⟩
  obtain⟨A,s⟩:=i (l:=x.ts++y.ts) j r;show cV (bR c) c W (k:Int) p=_;unfold cV;rw[cD ⟨by omega,s⟩,A];dsimp only;simp only[E.wf,Bool.and_eq_true,decide_eq_true_eq]at u;simp only[E.depth]at B;have F:=G b c (k+1) p (g++[(o,0)]) (y.ts++d) (by rw[j];simp[E.ts]) (by simp[r]) u.1.2 w (by omega);have Y:=H b c (k+1+x.ts.length) p (g++(o,0)::x.ts) d (by rw[j];simp[E.ts]) (by simp[r];omega) u.2 w (by omega);rw[if_neg (by omega),if_neg (by omega),if_neg (by omega),if_pos (by omega),fN (by omega),bE (show bR c _ _ p=_ from F),bE (show bR c _ _ p=_ from Y),bE (Uk c _ _ _)];simp only[E.den,E.ts,List.length_cons,List.length_append];rw[show k+1+x.ts.length+y.ts.length=k+(x.ts.length+y.ts.length+1) by omega]
 |ite x y z G H aa=>
  intro b c k p g d j r u w B;obtain⟨c,rfl⟩:∃f,c=f+1:=⟨c - 1,by omega⟩
  obtain⟨A,s⟩:=i (l:=x.ts++(y.ts++z.ts)) j r;show cV (bR c) c W (k:Int) p=_;unfold cV;rw[cD ⟨by omega,s⟩,A];dsimp only;simp only[E.wf,Bool.and_eq_true]at u;simp only[E.depth]at B;have F:=G b c (k+1) p (g++[(43,0)]) (y.ts++z.ts++d) (by rw[j];simp[E.ts]) (by simp[r]) u.1.1 w (by omega);have Y:=H b c (k+1+x.ts.length) p (g++(43,0)::x.ts) (z.ts++d) (by rw[j];simp[E.ts]) (by simp[r];omega) u.1.2 w (by omega);have hz:=aa b c (k+1+x.ts.length+y.ts.length) p (g++(43,0)::(x.ts++y.ts)) d (by rw[j];simp[E.ts]) (by simp[r];omega) u.2 w (by omega);rw[if_neg (by decide),if_neg (by decide),if_neg (by decide),if_neg (by decide),fN (by omega),bE (show bR c _ _ p=_ from F),bE (show bR c _ _ p=_ from Y),bE (show bR c _ _ p=_ from hz)];simp only[E.den,E.ts,List.length_cons,List.length_append];rw[show k+1+x.ts.length+y.ts.length+z.ts.length=k+(x.ts.length+(y.ts.length+z.ts.length)+1) by omega];split<;>rfl
 | ag o x ih =>
  intro b c k p g d j r u w B;obtain⟨c,rfl⟩:∃f,c=f+1:=⟨c - 1,by omega⟩
  obtain⟨A,s⟩:=i (l:=x.ts) j r;have T:=Zg u;have R:=u;simp only[E.wf,Bool.and_eq_true,Bool.or_eq_true,decide_eq_true_eq]at R;simp only[E.depth]at B;have P:(E.ag o x).ts.length=x.ts.length+1:=rfl;have M:=congrArg List.length j;simp only[List.length_append]at M;show cV (bR c) c W (k:Int) p=_;unfold cV;rw[cD ⟨by omega,s⟩,A];dsimp only;rw[if_neg (by omega),if_neg (by omega),if_pos (by omega),cD (by omega)];let D:Nat->Int:=λq=>x.den (XF W) deg ((q:Nat):Int);let V:Nat->aR:=λq=>(List.range q).map D++List.replicate (24 - q) 0;have J:∀q,q<=24->(V q).length=24:=λq U=>by simp[V];omega
  have O:∀q,q<24->(V q).set q (D q)=V (q+1):=λq U=>by
   show((List.range q).map D++List.replicate (24 - q) 0).set q (D q)=(List.range (q+1)).map D++List.replicate (24 - (q+1)) 0;rw[show 24 - q=(24 - (q+1))+1 by omega,List.replicate_succ,List.set_append_right _ _ (by simp),List.range_succ];simp
  let N:Nat->Int:=λq=>if q=0 then 0 else(((k+1+x.ts.length:Nat)):Int)
  refine Eq.trans (eY (step:=kJ c W (k:Int) (bR c)) (K:=some ((E.ag o x).den (XF W) deg p,(((k+(E.ag o x).ts.length:Nat)):Int))) deg (λq=>(N q,(q:Int),V q)) (λq ag U=> ?_) (λag=> ?_) c (by omega)) Z
  ·unfold kJ;dsimp only;have F:=ih true c (k+1) ((q:Nat):Int) (g++[(o,0)]) d (by rw[j];simp[E.ts]) (by simp[r]) R.2 (λ_=>⟨q,rfl,U⟩) (by omega);rw[if_pos (by rw[Q,m];omega),fN (by omega),bE (show bR c _ _ _=_ from F),cD ⟨by omega,J q (by omega)⟩,fN (by omega),Int.toNat_natCast];show ag (_,_,(V q).set q (D q))=_;rw[O q (by omega)];simp only[N];rw[if_neg (by omega)]
  ·unfold kJ;dsimp only;rw[if_neg (by rw[Q,m];omega)];have C:List.take deg (V deg)=(List.range deg).map D:=by
    show List.take deg ((List.range deg).map D++_)=_;exact List.take_left' (by simp)
   have I:∀y:Int,y=(((k+1+x.ts.length:Nat)):Int)->kI c W (k:Int) (N deg,V deg) y=some ((E.ag o x).den (XF W) deg p,(((k+(E.ag o x).ts.length:Nat)):Int)):=by
    rintro y rfl;unfold kI;dsimp only;rw[Q,m,cD ⟨by omega,by omega,by rw[J deg L];omega⟩,A,Int.toNat_natCast,C,bE (aaA c o _ (by omega) (by simp;omega) (by omega))];unfold nK;rw[P,show k+1+x.ts.length=k+(x.ts.length+1) by omega];rfl
   unfold rB;dsimp only;by_cases h0:deg=0
   ·rw[if_pos (by rw[Q,m];omega),bE (adu c (E.ag o x) T j r S (by omega))];exact I _ (by rw[P];omega)
   ·rw[if_neg (by rw[Q,m];omega)];exact I _ (by simp only[N];rw[if_neg h0])
end Go.Proofs.YtmdlcmbplnhdnaaGreatDoor
namespace Go.Proofs.YtmdlcmbplnhdnaaGreatDoor
open Go.Sx
def fY (U:Nat) (a:Vb) (b:bG) (c:Int) (d:fM):Option (Int):=
 Option.bind (bR U ((((((a.1.1,a.1.2.1,a.1.2.2)),((a.2.1.1,a.2.1.2)),a.2.2.1,a.2.2.2)),b,c,d)) (0:Int) (-1:Int)) λe=>(some (e.1))
theorem SA:aW Tryz.prog 124:=Tryz.call124
theorem xR (U:Nat) {d:Vb} {s:bG} {f:Int} {t:fM} (a:Nat)  (m:Value)  (n:Value)  (o:Value)  (p:Value)  (u:lX)  (q:Value)  (v:sH)  (e:Value)  (y:sH)  (b:Value) (r:Int) (h:fY U d s f t=some r):
  aX Tryz.prog 124 #[vP a,e,vI (f),b] [bU a [vS (d.1.1),m,n,o,p,vI (d.2.2.1),q] 137,Sl aT m d.1.2.1,Sl aK n d.1.2.2,Sl bN o d.2.1.1,S2 bD p u d.2.1.2,S2 bN q v d.2.2.2,S2 bN e y s,Sl bD b t] (λx:Unit=>vI (r)) (λx l=>l) (λ_ l=>l):=by
 refine aX.of Tryz.func124 Z Tryz.ntmps124 Z λc=>?_;refine aV<|aD Z<|aL<|aV<|aA Z<|aA Z<|aA Z<|aA Z<|bZ (Know.one (aE.sl (aE.fact 6 Z))) λg=>bZ (Know.one ((aE.fact 7 Z))) λi=>?_;refine aB (acp (r:=Value.agg #[Value.pointer (some ⟨a,0,none⟩),e,vI (f),b]) Z Z Z Z (by intro w;simp[Instr.build,Instr.fill,fD,eD,dJ,fE,fF,eF,gK,fS g,fS i])) Z ?_;refine aH (aM.alloc (cs:=[Value.pointer none,k_,vI (0:Int),k_]) Z Z) Z λz=>bZ (Know.one (aE.sl (aE.fact 6 Z))) λj=>bZ (Know.one ((aE.fact 7 Z))) λk=>bT 0 (vs:=[vP a,e,vI (f),b]) Z Z (kY Z (kY j (kY Z (kY k Z)))) Z Z Z<|aL<|aV<|fH h λA B h=>aH (aM.callQ Bj (DT U z a m n o p u q v e y b A B) Z (aF.cons (aE.res 0 Z) (pO [0,1,2,3,4,5,6,7] Z))) Z λC=>aA Z<|iW Z<|iW Z<|aD Z<|aD Z<|aL<|aV<|aA Z<|aD Z<|aL<|aU ?_;cases h;exact tO Z
def kN (U:Nat) (a:Vb) (c:bG) (d:Int) (b:Int):Option (Bool):=
 ck (0<=b∧b<(List.length a.1.2.2:Int)) (Option.bind (fY U ((((a.1.1,a.1.2.1,a.1.2.2)),((a.2.1.1,a.2.1.2)),a.2.2.1,a.2.2.2)) c d ((at' a.1.2.2 b).2.1.2)) λe=>(some (decide (e≠(0:Int)))))
theorem adh:aW Tryz.prog 94:=Tryz.call94
theorem Dh (U:Nat) {a:Vb} {n:bG} {o:Int} {e:Int} (b:Nat)  (f:Value)  (g:Value)  (i:Value)  (j:Value)  (p:lX)  (k:Value)  (q:sH)  (m:Value)  (s:sH) (r:Bool) (h:kN U a n o e=some r):
  aX Tryz.prog 94 #[vP b,m,vI (o),vI (e)] [bU b [vS (a.1.1),f,g,i,j,vI (a.2.2.1),k] 137,Sl aT f a.1.2.1,Sl aK g a.1.2.2,Sl bN i a.2.1.1,S2 bD j p a.2.1.2,S2 bN k q a.2.2.2,S2 bN m s n] (λx:Unit=>vB (r)) (λx l=>l) (λ_ l=>l):=by
 refine aX.of Tryz.func94 Z Tryz.ntmps94 Z λc=>?_;refine aV<|aD Z<|aL<|aV<|aA Z<|aA Z<|aA Z<|aA Z<|aB (bX Z) Z<|bS Z<|bS Z<|aB (dH Z (aE.fact 0 Z) Z Z Z) Z<|aA Z<|cX h λd h=>aB (aY Z Z (aE.fact 2 Z) Z Z d) Z<|aB (fQ Z Z Z Z Z) Z<|aB (jN Z (aE.fact 2 Z) Z Z Z Ad d) Z<|fH h λt u h=>aH (aM.callQ SA (xR U b f g i j p k q m s ((at' a.1.2.2 e).2.1.1) t u) Z (aF.cons (aE.fact 0 Z) (aF.cons (aE.fact 1 Z) (aF.cons (aE.fact 2 Z) (aF.cons (aE.fact 3 Z) (aF.cons (aE.fact 4 Z) (aF.cons (aE.fact 5 Z) (aF.cons (aE.fact 6 Z) (aF.cons (vG (aE.fact 2 Z) Af d.1 d.2) .nil))))))))) Z λv=>p_ Z<|aD Z<|aL<|aU ?_;cases h;exact kH Z
def nM  (a:Unit):Option (Int):=
 some (-1:Int)
def kL (U:Nat) (a:HK) (d:bG) (e:Int) (b:Int) (c:(Int)->Option (Int)):Option (Int):=
 if b<(List.length a.1.2.2:Int)then(Option.bind (kN U ((((a.2.1.1.1,a.2.1.1.2.1,a.2.1.1.2.2)),((a.2.1.2.1.1,a.2.1.2.1.2)),a.2.1.2.2.1,a.2.1.2.2.2)) d e b) λf=>(if f=true then(some (b))else(c (wI .i64 (b+(1:Int))))))else(nM  (()))
def eQ (U:Nat) (a:HK) (b:bG) (c:Int):Option (Int):=
 bJ (kL U a b c) U (0:Int)
theorem Ws:aW Tryz.prog 70:=Tryz.call70
theorem zH (U:Nat) {a:HK} {n:bG} {m:Int} (d:Nat)  (z:Value)  (A:Value)  (e:Nat)  (o:Value)  (p:Value)  (q:Value)  (s:Value)  (B:lX)  (t:Value)  (g:sH)  (f:Value)  (v:lX)  (b:Value)  (i:sH) (r:Int) (h:eQ U a n m=some r):
  aX Tryz.prog 70 #[vP d,b,vI (m)] [bU d [vS (a.1.1),z,A,vP e,f] 108,Sl aT z a.1.2.1,Sl aK A a.1.2.2,bU e [vS (a.2.1.1.1),o,p,q,s,vI (a.2.1.2.2.1),t] 137,Sl aT o a.2.1.1.2.1,Sl aK p a.2.1.1.2.2,Sl bN q a.2.1.2.1.1,S2 bD s B a.2.1.2.1.2,S2 bN t g a.2.1.2.2.2,S2 bD f v a.2.2,S2 bN b i n] (λx:Unit=>vI (r)) (λx l=>l) (λ_ l=>l):=by
 refine aX.of Tryz.func70 Z Tryz.ntmps70 Z λc=>?_;unfold eQ at h;refine aV<|aD Z<|aL<|aJ<|dR (λj=>nM  j=some r) (λj w=>[]) (λj w=>[]) ?_ ?_
 ·refine aV<|aA Z<|aB (bX Z) Z<|bS Z<|bS Z<|aB (dH Z (aE.fact 0 Z) Z Z Z) Z<|kB (aE.fact 2 Z) Z<|aA Z<|aL<|aS<|dU (kL U a n m) (λk y=>[(0,vP d),(1,b),(2,vI (m)),(13,vI (List.length a.1.2.2:Int)),(14,vI (k))]) (λk y=>[]) (0:Int) () h SF (a_.refl _) ?_;intro E k y h;refine aV<|cM Z<|aL<|aJ ?_;refine eX h Z (λh=>?_) λh=>?_
  ·refine cK<|aJ<|aS<|aV<|aA Z<|aD Z<|aL<|aV<|aA Z<|aB (bX Z) Z<|bS Z<|aB (dH Z (aE.fact 0 Z) Z Z Z) Z<|aA Z<|aA Z<|aA Z<|fH h λC u h=>aH (aM.callQ adh (Dh U e o p q s B t g b i C u) Z (pO [3,4,5,6,7,8,10] Z)) Z λD=>aL ?_;refine Ai h Z (λ_ h=>?_) λ_ h=>?_
   ·refine aV<|aA Z<|aD Z<|aL<|aU<|bK<|aI<|aI<|bK<|aI ?_;cases h;exact kH Z
   refine dL<|mI<|aO<|cJ Z<|aA Z<|aL ?_;exact xY (wI .i64 (k+(1:Int))) () h SF Z
  refine fC ?_;exact gY () (()) h SF Z
 intro j w h;unfold nM at h;refine aV<|aD Z<|aL<|aU ?_;cases h;exact kH Z
def uH (d:Int) (a:eZ) (b:Int) (c:Bool):Option (Int):=
 if c=true then(some (b))else(if d=(3:Int)then(some (-1:Int))else(if b<a.1 then(some (a.1))else(some (a.2))))
def wP (U:Nat) (c:Int) (a:eZ) (b:Int):Option (Int):=
 if a.1<=b then(uH c a b (decide (b<=a.2)))else(uH c a b (false))
theorem ZX:aW Tryz.prog 164:=Tryz.call164
theorem Kx (U:Nat) {e:Int} {a:eZ} {d:Int} (r:Int) (h:wP U e a d=some r):
  aX Tryz.prog 164 #[vI (e),Value.agg #[vI (a.1),vI (a.2)],vI (d)] [] (λx:Unit=>vI (r)) (λx l=>l) (λ_ l=>l):=by
 refine aX.of Tryz.func164 Z Tryz.ntmps164 Z λc=>?_;refine aV<|aH (aM.box (cs:=[vI (a.1),vI (a.2)]) Z Z) Z λf=>aD Z<|aL<|aJ<|aS<|aJ<|dR (λb=>uH e a d b=some r) (λb g=>[(0,vI (e)),(2,vI (d)),(4,vP f),(7,vB (b))]) (λb g=>[bU f [vI (a.1),vI (a.2)] 141]) ?_ ?_
 ·refine aO<|aA Z ?_;refine aB (oL (i:=0) Z Z Z Z Z (by decide)) Z ?_;refine dC 0 Z<|aB (Do Z Z) Z<|aA Z ?_;refine Dg h Z (λ_ h=>?_) λ_ h=>?_
  ·refine cO Z ?_;refine aN Z (oL (i:=1) Z Z Z Z Z (by decide)) Z ?_;refine aN Z (eW 0 Z Z Z Z Z) Z<|aN Z (AD Z Z) Z<|dV Z<|aD Z<|aL ?_;exact gY (decide (d<=a.2)) () h SF Z
  refine aG Z<|aG Z<|aG Z<|aG Z<|fK Z<|aD Z<|aL ?_;exact gY (false) () h SF Z
 intro b g h;refine Ai h Z (λ_ h=>?_) λ_ h=>?_
 ·refine aV<|aA Z<|aD Z<|aL<|aU<|bK<|aI ?_;cases h;exact tO Z
 refine aV<|aA Z<|cP Z<|aD Z<|aL ?_;refine eX h Z (λh=>?_) λh=>?_
 ·refine aV<|aD Z<|aL<|aU<|bK<|aI ?_;cases h;exact tO Z
 refine aV<|aA Z ?_;refine aB (oL (i:=0) Z Z Z Z Z (by decide)) Z ?_;refine dC 0 Z<|cM Z<|aD Z<|aL ?_;refine eX h Z (λh=>?_) λh=>?_
 ·refine aV ?_;refine aB (oL (i:=0) Z Z Z Z Z (by decide)) Z ?_;refine dC 0 Z<|aD Z<|aL<|aU<|bK<|aI ?_;cases h;exact tO Z
 refine dL<|mI<|aV ?_;refine aB (oL (i:=1) Z Z Z Z Z (by decide)) Z ?_;refine dC 0 Z<|aD Z<|aL<|aU ?_;cases h;exact tO Z
def nL  (a:aR):Option aR:=
 some (a)
def kK (U:Nat) (b:HK) (h:bG) (d:Int) (c:Int) (a:nS) (e:xK->Option aR):Option aR:=
 if a.1<(List.length ((at' b.1.2.2 c).2.2.2):Int)then(ck (0<=a.1∧a.1<(List.length ((at' b.1.2.2 c).2.2.2):Int)) (Option.bind (fY U ((((b.2.1.1.1,b.2.1.1.2.1,b.2.1.1.2.2)),((b.2.1.2.1.1,b.2.1.2.1.2)),b.2.1.2.2.1,b.2.1.2.2.2)) h d ((at' ((at' b.1.2.2 c).2.2.2) a.1).2.2)) λf=>(ck (0<=((at' ((at' b.1.2.2 c).2.2.2) a.1).1)∧((at' ((at' b.1.2.2 c).2.2.2) a.1).1)<(List.length b.1.2.1:Int)) (ck (0<=d∧d<(List.length b.2.2:Int)) (ck (0<=((at' ((at' b.1.2.2 c).2.2.2) a.1).1)∧((at' ((at' b.1.2.2 c).2.2.2) a.1).1)<(List.length (at' b.2.2 d):Int)) (Option.bind (wP U ((at' b.1.2.1 ((at' ((at' b.1.2.2 c).2.2.2) a.1).1)).2.1) ((((at' (at' b.2.2 d) ((at' ((at' b.1.2.2 c).2.2.2) a.1).1)).1),((at' (at' b.2.2 d) ((at' ((at' b.1.2.2 c).2.2.2) a.1).1)).2))) f) λg=>(ck (0<=((at' ((at' b.1.2.2 c).2.2.2) a.1).1)∧((at' ((at' b.1.2.2 c).2.2.2) a.1).1)<(List.length a.2:Int)) (e ((wI .i64 (a.1+(1:Int))),(List.set a.2 (Int.toNat ((at' ((at' b.1.2.2 c).2.2.2) a.1).1)) g))))))))))else(nL  (a.2))
def lK (U:Nat) (d:HK) (b:bG) (a:Int) (c:Int):Option aR:=
 ck (0<=a∧a<(List.length b:Int)) (ck ((List.length ([]:aR):Int)+(List.length (at' b a):Int)<=1099511627) (ck (0<=c∧c<(List.length d.1.2.2:Int)) (bJ (kK U d b a c) U ((0:Int),(([]:aR)++(at' b a))))))
theorem ZT:aW Tryz.prog 145:=Tryz.call145
theorem DU (U:Nat) {b:HK} {C:bG} {m:Int} {f:Int} (j:Nat)  (O:Value)  (P:Value)  (k:Nat)  (E:Value)  (F:Value)  (G:Value)  (H:Value)  (Q:lX)  (I:Value)  (y:sH)  (w:Value)  (M:lX)  (i:Value)  (A:sH) (r:aR) (h:lK U b C m f=some r):
  aX Tryz.prog 145 #[vP j,i,vI (m),vI (f)] [bU j [vS (b.1.1),O,P,vP k,w] 108,Sl aT O b.1.2.1,Sl aK P b.1.2.2,bU k [vS (b.2.1.1.1),E,F,G,H,vI (b.2.1.2.2.1),I] 137,Sl aT E b.2.1.1.2.1,Sl aK F b.2.1.1.2.2,Sl bN G b.2.1.2.1.1,S2 bD H Q b.2.1.2.1.2,S2 bN I y b.2.1.2.2.2,S2 bD w M b.2.2,S2 bN i A C] (λx:Value=>x) (λx l=>Ar cC x r::l) (λ_ l=>l):=by
 refine aX.of Tryz.func145 Z Tryz.ntmps145 Z λc=>?_;refine aV<|aD Z<|aL<|aV<|aA Z<|aA Z<|cX h λB h=>aB (cA Z Z (aE.fact 10 Z) Z Z B) Z<|aB (cF Z (aE.fact 10 Z) Z Z B) Z<|iS (gJ cC)<|cX h λS h=>aH (eO 0 dM Z Z Z (aE.el (aE.fact 10 Z) B.1 B.2) Z Z Z Z S Z) Z λv=>aD Z<|aL<|aJ<|dR (λo=>nL  o=some r) (λo N=>[(9,v)]) (λo N=>[Ar cC v o]) ?_ ?_
 ·refine aV<|aA Z<|aB (bX Z) Z<|bS Z<|bS Z<|aB (dH Z (aE.fact 0 Z) Z Z Z) Z<|aA Z<|cX h λg h=>aB (aY Z Z (aE.fact 2 Z) Z Z g) Z<|aB (fQ Z Z Z Z Z) Z<|aB (jN Z (aE.fact 2 Z) Z Z Z Ae g) Z<|aB (fW Z (vG (aE.fact 2 Z) f_ g.1 g.2) Z) Z<|aA Z<|aL<|aS<|dU (kK U b C m f) (λa p=>[(0,vP j),(1,i),(2,vI (m)),(9,v),(26,(at' b.1.2.2 f).2.2.1),(27,vI (List.length ((at' b.1.2.2 f).2.2.2):Int)),(28,vI (a.1))]) (λa p=>[Ar cC v a.2]) ((0:Int),(([]:aR)++(at' C m))) () h SF (a_.refl _) ?_;intro T a p h;refine aV<|cM Z<|aL<|aJ ?_;refine eX h Z (λh=>?_) λh=>?_
  ·refine cK<|aJ<|aS<|aV<|cX h λd h=>aB (aY Z Z (vG (aE.fact 2 Z) f_ g.1 g.2) Z Z d) Z<|aB (QK (cs:=[vI ((at' ((at' b.1.2.2 f).2.2.2) a.1).1),(at' ((at' b.1.2.2 f).2.2.2) a.1).2.1]) Z (vG (aE.fact 2 Z) f_ g.1 g.2) KO Z Z Z Z d) Z<|aH (aM.alloc (cs:=[vI (0:Int),k_]) Z Z) Z λR=>bZ (Know.one ((vG (vG (aE.fact 2 Z) f_ g.1 g.2) CQ d.1 d.2))) λq=>bT 0 (vs:=[vI ((at' ((at' b.1.2.2 f).2.2.2) a.1).1),(at' ((at' b.1.2.2 f).2.2.2) a.1).2.1]) Z Z (kY Z (kY q Z)) Z Z Z<|aL<|aJ ?_;refine JR.start [0,1,3,7,0,0,0,64,255,511] 8 mixedOrders (by decide +kernel) ?_;refine JR.open (by exact rfl) ?_;refine bH Z<|iF Z (bX Z)<|dB Z<|bL Z .nil (lR 0 Z) (dH Z (aE.fact 0 Z) Z Z Z) aP.z<|bH Z<|bH Z<|dB Z<|jQ 0 Z<|bP 8 Z Z<|fH h λD J h=>aH (aM.callQ SA (xR U k E F G H Q I y i A ((at' ((at' b.1.2.2 f).2.2.2) a.1).2.1) D J) Z (aF.cons (aE.fact 3 Z) (aF.cons (aE.fact 4 Z) (aF.cons (aE.fact 5 Z) (aF.cons (aE.fact 6 Z) (aF.cons (aE.fact 7 Z) (aF.cons (aE.fact 8 Z) (aF.cons (aE.fact 10 Z) (aF.cons (vG (vG (aE.fact 2 Z) f_ g.1 g.2) CQ d.1 d.2) .nil))))))))) Z λV=>aD Z<|aL ?_;refine JR.start [0,0,2,0,8,24,56,120,0,256,1016,2040,4088,0,8192,24576,57344,0,253952,516096,0,1048576,4186112,8380416,0,33554424,67108863,134217727] 26 mixedOrders (by decide +kernel) ?_;refine JR.open (by exact rfl) ?_;refine bH Z<|dB Z<|jQ 0 Z<|bH Z<|iF Z (bX Z)<|dB Z<|dB Z<|bL Z .nil (lR 0 Z) (dH Z (aE.fact 0 Z) Z Z Z) aP.z<|dB Z<|jQ 0 Z<|cX h λs h=>bL Z .nil (lR 1 Z) (aY Z Z (aE.fact 0 Z) Z Z s) aP.z<|iF Z (fQ Z Z Z Z Z)<|bL Z .nil (lR 1 Z) (jN Z (aE.fact 0 Z) Z Z Z xQ s) aP.z<|bH Z<|iF Z (bX Z)<|dB Z<|bL Z .nil (lR 0 Z) (dH Z (aE.fact 0 Z) Z Z Z) aP.z<|bH Z<|cX h λe h=>bL Z .nil (lR 9 Z) (cA Z Z (aE.fact 0 Z) Z Z e) aP.z<|bL Z .nil (lR 9 Z) (cF Z (aE.fact 0 Z) Z Z e) aP.z<|dB Z<|jQ 0 Z<|cX h λt h=>bL Z .nil (lR 9 Z) (aY Z Z (aE.el (aE.fact 0 Z) e.1 e.2) Z Z t) aP.z<|bL Z .nil (lR 9 Z) (iZ (cs:=[vI ((at' (at' b.2.2 m) ((at' ((at' b.1.2.2 f).2.2.2) a.1).1)).1),vI ((at' (at' b.2.2 m) ((at' ((at' b.1.2.2 f).2.2.2) a.1).1)).2)]) Z (aE.el (aE.fact 0 Z) e.1 e.2) bQ Z Z Z Z t) aP.z<|bH Z<|fH h λn K h=>JR.loud Z Z Z (aM.callQ ZX (Kx U  n K) Z .nil) Z (λL=>(v_ [([0],[])] Z)) λL=>bP 26 Z Z<|cX h λu h=>aB (aY Z Z (bB (aE.res 1 Z) dM) Z Z u) Z<|AB 1 n u Z Z Z Z Z Z Z<|eJ<|mI<|aO<|cJ Z<|aA Z<|aL ?_;exact mL ((wI .i64 (a.1+(1:Int))),(List.set a.2 (Int.toNat ((at' ((at' b.1.2.2 f).2.2.2) a.1).1)) n)) () h SF (a_.ix [1] Z Z) (aF.refl _ _)
  refine fC ?_;exact gY (a.2) () h SF Z
 intro o N h;unfold nL at h;refine aV<|aA Z<|aD Z<|aL<|aU ?_;cases h;exact iB (v) Z Z (RV.tmp Z) (a_.refl _) aF.nil
def nN  (a:bG):Option bG:=
 some (a)
def kM (b:Int×bG) (a:(Int×bG)->Option bG) (c:bG):Option bG:=
 a ((wI .i64 (b.1+(1:Int))),c)
def iP (U:Nat) (b:HK) (d:bG) (g:Int) (a:Int×bG) (c:(Int×bG)->Option bG):Option bG:=
 if a.1<(List.length d:Int)then(ck (0<=a.1) (if(dD .u32 (rD .u32 g a.1) (1:Int))=(1:Int)then(Option.bind (eQ U ((((b.1.1,b.1.2.1,b.1.2.2)),((((b.2.1.1.1,b.2.1.1.2.1,b.2.1.1.2.2)),((b.2.1.2.1.1,b.2.1.2.1.2)),b.2.1.2.2.1,b.2.1.2.2.2)),b.2.2)) d a.1) λe=>(Option.bind (lK U ((((b.1.1,b.1.2.1,b.1.2.2)),((((b.2.1.1.1,b.2.1.1.2.1,b.2.1.1.2.2)),((b.2.1.2.1.1,b.2.1.2.1.2)),b.2.1.2.2.1,b.2.1.2.2.2)),b.2.2)) d a.1 e) λf=>(ck (0<=a.1∧a.1<(List.length a.2:Int)) (kM a c (List.set a.2 (Int.toNat a.1) f)))))else(kM a c (a.2))))else(nN  (a.2))
def jJ (U:Nat) (b:HK) (a:bG) (c:Int):Option bG:=
 Option.bind (mF U a) λd=>(bJ (iP U b a c) U ((0:Int),d))
theorem ZJ:aW Tryz.prog 113:=Tryz.call113
theorem DV (U:Nat) {e:HK} {v:bG} {w:Int} (g:Nat)  (D:Value)  (E:Value)  (o:Nat)  (F:Value)  (G:Value)  (H:Value)  (I:Value)  (Q:lX)  (J:Value)  (t:sH)  (p:Value)  (u:lX)  (d:Value)  (q:sH) (r:bG) (h:jJ U e v w=some r):
  aX Tryz.prog 113 #[vP g,d,vU (w)] [bU g [vS (e.1.1),D,E,vP o,p] 108,Sl aT D e.1.2.1,Sl aK E e.1.2.2,bU o [vS (e.2.1.1.1),F,G,H,I,vI (e.2.1.2.2.1),J] 137,Sl aT F e.2.1.1.2.1,Sl aK G e.2.1.1.2.2,Sl bN H e.2.1.2.1.1,S2 bD I Q e.2.1.2.1.2,S2 bN J t e.2.1.2.2.2,S2 bD p u e.2.2,S2 bN d q v] (λx:KH=>x.1) (λx l=>Ar cY.raw x.1 x.2::kX cC x.2 r::l) (λ_ l=>l):=by
 refine aX.of Tryz.func113 Z Tryz.ntmps113 Z λc=>?_;refine aV<|aD Z<|aL<|aV<|aA Z<|fH h λR S h=>aH (aM.callQ MD (yU U d q R S) Z (pO [10] Z)) Z λs=>aD Z<|aL<|aJ<|DG (B:=fV) (λy=>nN  y=some r) (λy z=>[(7,s.1)]) (λy z=>[Ar cY.raw s.1 z,kX cC z y]) ?_ ?_
 ·refine aV<|aA Z<|aB (iY Z (aE.fact 10 Z) Z) Z<|aA Z<|aL<|aS<|dU (B:=fV) (iP U e v w) (λa b=>[(0,vP g),(1,d),(2,vU (w)),(7,s.1),(12,vI (List.length v:Int)),(13,vI (a.1))]) (λa b=>[Ar cY.raw s.1 b,kX cC b a.2]) ((0:Int),R) (s.2) h SF (a_.refl _) ?_;intro L a b h;refine aV<|cM Z<|aL<|aJ ?_;refine eX h Z (λh=>?_) λh=>?_
  ·refine cK<|aJ<|DG (B:=fV) (λf=>kM a (bJ (iP U e v w) L) f=some r) (λf m=>[(0,vP g),(1,d),(2,vU (w)),(7,s.1),(12,vI (List.length v:Int)),(13,vI (a.1))]) (λf m=>[Ar cY.raw s.1 m,kX cC m f]) ?_ ?_
   ·refine aS<|aV<|aA Z<|aD Z<|aL<|aV<|aA Z<|aA Z<|cX h λK h=>aB (Js Z Z K) Z<|Aa Z<|cP Z<|aL ?_;refine eX h Z (λh=>?_) λh=>?_
    ·refine aO<|aA Z<|aA Z<|aA Z<|aA Z<|aA Z<|aA Z<|aA Z<|aA Z<|fH h λM N h=>aH (aM.callQ Ws (zH U g D E o F G H I Q J t p u d q M N) Z (pO [0,1,2,3,4,5,6,7,8,9,10] Z)) Z λT=>fH h λC O h=>aH (aM.callQ ZT (DU U g D E o F G H I Q J t p u d q C O) Z (pO [0,1,2,3,4,5,6,7,8,9,10] Z)) Z λP=>cX h λn h=>aB (cA Z Z (bO (i:=1) (j:=2) Z Z dM) Z Z n) Z<|bZ (Know.one ((bB (aE.res 0 Z) dM))) λA=>iS (xV (k:=a.1) 2 0 Z Z Z n) ?_;refine qC 0 1 ⟨n.1,by first|exact n.2|simpa using n.2⟩ Z Z Z Z Z (by simp) A Z ?_;refine eJ<|mI ?_;exact gY (List.set a.2 (Int.toNat a.1) C) (List.set b (Int.toNat a.1) P) h SF Z
    refine dL<|mI ?_;exact gY (a.2) (b) h SF Z
   intro f m h;unfold kM at h;refine aO<|cJ Z<|aA Z<|aL ?_;exact xY ((wI .i64 (a.1+(1:Int))),f) (m) h SF Z
  refine fC ?_;exact gY (a.2) (b) h SF Z
 intro y z h;unfold nN at h;refine aV<|aA Z<|aD Z<|aL<|aU ?_;cases h;exact iB (s.1,z) Z Z (RV.tmp Z) (a_.refl _) aF.nil
def yS  (a:Int):Option (Int):=
 some (a)
def uB (c:eZ) (b:iH->Option (Int)) (a:Int):Option (Int):=
 b (a,(wI .i64 (c.2+(1:Int))))
def qZ (e:Int) (d:Int->Option Bool) (a:eZ) (b:iH->Option (Int)):Option (Int):=
 if a.2<e then(Option.bind (d a.2) λc=>(if c=true then(ck (0<=a.2) (uB a b (FX .u32 a.1 (vC .u32 (1:Int) a.2))))else(uB a b (a.1))))else(yS  (a.1))
def Aq (U:Nat) (b:Int) (a:Int->Option Bool):Option (Int):=
 bJ (qZ b a) U ((0:Int),(0:Int))
theorem acS:aW Tryz.prog 68:=Tryz.call68
theorem NA (U:Nat) {j:Int} {n:Int->Option Bool} (m:FuncId) (d:fV) (k:List aZ) (f:aW Tryz.prog m) (g:∀(u:Int) (r:Bool),n u=some r->aX Tryz.prog m ([vI (u)]++d).toArray k (λ_:Unit=>vB (r)) (λ_ l=>l) (λ_ l=>l)) (r:Int) (h:Aq U j n=some r):
  aX Tryz.prog 68 #[vI (j),Value.func (.func m) #[] (d).toArray] ([]++k) (λx:Unit=>vU (r)) (λx l=>l) (λ_ l=>l):=by
 refine aX.of Tryz.func68 Z Tryz.ntmps68 Z λc=>?_;unfold Aq at h;refine aV<|aD Z<|aL<|aV<|aD Z<|aL<|aJ<|Ca (B:=Unit) (λi=>yS  i=some r) (λi o=>[(5,vU (i))]) (λi o=>[]) (λi o=>([]++k)) ?_ ?_
 ·refine aV<|aA Z<|aA Z<|aL<|aS<|FK (B:=Unit) (qZ j n) (λb p=>[(1,Value.func (.func m) #[] (d).toArray),(5,vU (b.1)),(7,vI (j)),(8,vI (b.2))]) (λb p=>[]) (λb p=>([]++k)) ((0:Int),(0:Int)) () h SF (a_.refl _) (aF.refl _ _) ?_;intro v b p h;refine aV<|cM Z<|aL<|aJ ?_;refine eX h Z (λh=>?_) λh=>?_
  ·refine cK<|aJ<|Ca (B:=Unit) (λa=>uB b (bJ (qZ j n) v) a=some r) (λa e=>[(1,Value.func (.func m) #[] (d).toArray),(5,vU (a)),(7,vI (j)),(8,vI (b.2))]) (λa e=>[]) (λa e=>([]++k)) ?_ ?_
   ·refine aS<|aV<|aA Z<|aD Z<|aL<|aV<|aA Z<|aA Z<|fH h λs t h=>aH (vH (vs:=[vI (b.2)]) (cs:=d) f Z (g b.2 s t) Z (aF.tail _) (λ_ _=>rfl)) Z λw=>aL ?_;refine Ai h Z (λ_ h=>?_) λ_ h=>?_
    ·refine aO<|aA Z<|aA Z<|cX h λq h=>aB (HR Z Z q) Z<|aB (QL Z Z) Z<|aD Z<|eJ<|mI ?_;exact gY (FX .u32 b.1 (vC .u32 (1:Int) b.2)) () h SF Z
    refine dL<|mI ?_;exact gY (b.1) () h SF Z
   intro a e h;unfold uB at h;refine aO<|cJ Z<|aA Z<|aL ?_;exact xY (a,(wI .i64 (b.2+(1:Int)))) () h SF Z
  refine fC ?_;exact gY (b.1) () h SF Z
 intro i o h;unfold yS at h;refine aV<|aA Z<|aD Z<|aL<|aU ?_;cases h;exact kH Z
def kG (U:Nat) (b:Int) (a:HK) (c:bG):Option (Bool):=
 Option.bind (eQ U ((((a.1.1,a.1.2.1,a.1.2.2)),((((a.2.1.1.1,a.2.1.1.2.1,a.2.1.1.2.2)),((a.2.1.2.1.1,a.2.1.2.1.2)),a.2.1.2.2.1,a.2.1.2.2.2)),a.2.2)) c b) λd=>(some (decide ((0:Int)<=d)))
theorem acT:aW Tryz.prog 69:=Tryz.call69
theorem Bd (U:Nat) {v:Int} {a:HK} {w:bG} (j:Nat)  (d:Nat)  (o:Value)  (p:Value)  (e:Nat)  (q:Value)  (s:Value)  (t:Value)  (u:Value)  (y:lX)  (f:Value)  (k:sH)  (g:Value)  (m:lX)  (b:Nat)  (i:Value)  (n:sH) (r:Bool) (h:kG U v a w=some r):
  aX Tryz.prog 69 #[vI (v),vP j,vP b] [bU j [vP d] 84,bU d [vS (a.1.1),o,p,vP e,g] 108,Sl aT o a.1.2.1,Sl aK p a.1.2.2,bU e [vS (a.2.1.1.1),q,s,t,u,vI (a.2.1.2.2.1),f] 137,Sl aT q a.2.1.1.2.1,Sl aK s a.2.1.1.2.2,Sl bN t a.2.1.2.1.1,S2 bD u y a.2.1.2.1.2,S2 bN f k a.2.1.2.2.2,S2 bD g m a.2.2,bU b [i] 37,S2 bN i n w] (λx:Unit=>vB (r)) (λx l=>l) (λ_ l=>l):=by
 refine aX.of Tryz.func69 Z Tryz.ntmps69 Z λc=>?_;refine aV<|aD Z<|aL<|aV<|aB (dH Z (aE.fact 0 Z) Z Z Z) Z<|aB (dH Z (aE.fact 11 Z) Z Z Z) Z<|aA Z<|fH h λz A h=>aH (aM.callQ Ws (zH U d o p e q s t u y f k g m i n z A) Z (pO [1,2,3,4,5,6,7,8,9,10,12] Z)) Z λB=>aB (Do Z Z) Z<|aD Z<|aL<|aU ?_;cases h;exact kH Z
def eG (U:Nat) (a:HK) (b:bG):Option (Int):=
 Option.bind (Aq U (List.length a.2.2:Int) (λd=>kG U d ((((a.1.1,a.1.2.1,a.1.2.2)),((((a.2.1.1.1,a.2.1.1.2.1,a.2.1.1.2.2)),((a.2.1.2.1.1,a.2.1.2.1.2)),a.2.1.2.2.1,a.2.1.2.2.2)),a.2.2)) b)) λc=>(some (c))
theorem Wm:aW Tryz.prog 44:=Tryz.call44
theorem vV (U:Nat) {a:HK} {w:bG} (b:Nat)  (k:Value)  (m:Value)  (e:Nat)  (n:Value)  (o:Value)  (p:Value)  (q:Value)  (y:lX)  (s:Value)  (g:sH)  (f:Value)  (i:lX)  (d:Value)  (j:sH) (r:Int) (h:eG U a w=some r):
  aX Tryz.prog 44 #[vP b,d] [bU b [vS (a.1.1),k,m,vP e,f] 108,Sl aT k a.1.2.1,Sl aK m a.1.2.2,bU e [vS (a.2.1.1.1),n,o,p,q,vI (a.2.1.2.2.1),s] 137,Sl aT n a.2.1.1.2.1,Sl aK o a.2.1.1.2.2,Sl bN p a.2.1.2.1.1,S2 bD q y a.2.1.2.1.2,S2 bN s g a.2.1.2.2.2,S2 bD f i a.2.2,S2 bN d j w] (λx:Unit=>vU (r)) (λx l=>l) (λ_ l=>l):=by
 refine aX.of Tryz.func44 Z Tryz.ntmps44 Z λc=>?_;refine aV<|aH (aM.box (cs:=[vP b]) Z Z) Z λt=>bZ (Know.one (aE.sl (aE.fact 10 Z))) λv=>?_;refine aH (aM.box (cs:=[d]) Z (by rw[fS v])) Z λu=>?_;refine aD Z<|aL<|aV<|dC 1 Z<|aB (bX Z) Z<|bS Z<|aB (dH Z (aE.fact 0 Z) Z Z Z) Z<|aB (iY Z (aE.fact 9 Z) Z) Z<|aB (xX (cs:=[.tmp 2,.tmp 3]) (vs:=[vP t,vP u]) Z) Z<|fH h λz A h=>aH (aM.callQ acS (NA U 69 [vP t,vP u] [bU t [vP b] 84,bU b [vS (a.1.1),k,m,vP e,f] 108,Sl aT k a.1.2.1,Sl aK m a.1.2.2,bU e [vS (a.2.1.1.1),n,o,p,q,vI (a.2.1.2.2.1),s] 137,Sl aT n a.2.1.1.2.1,Sl aK o a.2.1.1.2.2,Sl bN p a.2.1.2.1.1,S2 bD q y a.2.1.2.1.2,S2 bN s g a.2.1.2.2.2,S2 bD f i a.2.2,bU u [d] 37,S2 bN d j w] acT (λC r h=>Bd U t b k m e n o p q y s g f i u d j r h) z A) Z (aF.cons (aE.res 1 Z) (aF.cons (aE.fact 0 Z) (aF.cons (aE.fact 1 Z) (aF.cons (aE.fact 2 Z) (aF.cons (aE.fact 3 Z) (aF.cons (aE.fact 4 Z) (aF.cons (aE.fact 5 Z) (aF.cons (aE.fact 6 Z) (aF.cons (aE.fact 7 Z) (aF.cons (aE.fact 8 Z) (aF.cons (aE.fact 9 Z) (aF.cons (aE.res 0 Z) (pO [10] Z)))))))))))))) Z λB=>aD Z<|aL<|aU ?_;cases h;exact tO Z
end Go.Proofs.YtmdlcmbplnhdnaaGreatDoor
namespace Go.Proofs.YtmdlcmbplnhdnaaGreatDoor
open Go Go.Sx
abbrev RL:=E×List (Nat×E)
abbrev Bc:=tB×GR×Int×bG
def Fj (R:List RL):KG:=R.map λr=>(r.1.ts,r.2.map λs=>((s.1:Int),s.2.ts))
def Lt (a:Nat) (e:E):Bool:=e.wf a false&&decide (e.depth<=100)&&decide (e.ts.length<=800)
def yH (a:Nat) (R:List RL):Bool:=decide (R.length<=20)&&R.all λr=>Lt a r.1&&decide (r.2.length<=20)&&r.2.all λs=>decide (s.1<a)&&Lt a s.2
instance:Inhabited E:=⟨.lf 1 0⟩
def CU (g:GR) (v i:Nat):Int:=AN (row g (gH (row g v) i).1.toNat) (v:Int)
def fL (g:GR):bG:=(List.range g.2.length).map λv=>(List.range (row g v).length).map (CU g v)
def gM (S:Bc) (c:bG) (v:Nat) (e:E):Int:=e.den (XF (S,c,(v:Int),[])) (row S.2.1 v).length (-1)
def dK (S:Bc) (R:List RL) (c:bG) (v:Nat):Int:=qE (R.map λr=>gM S c v r.1)
def mP (a:Int) (b:eZ) (x:Int):Int:=if b.1<=x∧x<=b.2 then x else if a=3 then -1 else if x<b.1 then b.1 else b.2
def Fz (S:Bc) (a:List Df) (c:bG) (v:Nat) (b:aR) (s:Nat×E):aR:=b.set s.1 (mP (at' a (s.1:Int)).2.1 (mE S.2.1 a v s.1) (gM S c v s.2))
def kV (S:Bc) (a:List Df) (R:List RL) (c:bG) (v:Nat) (i:Int):aR:=(at' R i).2.foldl (Fz S a c v) (at' c (v:Int))
def enD (S:Bc) (R:List RL) (c:bG):Nat:=vR (λv=>decide (0<=dK S R c v)) S.2.1.2.length
def iA (S:Bc) (vars:List Df) (R:List RL) (c:bG) (t:Nat):bG:=(List.range c.length).map λv=>if t.testBit v=true then kV S vars R c v (dK S R c v)else at' c (v:Int)
structure z_ (g:GR) (nv:Nat) (c:bG):Prop where
 len:c.length=g.2.length
 row:∀v:Nat,v<g.2.length->(at' c (v:Int)).length=nv
theorem Bb.shape {g:GR} {c:bG} {a:List Df} (h:Bb g c a):z_ g a.length c:=⟨h.len,h.row⟩
section
variable {S:Bc} {nv:Nat} {c:List (List Int)} {v:Nat}
theorem wok (b:S.2.2.2=fL S.2.1) (d:VG S.2.1) (e:z_ S.2.1 nv c) (h:v<S.2.1.2.length) (j:List (Int×Int)):WOk (S,c,(v:Int),j) nv S.2.1.2.length v:=by
 refine⟨rfl,h,rfl,d.len,e.len,e.row,λu a i g=> ?_,by show S.2.2.2.length=_;rw[b];simp[fL],λu a=>by
  show(at' S.2.2.2 (u:Int)).length=_;rw[b,fL,lN _ a,List.length_map,List.length_range]⟩
 obtain⟨w,k,f⟩:=d.to a g;show 0<=(gH (row S.2.1 u) i).1∧(gH (row S.2.1 u) i).1<_;rw[f];omega
theorem Qg (i:S.2.2.2=fL S.2.1) (a:VG S.2.1) (j:z_ S.2.1 nv c) (f:v<S.2.1.2.length) {e:E} (b:Lt nv e=true):fY 1000 S c (v:Int) e.ts=some (gM S c v e):=by
 simp only[Lt,Bool.and_eq_true,decide_eq_true_eq]at b;have g:=a.n24;have d:=(a.node v f).deg;unfold fY;have:=YY (wok i a j f e.ts) (deg:=(row S.2.1 v).length) Z (by omega) b.2 e false 1000 0 (-1) [] [] (by simp) Z b.1.1 (λh=>by cases h) (by omega);rw[bE (show bR 1000 _ (0:Int) (-1)=_ from this)];rfl
end
section
variable {p:tB} {g:GR} {gr:Int} {R:List RL} {nv:Nat} {c:List (List Int)} {v:Nat}
theorem Gq (a:p.2.2.map Al=Fj R):p.2.2.length=R.length:=by simpa [Fj]using congrArg List.length a
theorem Tp (b:p.2.2.map Al=Fj R) {i:Nat} (a:i<R.length):Al (at' p.2.2 (i:Int))=((at' R (i:Int)).1.ts,(at' R (i:Int)).2.map λs=>((s.1:Int),s.2.ts)):=by
 have d:=Gq b;have:=congrArg (λq=>q[i]?) b;simp only[Fj,List.getElem?_map,List.getElem?_eq_getElem a,List.getElem?_eq_getElem (show i<p.2.2.length by omega),Option.map_some,Option.some.injEq]at this;rw[lV a,lV (show i<p.2.2.length by omega)];exact this
theorem Tz (a:yH nv R=true) {i:Nat} (b:i<R.length):Lt nv (at' R (i:Int)).1=true∧(at' R (i:Int)).2.length<=20∧∀s∈(at' R (i:Int)).2,s.1<nv∧Lt nv s.2=true:=by
 simp only[yH,Bool.and_eq_true,List.all_eq_true,decide_eq_true_eq]at a;have:=a.2 (at' R (i:Int)) (by rw[lV b];exact List.getElem_mem b);exact⟨this.1.1,this.1.2,λs d=>this.2 s d⟩
theorem abi (a:yH nv R=true):R.length<=20:=by
 simp only[yH,Bool.and_eq_true,decide_eq_true_eq]at a;exact a.1
theorem Xq (f:VG g) (h:z_ g nv c) (j:v<g.2.length) (b:p.2.2.map Al=Fj R) (d:yH nv R=true) {i:Nat} (a:i<R.length):kN 1000 (p,g,gr,fL g) c (v:Int) (i:Int)=some (nz (gM (p,g,gr,fL g) c v (at' R (i:Int)).1)):=by
 have k:=Gq b;have e:(at' p.2.2 (i:Int)).2.1.2=(at' R (i:Int)).1.ts:=congrArg Prod.fst (Tp b a);unfold kN;dsimp only;rw[cD (by omega),e];rw[bE (show fY 1000 _ c (v:Int) _=_ from Qg (S:=(p,g,gr,fL g)) Z f h j (Tz d a).1)];rfl
theorem TA (z:VG g) (A:z_ g nv c) (C:v<g.2.length) (w:p.2.2.map Al=Fj R) (s:yH nv R=true) (h:List (List (Int×Int))):eQ 1000 (p,(p,g,gr,fL g),h) c (v:Int)=some (dK (p,g,gr,fL g) R c v):=by
 have E:=Gq w;have y:=abi s;let l:=R.map λr=>gM (p,g,gr,fL g) c v r.1;have B:l.length=R.length:=by simp[l]
 have o:∀i,i<R.length->at' l (i:Int)=gM (p,g,gr,fL g) c v (at' R (i:Int)).1:=λi t=>by
  rw[lV (by omega),lV t];simp[l]
 have b:∀(k:Nat) a,k<R.length->kL 1000 (p,(p,g,gr,fL g),h) c (v:Int) (k:Int) a=if nz (at' l (k:Int))=true then some (k:Int)else a (((k+1:Nat):Int)):=by
  intro k a d;unfold kL;dsimp only;rw[if_pos (by omega),bE (show kN 1000 _ c (v:Int) (k:Int)=_ from Xq z A C w s d),o k d,fN (by omega)]
 unfold eQ dK;by_cases f:∃i,i<R.length∧at' l (i:Int)≠0
 ·obtain⟨i,t,x⟩:=f;obtain⟨m,D,q,n⟩:=Gj (p:=λi=>at' l (i:Int)≠0) i x;have n:∀j,j<m->at' l (j:Int)=0:=λj u=>Decidable.not_not.1 (n j u);rw[show qE _=(m:Int)from rW (l:=l) (by omega) q n];exact eY (K:=some (m:Int)) m (λk=>(k:Int)) (λk a d=>by rw[b k a (by omega),if_neg (by simp[nz,n k d])]) (λa=>by rw[b m a (by omega),if_pos (by simpa [nz]using q)]) 1000 (by omega)
 ·have f:∀j,j<l.length->at' l (j:Int)=0:=λj u=>Decidable.not_not.1 λe=>f ⟨j,by omega,e⟩;rw[show qE _=(-1:Int)from Bm (l:=l) f];exact eY (K:=some (-1)) R.length (λk=>(k:Int)) (λk a d=>by rw[b k a d,if_neg (by simp[nz,f k (by omega)])]) (λa=>by
   unfold kL nM;dsimp only;rw[if_neg (by omega)]) 1000 (by omega)
theorem AP (S:Bc) (R:List RL) (c:List (List Int)) (v:Nat):dK S R c v = -1∨∃i:Nat,dK S R c v=(i:Int)∧i<R.length∧gM S c v (at' R (i:Int)).1≠0:=by
 let l:=R.map λr=>gM S c v r.1;by_cases h:∃i,i<l.length∧at' l (i:Int)≠0
 ·obtain⟨i,n,k⟩:=h;obtain⟨m,o,f,a⟩:=Gj (p:=λi=>at' l (i:Int)≠0) i k;have a:∀j,j<m->at' l (j:Int)=0:=λj b=>Decidable.not_not.1 (a j b);have d:m<R.length:=by simp[l]at n;omega
  refine .inr ⟨m,rW (l:=l) (by omega) f a,d,?_⟩;have:at' l (m:Int)=gM S c v (at' R (m:Int)).1:=by rw[lV (by simpa [l]using d),lV d];simp[l]
  rw[<-this];exact f
 ·exact .inl (Bm (l:=l) λj b=>Decidable.not_not.1 λe=>h ⟨j,b,e⟩)
theorem Fy {S:Bc} {R:List RL} {c:List (List Int)} {v:Nat}:dK S R c v = -1↔∀i:Nat,i<R.length->gM S c v (at' R (i:Int)).1=0:=by
 let l:=R.map λr=>gM S c v r.1;have a:∀i,i<R.length->at' l (i:Int)=gM S c v (at' R (i:Int)).1:=λi b=>by rw[lV (by simpa [l]using b),lV b];simp[l]
 constructor
 ·intro h i b;refine Decidable.not_not.1 λe=> ?_;obtain⟨m,n,k,f⟩:=Gj (p:=λi=>at' l (i:Int)≠0) i (by rw[a i b];exact e);have f:∀j,j<m->at' l (j:Int)=0:=λj d=>Decidable.not_not.1 (f j d);have:dK S R c v=(m:Int):=rW (l:=l) (by simp[l];omega) k f;omega
 ·intro h;exact Bm (l:=l) λj d=>by rw[a j (by simpa [l]using d)];exact h j (by simpa [l]using d)
theorem Rb (hV:VG g) (hc:z_ g nv c) (hz:p.2.2.map Al=Fj R) (hR:yH nv R=true) {tab:List (List (Int×Int))} (ht:tab.length=g.2.length):eG 1000 (p,(p,g,gr,fL g),tab) c=some ((enD (p,g,gr,fL g) R c:Nat):Int):=by
 have h24:=hV.n24;unfold eG Aq;let q:Nat->Bool:=λv=>decide (0<=dK (p,g,gr,fL g) R c v);have:=eY (step:=qZ (tab.length:Int) (λy0=>kG 1000 y0 (p,(p,g,gr,fL g),tab) c)) (K:=some ((vR q g.2.length:Nat):Int)) g.2.length (λk=>(((vR q k:Nat):Int),(k:Int))) (λk ag hk=>by
  have hm:=Nc q (k:=k) (by omega);unfold qZ uB kG;dsimp only;rw[if_pos (by omega),bE (show Option.bind (eQ 1000 _ c (k:Int)) _=some (q k) by rw[bE (show eQ 1000 _ c (k:Int)=_ from TA hV hc hk hz hR tab)]),fN (by omega)];cases hq:q k with
  |true=>
   rw[if_pos Z,cD (by omega),Jw hm (by omega)];simp only[vR,hq,if_true]
  |false=>
   rw[if_neg (by decide)];simp only[vR,hq];rfl) (λag=>by
  unfold qZ yS;dsimp only;rw[if_neg (by omega)]) 1000 (by omega)
 rw[bE (show bJ _ 1000 ((0:Int),(0:Int))=_ from this)];rfl
end
theorem Ww (f:Nat) (k:Int) (b:eZ) (x:Int):wP f k b x=some (mP k b x):=by
 unfold wP uH mP;by_cases a:b.1<=x
 ·by_cases c:x<=b.2
  ·simp only[a,c,and_self,if_true,decide_true]
  ·simp only[a,c,and_false,if_true,if_false,decide_false,Bool.false_eq_true];split
   ·rfl
   ·split<;>rfl
 ·simp only[a,false_and,if_false,Bool.false_eq_true];split
  ·rfl
  ·split<;>rfl
theorem PH {S:Bc} {a:List Df} {c:bG} {v:Nat} (l:List (Nat×E)) (b:aR):(l.foldl (Fz S a c v) b).length=b.length:=by
 induction l generalizing b with
 |nil=>rfl
 |cons s l d=>rw[List.foldl_cons,d];simp[Fz]
theorem UN {S:Bc} {a:List Df} {R:List RL} {c:bG} {v:Nat} {i:Int}:(kV S a R c v i).length=(at' c (v:Int)).length:=PH _ _
section
variable {p:tB} {g:GR} {gr:Int} {R:List RL} {c:List (List Int)} {v:Nat}
theorem aaV (A:VG g) (J:tC g p.2.1) (o:z_ g p.2.1.length c) (x:v<g.2.length) (E:p.2.2.map Al=Fj R) (H:yH p.2.1.length R=true) {i:Nat} (B:i<R.length):
  lK 1000 (p,(p,g,gr,fL g),CO g p.2.1) c (v:Int) (i:Int)=some (kV (p,g,gr,fL g) p.2.1 R c v (i:Int)):=by
 have G:=A.n24;have I:=o.len;have l:=o.row v x;have N:=J.len;have O:=Gq E;have r:=Tp E B;obtain⟨-,m,d⟩:=Tz H B;have D:(CO g p.2.1).length=g.2.length:=by simp[CO]
 have w:at' (CO g p.2.1) (v:Int)=EC g p.2.1 v:=lN _ x;have L:(EC g p.2.1 v).length=p.2.1.length:=by simp[EC]
 have y:(at' p.2.2 (i:Int)).2.2.2.map (λs=>(s.1,s.2.2))=(at' R (i:Int)).2.map λs=>((s.1:Int),s.2.ts):=congrArg Prod.snd r;have n:(at' p.2.2 (i:Int)).2.2.2.length=(at' R (i:Int)).2.length:=by simpa using congrArg List.length y
 unfold lK;dsimp only;rw[cD (by omega),cD (by simp;omega),cD (by omega),List.nil_append];unfold kV;let a:=(at' R (i:Int)).2;have:=eY (step:=kK 1000 (p,(p,g,gr,fL g),CO g p.2.1) c (v:Int) (i:Int)) (K:=some (a.foldl (Fz (p,g,gr,fL g) p.2.1 c v) (at' c (v:Int)))) a.length (λk=>((k:Int),(a.take k).foldl (Fz (p,g,gr,fL g) p.2.1 c v) (at' c (v:Int)))) (λk F e=>by
  have j:k<(at' p.2.2 (i:Int)).2.2.2.length:=by rw[n];exact e
  have z:((at' (at' p.2.2 (i:Int)).2.2.2 (k:Int)).1,(at' (at' p.2.2 (i:Int)).2.2.2 (k:Int)).2.2)=(((at' a (k:Int)).1:Int),(at' a (k:Int)).2.ts):=by
   have:=congrArg (λq=>q[k]?) y;simp only[List.getElem?_map,List.getElem?_eq_getElem j,List.getElem?_eq_getElem (show k<(at' R (i:Int)).2.length from e),Option.map_some,Option.some.injEq]at this;rw[lV j,lV e];exact this
  have f:=congrArg Prod.fst z;have h:=congrArg Prod.snd z;dsimp only at f h;obtain⟨t,u⟩:=d (at' a (k:Int)) (by rw[lV e];exact List.getElem_mem e);have C:((a.take k).foldl (Fz (p,g,gr,fL g) p.2.1 c v) (at' c (v:Int))).length=p.2.1.length:=by rw[PH,l]
  have b:at' (EC g p.2.1 v) ((at' a (k:Int)).1:Int)=mE g p.2.1 v (at' a (k:Int)).1:=lN _ t;have M:a.length<=20:=m;unfold kK;dsimp only;rw[if_pos (by omega),cD (by omega),f,h,bE (show fY 1000 _ c (v:Int) _=_ from Qg (S:=(p,g,gr,fL g)) Z A o x u),cD (by omega),cD (by omega),w,cD (by omega),b,bE (Ww 1000 _ _ _),cD (by omega),fN (by omega),Int.toNat_natCast,Ey e,List.foldl_append];rfl) (λF=>by
  unfold kK nL;dsimp only;rw[if_neg (by show¬(a.length:Int)<_;rw[n];exact Int.lt_irrefl _),List.take_length]) 1000 (by show(at' R (i:Int)).2.length<1000;omega)
 exact this
theorem abn (m:VG g) (s:tC g p.2.1) (l:z_ g p.2.1.length c) (u:p.2.2.map Al=Fj R) (o:yH p.2.1.length R=true) {t:Nat} (b:t<4294967296) (B:∀v,t.testBit v=true->0<=dK (p,g,gr,fL g) R c v):
  jJ 1000 (p,(p,g,gr,fL g),CO g p.2.1) c (t:Int)=some (iA (p,g,gr,fL g) p.2.1 R c t):=by
 have x:=m.n24;have z:=l.len;have C:=s.len;unfold jJ;rw[bE (SK c (by omega) (λv D=>by rw[l.row v (by omega)];omega))];let f:Nat->List Int:=λv=>if t.testBit v=true then kV (p,g,gr,fL g) p.2.1 R c v (dK (p,g,gr,fL g) R c v)else at' c (v:Int);let Q:Nat->List (List Int):=λk=>(List.range k).map f++c.drop k;have y:∀k,k<=c.length->(Q k).length=c.length:=λk a=>by simp[Q];omega
 have j:∀k,k<c.length->(Q k).set k (f k)=Q (k+1):=λk a=>by
  show((List.range k).map f++c.drop k).set k (f k)=(List.range (k+1)).map f++c.drop (k+1);rw[List.set_append_right _ _ (by simp),List.length_map,List.length_range,Nat.sub_self,List.drop_eq_getElem_cons a,List.set_cons_zero,List.range_succ,List.map_append,List.map_singleton,List.append_assoc];rfl
 have d:∀k,k<c.length->f k=at' c (k:Int)->Q k=Q (k+1):=λk a A=>by
  show(List.range k).map f++c.drop k=(List.range (k+1)).map f++c.drop (k+1);rw[List.range_succ,List.drop_eq_getElem_cons a,List.map_append,List.map_singleton,A,lV a];simp
 rw[show c=Q 0 by simp[Q]];refine eY (step:=iP 1000 (p,(p,g,gr,fL g),CO g p.2.1) (Q 0) (t:Int)) (K:=some (iA (p,g,gr,fL g) p.2.1 R (Q 0) t)) c.length (λk=>((k:Int),Q k)) (λk w a=> ?_) (λw=> ?_) 1000 (by omega)
 ·rw[show Q 0=c by simp[Q]];unfold iP kM;dsimp only;rw[if_pos (by omega),cD (by omega),fN (by omega)];by_cases h:t.testBit k=true
  ·obtain⟨i,r,n,_⟩:=(AP (p,g,gr,fL g) R c k).resolve_left (λe=>by have:=B k h;omega);rw[if_pos ((Rk (by omega) b).2 h),bE (show eQ 1000 _ c (k:Int)=_ from TA m l (by omega) u o _),r,bE (show lK 1000 _ c (k:Int) (i:Int)=_ from aaV m s l (by omega) u o n),cD (by rw[y k (by omega)];omega),Int.toNat_natCast];have:kV (p,g,gr,fL g) p.2.1 R c k (i:Int)=f k:=by simp only[f];rw[if_pos h,r]
   rw[this,j k a]
  ·rw[if_neg (λq=>h ((Rk (by omega) b).1 q)),d k a (by simp only[f];rw[if_neg h])]
 ·rw[show Q 0=c by simp[Q]];unfold iP nN;dsimp only;rw[if_neg (by omega)];simp[Q,iA,f]
theorem LQ {S:Bc} {a:List Df} {t:Nat}:(iA S a R c t).length=c.length:=by simp[iA]
theorem AS {S:Bc} {vars:List Df} {t:Nat} (a:v<c.length):at' (iA S vars R c t) (v:Int)=if t.testBit v=true then kV S vars R c v (dK S R c v)else at' c (v:Int):=lN _ a
theorem z_.step {S:Bc} {a:List Df} {t:Nat} {e:Nat} {g:GR} (b:z_ g e c):z_ g e (iA S a R c t):=⟨by rw[LQ,b.len],λv d=>by
 rw[AS (by rw[b.len];exact d)];split
 ·rw[UN,b.row v d]
 ·exact b.row v d⟩
end
end Go.Proofs.YtmdlcmbplnhdnaaGreatDoor
namespace Go.Proofs.YtmdlcmbplnhdnaaGreatDoor
open Go.Sx
def l_  (a:Unit):Option (Bool):=
 some (true)
def iL (c:aR) (a:Int) (b:(Int)->Option (Bool)):Option (Bool):=
 if a<(List.length c:Int)then(ck (0<=a∧a<(List.length c:Int)) (if(uF .u32 (at' c a) (16777215:Int))≠(0:Int)then(some (false))else(b (wI .i64 (a+(1:Int))))))else(l_  (()))
def gW (U:Nat) (a:aR):Option (Bool):=
 bJ (iL a) U (0:Int)
theorem SB:aW Tryz.prog 147:=Tryz.call147
theorem AW (U:Nat) {d:aR} (e:Value) (r:Bool) (h:gW U d=some r):
  aX Tryz.prog 147 #[e] [Sl zK e d] (λx:Unit=>vB (r)) (λx l=>l) (λ_ l=>l):=by
 refine aX.of Tryz.func147 Z Tryz.ntmps147 Z λc=>?_;unfold gW at h;refine aV<|aD Z<|aL<|aJ<|dR (λa=>l_  a=some r) (λa f=>[]) (λa f=>[]) ?_ ?_
 ·refine aV<|aA Z<|kB (aE.fact 0 Z) Z<|aA Z<|aL<|aS<|dU (iL d) (λb g=>[(5,e),(6,vI (List.length d:Int)),(7,vI (b))]) (λb g=>[]) (0:Int) () h SF (a_.refl _) ?_;intro j b g h;refine aV<|cM Z<|aL<|aJ ?_;refine eX h Z (λh=>?_) λh=>?_
  ·refine cK<|aJ<|aS<|aV<|cX h λi h=>aB (aY Z Z (aE.fact 0 Z) Z Z i) Z<|aB (bV Z (aE.fact 0 Z) Z Z Z G_ i) Z<|aD Z<|aL<|aV<|aA Z<|aB (Jq Z Z) Z<|p_ Z<|aL ?_;refine eX h Z (λh=>?_) λh=>?_
   ·refine aV<|aD Z<|aL<|aU<|bK<|aI<|aI<|bK<|aI ?_;cases h;exact kH Z
   refine dL<|mI<|aO<|cJ Z<|aA Z<|aL ?_;exact xY (wI .i64 (b+(1:Int))) () h SF Z
  refine fC ?_;exact gY () (()) h SF Z
 intro a f h;unfold l_ at h;refine aV<|aD Z<|aL<|aU ?_;cases h;exact kH Z
def kO  (a:Bool):Option (Bool):=
 some (a)
def iC (U:Nat) (a:Ii) (c:Bool):Option (Bool):=
 if c=true then(some (false))else(if(wI .i64 (a.2.2.1+(1:Int)))<a.2.2.2.1 then(some (false))else(if a.1<=a.2.1 then(if a.2.1<=(wI .i64 ((24:Int)*a.1))then(Option.bind (gW U ([a.2.2.2.2])) λb=>(kO  (b)))else(kO  (false)))else(kO  (false))))
def jZ (U:Nat) (a:Ii):Option (Bool):=
 if a.1<(0:Int)then(iC U a (true))else(if(4096:Int)<a.1 then(iC U a (true))else(if a.2.2.1<(0:Int)then(iC U a (true))else(if a.2.2.2.1<a.2.2.1 then(iC U a (true))else(iC U a (decide (a.1<a.2.2.2.1))))))
theorem ZU:aW Tryz.prog 146:=Tryz.call146
theorem Iq (U:Nat) {a:Ii} (r:Bool) (h:jZ U a=some r):
  aX Tryz.prog 146 #[Value.agg #[vI (a.1),vI (a.2.1),vI (a.2.2.1),vI (a.2.2.2.1),vU (a.2.2.2.2)]] [] (λx:Unit=>vB (r)) (λx l=>l) (λ_ l=>l):=by
 refine aX.of Tryz.func146 Z Tryz.ntmps146 Z λc=>?_;refine aV<|aH (aM.box (cs:=[vI (a.1),vI (a.2.1),vI (a.2.2.1),vI (a.2.2.2.1),vU (a.2.2.2.2)]) Z Z) Z λj=>aD Z<|aL<|aJ<|aJ<|dR (λb=>iC U a b=some r) (λb k=>[(1,vP j),(29,vB (b))]) (λb k=>[bU j [vI (a.1),vI (a.2.1),vI (a.2.2.1),vI (a.2.2.2.1),vU (a.2.2.2.2)] 49]) ?_ ?_
 ·refine aO<|bS Z<|dC 0 Z<|cM Z<|aA Z ?_;refine Dg h Z (λ_ h=>?_) λ_ h=>?_
  ·refine aG Z<|aG Z<|aG Z<|dV Z<|aA Z<|aG Z<|aG Z<|aG Z<|dV Z<|aA Z<|aG Z<|aG Z<|aG Z<|aG Z<|aG Z<|dV Z<|aA Z<|aG Z<|aG Z<|aG Z<|aG Z<|aG Z<|dV Z<|aL ?_;exact gY (true) () h SF Z
  refine aN Z (dO Z Z Z Z Z) Z<|aN Z (eW 0 Z Z Z Z Z) Z<|aN Z (zA Z Z) Z<|fK Z<|aA Z ?_;refine Dg h Z (λ_ h=>?_) λ_ h=>?_
  ·refine aG Z<|aG Z<|aG Z<|dV Z<|aA Z<|aG Z<|aG Z<|aG Z<|aG Z<|aG Z<|dV Z<|aA Z<|aG Z<|aG Z<|aG Z<|aG Z<|aG Z<|dV Z<|aL ?_;exact gY (true) () h SF Z
  refine aN Z (dO Z Z Z Z Z) Z<|aN Z (eW 0 Z Z Z Z Z) Z<|aN Z (EK Z Z) Z<|fK Z<|aA Z ?_;refine Dg h Z (λ_ h=>?_) λ_ h=>?_
  ·refine aG Z<|aG Z<|aG Z<|aG Z<|aG Z<|dV Z<|aA Z<|aG Z<|aG Z<|aG Z<|aG Z<|aG Z<|dV Z<|aL ?_;exact gY (true) () h SF Z
  refine aN Z (dO Z Z Z Z Z) Z<|aN Z (eW 0 Z Z Z Z Z) Z<|aN Z (dO Z Z Z Z Z) Z<|aN Z (eW 0 Z Z Z Z Z) Z<|aN Z (zA Z Z) Z<|fK Z<|aA Z ?_;refine Dg h Z (λ_ h=>?_) λ_ h=>?_
  ·refine aG Z<|aG Z<|aG Z<|aG Z<|aG Z<|dV Z<|aL ?_;exact gY (true) () h SF Z
  refine aN Z (dO Z Z Z Z Z) Z<|aN Z (eW 0 Z Z Z Z Z) Z<|aN Z (dO Z Z Z Z Z) Z<|aN Z (eW 0 Z Z Z Z Z) Z<|aN Z (zA Z Z) Z<|fK Z<|aL ?_;exact gY (decide (a.1<a.2.2.2.1)) () h SF Z
 intro b k h;refine Ai h Z (λ_ h=>?_) λ_ h=>?_
 ·refine aV<|aD Z<|aL<|aU<|aI ?_;cases h;exact tO Z
 refine cK<|aJ<|aV<|bS Z<|dC 0 Z<|bS Z<|dC 0 Z<|cJ Z<|aB (zA Z Z) Z<|aL ?_;refine eX h Z (λh=>?_) λh=>?_
 ·refine aV<|aD Z<|aL<|aU<|aI ?_;cases h;exact tO Z
 refine cK<|aJ<|dR (λd=>kO  d=some r) (λd m=>[(2,vB (d))]) (λd m=>[]) ?_ ?_
 ·refine aO<|bS Z<|dC 0 Z<|bS Z<|dC 0 Z<|aB (AD Z Z) Z<|aA Z ?_;refine Dg h Z (λ_ h=>?_) λ_ h=>?_
  ·refine aN Z (dO Z Z Z Z Z) Z<|aN Z (eW 0 Z Z Z Z Z) Z<|aN Z (dO Z Z Z Z Z) Z<|aN Z (eW 0 Z Z Z Z Z) Z<|aN Z (zL Z Z) Z<|aN Z (AD Z Z) Z<|dV Z<|aA Z ?_;refine Dg h Z (λ_ h=>?_) λ_ h=>?_
   ·refine aN Z (dO Z Z Z Z Z) Z<|aN Z (eW 0 Z Z Z Z Z) Z<|qB Z (bW (e:=pC) ([a.2.2.2.2]) [(0,vU (a.2.2.2.2))] Z Z Z Z (mR (vU (a.2.2.2.2)) Z) Z Z Z) Z λg=>fH h λf i h=>qB Z (aM.callQ SB (AW U g f i) Z (aF.cons (bB (aE.res 0 Z) tR) .nil)) Z λn=>dV Z<|aD Z<|aL ?_;exact cH (f) () h SF .nil (aF.refl _ _)
   refine aG Z<|aG Z<|aG Z<|aG Z<|fK Z<|aD Z<|aL ?_;exact cH (false) () h SF .nil (aF.refl _ _)
  refine aG Z<|aG Z<|aG Z<|aG Z<|aG Z<|aG Z<|fK Z<|aA Z<|aG Z<|aG Z<|aG Z<|aG Z<|fK Z<|aD Z<|aL ?_;exact cH (false) () h SF .nil (aF.refl _ _)
 intro d m h;unfold kO at h;refine aU ?_;cases h;exact kH Z
def kS (U:Nat) (a:Int):Option (Int):=
 ck (0<=(24:Int)) (ck (0<=(rD .u32 a (24:Int))∧(rD .u32 a (24:Int))<(List.length II:Int)) (ck (0<=(16:Int)) (ck (0<=(dD .u32 (rD .u32 a (16:Int)) (255:Int))∧(dD .u32 (rD .u32 a (16:Int)) (255:Int))<(List.length II:Int)) (ck (0<=(8:Int)) (ck (0<=(dD .u32 (rD .u32 a (8:Int)) (255:Int))∧(dD .u32 (rD .u32 a (8:Int)) (255:Int))<(List.length II:Int)) (ck (0<=(dD .u32 a (255:Int))∧(dD .u32 a (255:Int))<(List.length II:Int)) (some (wI .i64 (wI .u8 ((wI .u8 ((wI .u8 ((at' II (rD .u32 a (24:Int)))+(at' II (dD .u32 (rD .u32 a (16:Int)) (255:Int)))))+(at' II (dD .u32 (rD .u32 a (8:Int)) (255:Int)))))+(at' II (dD .u32 a (255:Int)))))))))))))
theorem ZV:aW Tryz.prog 148:=Tryz.call148
theorem FB (U:Nat) {a:Int} (r:Int) (h:kS U a=some r):
  aX Tryz.prog 148 #[vU (a)] [] (λx:Unit=>vI (r)) (λx l=>l) (λ_ l=>l):=by
 refine aX.of Tryz.func148 Z Tryz.ntmps148 Z λc=>?_;refine aV<|aD Z<|aL<|aJ ?_;refine JR.start [0,1,3,0,8,24,56,127,0,256,768,1792,4095,0,8192,24576,65535,131071,262143] 16 mixedOrders (by decide +kernel) ?_;refine JR.open (by exact rfl) ?_;refine bH Z<|cX h λb h=>iF Z (Js Z Z b)<|cX h λd h=>iF Z (Cf Z Z Z MG d)<|bH Z<|cX h λe h=>iF Z (Js Z Z e)<|iF Z (Lg Z Z)<|cX h λf h=>iF Z (Cf Z Z Z MG f)<|iF Z (vA Z Z)<|bH Z<|cX h λg h=>iF Z (Js Z Z g)<|iF Z (Lg Z Z)<|cX h λi h=>iF Z (Cf Z Z Z MG i)<|iF Z (vA Z Z)<|bH Z<|iF Z (Lg Z Z)<|cX h λj h=>iF Z (Cf Z Z Z MG j)<|bP 16 Z Z<|cJ Z<|aB (Fg Z Z Z) Z<|aD Z<|aL<|aU ?_;cases h;exact kH Z
def pF (b:Ii) (c:Int) (a:eZ):Option ((Int×Int×Int×Int×Int)×Int):=
 some ((((wI .i64 (b.1+(1:Int))),(wI .i64 (b.2.1+c)),a.1,(wI .i64 (b.2.2.1+(1:Int))),a.2)),(0:Int))
def pE (U:Nat) (a:Ii) (c:Int) (d:Int) (e:Bool):Option ((Int×Int×Int×Int×Int)×Int):=
 if e=true then(some ((((0:Int),(0:Int),(0:Int),(0:Int),(0:Int))),(11:Int)))else(if a.1=(4096:Int)then(some ((((0:Int),(0:Int),(0:Int),(0:Int),(0:Int))),(3:Int)))else(Option.bind (kS U c) λb=>(if(dD .u32 (uF .u32 a.2.2.2.2 c) d)=(0:Int)then(pF a b ((wI .i64 (a.2.2.1+(1:Int))),d))else(pF a b (a.2.2.1,(dD .u32 (uF .u32 a.2.2.2.2 c) d))))))
def fR (U:Nat) (a:Ii) (b:Int) (c:Int):Option ((Int×Int×Int×Int×Int)×Int):=
 Option.bind (jZ U ((a.1,a.2.1,a.2.2.1,a.2.2.2.1,a.2.2.2.2))) λe=>(if(!e)=true then(some ((((0:Int),(0:Int),(0:Int),(0:Int),(0:Int))),(7:Int)))else(if b=(0:Int)then(pE U a b c (true))else(Option.bind (gW U ([b,c])) λd=>(pE U a b c ((!d))))))
theorem ZK:aW Tryz.prog 114:=Tryz.call114
theorem KU (U:Nat) {a:Ii} {g:Int} {d:Int} (r:(Int×Int×Int×Int×Int)×Int) (h:fR U a g d=some r):
  aX Tryz.prog 114 #[Value.agg #[vI (a.1),vI (a.2.1),vI (a.2.2.1),vI (a.2.2.2.1),vU (a.2.2.2.2)],vU (g),vU (d)] [] (λx:Unit=>Value.tuple #[Value.agg #[vI (r.1.1),vI (r.1.2.1),vI (r.1.2.2.1),vI (r.1.2.2.2.1),vU (r.1.2.2.2.2)],vI (r.2)]) (λx l=>l) (λ_ l=>l):=by
 refine aX.of Tryz.func114 Z Tryz.ntmps114 Z λc=>?_;refine aV<|aH (aM.box (cs:=[vI (a.1),vI (a.2.1),vI (a.2.2.1),vI (a.2.2.2.1),vU (a.2.2.2.2)]) Z Z) Z λm=>aH (aM.alloc (cs:=vD2) Z Z) Z λn=>aD Z<|aL<|aJ<|aV<|eT 1 Z<|fH h λu v h=>aH (aM.callQ ZU (Iq U  u v) Z .nil) Z λz=>aB (nR Z) Z<|aL ?_;refine Ai h Z (λ_ h=>?_) λ_ h=>?_
 ·refine aV ?_;refine aB (Ms (r:=Value.agg #[vI (0:Int),vI (0:Int),vI (0:Int),vI (0:Int),vU (0:Int)]) (by intro w;simp[Instr.build,Instr.fill,fD,eD,dJ,fE,fF,eF,gK])) Z ?_;refine bT 0 (vs:=vD2) Z Z Z Z Z Z<|aD Z<|aL<|aU<|aI ?_;cases h;exact nJ () Z Z (RV.cell 0 Z Z Z Z) (RV.tmp Z) .nil aF.nil
 refine cK<|aJ<|aJ<|dR (λi=>pE U a g d i=some r) (λi t=>[(1,vU (g)),(2,vU (d)),(3,vP m),(6,vP n),(20,vB (i))]) (λi t=>[bU n vD2 49,bU m [vI (a.1),vI (a.2.1),vI (a.2.2.1),vI (a.2.2.2.1),vU (a.2.2.2.2)] 49]) ?_ ?_
 ·refine aO<|aA Z<|cP Z<|aA Z ?_;refine Dg h Z (λ_ h=>?_) λ_ h=>?_
  ·refine aG Z<|aG Z<|aG Z<|aG Z<|aG Z<|dV Z<|aL ?_;exact gY (true) () h SF Z
  refine cO Z<|cO Z<|qB Z (bW (e:=pC) ([g,d]) [(0,vU (g)),(1,vU (d))] Z Z Z Z (JQ (vU (g)) (vU (d)) Z Z) Z Z Z) Z λo=>fH h λk q h=>qB Z (aM.callQ SB (AW U o k q) Z (aF.cons (bB (aE.res 0 Z) tR) .nil)) Z λy=>aN Z (nR Z) Z<|fK Z<|aL ?_;exact cH ((!k)) () h SF (a_.ix [1,2] Z Z) (aF.refl _ _)
 intro i t h;refine Ai h Z (λ_ h=>?_) λ_ h=>?_
 ·refine aV ?_;refine aB (Ms (r:=Value.agg #[vI (0:Int),vI (0:Int),vI (0:Int),vI (0:Int),vU (0:Int)]) (by intro w;simp[Instr.build,Instr.fill,fD,eD,dJ,fE,fF,eF,gK])) Z ?_;refine bT 0 (vs:=vD2) Z Z Z Z Z Z<|aD Z<|aL<|aU<|aI ?_;cases h;exact nJ () Z Z (RV.cell 0 Z Z Z Z) (RV.tmp Z) .nil aF.nil
 refine cK<|aJ<|aV<|bS Z<|dC 1 Z<|cP Z<|aL ?_;refine eX h Z (λh=>?_) λh=>?_
 ·refine aV ?_;refine aB (Ms (r:=Value.agg #[vI (0:Int),vI (0:Int),vI (0:Int),vI (0:Int),vU (0:Int)]) (by intro w;simp[Instr.build,Instr.fill,fD,eD,dJ,fE,fF,eF,gK])) Z ?_;refine bT 0 (vs:=vD2) Z Z Z Z Z Z<|aD Z<|aL<|aU<|aI ?_;cases h;exact nJ () Z Z (RV.cell 0 Z Z Z Z) (RV.tmp Z) .nil aF.nil
 refine cK<|aV<|bS Z<|dC 1 Z<|cJ Z<|bS Z<|iG 1 Z Z Z Z Z Z<|aL<|aJ ?_;refine JR.start [0,1,0,4,15,31,63] 4 mixedOrders (by decide +kernel) ?_;refine JR.open (by exact rfl) ?_;refine dB Z<|jQ 1 Z<|bH Z<|fH h λf p h=>JR.loud Z Z Z (aM.callQ ZV (FB U  f p) Z .nil) Z (λs=>(v_ [([1],[])] Z)) λs=>bP 4 Z Z<|cJ Z<|bS Z<|iG 1 Z Z Z Z Z Z<|aL<|aV<|bS Z<|dC 1 Z<|cJ Z<|bS Z<|iG 1 Z Z Z Z Z Z<|aL<|aV<|bS Z<|dC 1 Z<|aA Z<|aB (Jq Z Z) Z<|aA Z<|Aa Z<|bS Z<|iG 1 Z Z Z Z Z Z<|aL<|aJ<|dR (λb=>pF a f b=some r) (λb j=>[(3,vP m),(6,vP n)]) (λb j=>[bU n vD2 49,bU m [vI (wI .i64 (a.1+(1:Int))),vI (wI .i64 (a.2.1+f)),vI (b.1),vI (wI .i64 (a.2.2.1+(1:Int))),vU (b.2)] 49]) ?_ ?_
 ·refine aV<|bS Z<|dC 1 Z<|cP Z<|aL ?_;refine eX h Z (λh=>?_) λh=>?_
  ·refine aV<|bS Z<|dC 1 Z<|bS Z<|iG 1 Z Z Z Z Z Z<|aL<|aO<|aA Z<|bS Z<|iG 1 Z Z Z Z Z Z<|aL ?_;exact gY ((wI .i64 (a.2.2.1+(1:Int))),d) () h SF Z
  refine cK ?_;exact gY (a.2.2.1,(dD .u32 (uF .u32 a.2.2.2.2 g) d)) () h SF Z
 intro b j h;unfold pF at h;refine aV<|eT 1 Z<|bT 0 (vs:=[vI (wI .i64 (a.1+(1:Int))),vI (wI .i64 (a.2.1+f)),vI (b.1),vI (wI .i64 (a.2.2.1+(1:Int))),vU (b.2)]) Z Z Z Z Z Z<|aD Z<|aL<|aU ?_;cases h;exact nJ () Z Z (RV.cell 0 Z Z Z Z) (RV.tmp Z) .nil aF.nil
end Go.Proofs.YtmdlcmbplnhdnaaGreatDoor
namespace Go.Proofs.YtmdlcmbplnhdnaaGreatDoor
open Go Go.Sx
abbrev CT:=Ii
theorem EP (l:aR) (h:l.length<=900):∃b,gW 1000 l=some b:=by
 unfold gW;have:=uN (step:=iL l) (Q:=λ_:Bool=>True) (λi:Int=>∃k:Nat,i=(k:Int)∧k<=l.length) (λi=>l.length - i.toNat) (λi f c a=>by
  obtain⟨k,rfl,g⟩:=c;unfold iL l_;by_cases e:k<l.length
  ·rw[if_pos (by omega),cD (by omega)];split
   ·exact⟨_,rfl,trivial⟩
   ·rw[fN (by omega)];exact a _ ⟨k+1,rfl,by omega⟩ (by omega)
  ·rw[if_neg (by omega)];exact⟨_,rfl,trivial⟩) 1000 0 ⟨0,rfl,by omega⟩ (by omega)
 obtain⟨b,d,_⟩:=this;exact⟨b,d⟩
theorem Mv (k:CT):∃b,jZ 1000 k=some b:=by
 obtain⟨q,d⟩:=EP [k.2.2.2.2] (by simp);have c:∀a,∃b,iC 1000 k a=some b:=by
  intro a;unfold iC kO;split
  ·exact⟨_,rfl⟩
  ·split
   ·exact⟨_,rfl⟩
   ·split
    ·split
     ·rw[bE d];exact⟨_,rfl⟩
     ·exact⟨_,rfl⟩
    ·exact⟨_,rfl⟩
 unfold jZ
 repeat' split
 all_goals exact c _
theorem UR {t:Nat} (i:t<4294967296):∃n,kS 1000 (t:Int)=some n:=by
 have g:(List.length II:Int)=256:=by decide +kernel
 have b:∀a:Nat,a<4294967296->0<=dD .u32 (a:Int) 255∧dD .u32 (a:Int) 255<256:=λa f=>by
  rw[show(255:Int)=((255:Nat):Int)from rfl,CS f (by omega)];have:a &&& 255<=255:=Nat.and_le_right;omega
 have c:∀k:Nat,k<32->rD .u32 (t:Int) (k:Int)=((t / 2^k:Nat):Int):=λk h=>Mz h;have e:rD .u32 (t:Int) 24=((t / 2^24:Nat):Int):=c 24 (by omega);have d:rD .u32 (t:Int) 16=((t / 2^16:Nat):Int):=c 16 (by omega);have j:rD .u32 (t:Int) 8=((t / 2^8:Nat):Int):=c 8 (by omega);unfold kS;rw[g,e,d,j,cD (by decide),cD (by omega),cD (by decide),cD (b _ (by omega)),cD (by decide),cD (b _ (by omega)),cD (b _ i)];exact⟨_,rfl⟩
theorem VX (k:CT) {t:Nat} (h:t<4294967296) (e:Int):∃r,fR 1000 k (t:Int) e=some r:=by
 obtain⟨b,d⟩:=Mv k;obtain⟨q,g⟩:=EP [(t:Int),e] (by simp);obtain⟨n,f⟩:=UR h;have c:∀a,∃r,pE 1000 k (t:Int) e a=some r:=by
  intro a;unfold pE pF;split
  ·exact⟨_,rfl⟩
  ·split
   ·exact⟨_,rfl⟩
   ·rw[bE f];split<;>exact⟨_,rfl⟩
 unfold fR;rw[bE (show jZ 1000 _=some b from d)];split
 ·exact⟨_,rfl⟩
 ·split
  ·exact c _
  ·rw[bE g];exact c _
def aQ (p:tB) (g:GR):Bc:=(p,g,kA g g.2.length,fL g)
def oS (S:Bc) (R:List RL) (a:Nat) (c:bG):Nat:=enD S R c &&& a
theorem aar (S:Bc) (R:List RL) (c:bG) (v:Nat):(enD S R c).testBit v=(decide (v<S.2.1.2.length)&&decide (0<=dK S R c v)):=Hs _ v _
theorem MP (S:Bc) (R:List RL) (a:Nat) (c:bG) (v:Nat):(oS S R a c).testBit v=true↔v<S.2.1.2.length∧0<=dK S R c v∧a.testBit v=true:=by
 unfold oS;rw[Nat.testBit_and,aar,Bool.and_eq_true,Bool.and_eq_true,decide_eq_true_eq,decide_eq_true_eq,and_assoc]
theorem adt {S:Bc} (a:VG S.2.1) (R:List RL) (c:bG):enD S R c<4294967296:=Nc _ (by have:=a.n24;omega)
theorem Hg (S:Bc) (R:List RL) (a:Nat) (c:bG):NI S.2.1 (oS S R a c):=λi b=>((MP S R a c i).1 b).1
def aaL (a:pX):aR:=a.map λt=>((t:Nat):Int)
end Go.Proofs.YtmdlcmbplnhdnaaGreatDoor
namespace Go.Proofs.YtmdlcmbplnhdnaaGreatDoor
open Go.Sx
def sY  (a:Bool):Option (Bool):=
 some (a)
def Br (U:Nat) (b:Int) (a:Int):Option (Bool):=
 if(0:Int)<=a then(if a<(32:Int)then(ck (0<=(wI .u64 a)) (sY  (decide ((dD .u32 (rD .u32 b (wI .u64 a)) (1:Int))=(1:Int)))))else(sY  (false)))else(sY  (false))
theorem acB:aW Tryz.prog 16:=Tryz.call16
theorem PT (U:Nat) {b:Int} {d:Int} (r:Bool) (h:Br U b d=some r):
  aX Tryz.prog 16 #[vU (b),vI (d)] [] (λx:Unit=>vB (r)) (λx l=>l) (λ_ l=>l):=by
 refine aX.of Tryz.func16 Z Tryz.ntmps16 Z λc=>?_;refine aV<|aD Z<|aL<|aJ<|dR (λa=>sY  a=some r) (λa e=>[(4,vB (a))]) (λa e=>[]) ?_ ?_
 ·refine aO<|aA Z<|aB (Do Z Z) Z<|aA Z ?_;refine Dg h Z (λ_ h=>?_) λ_ h=>?_
  ·refine cO Z<|aN Z (EK Z Z) Z<|dV Z<|aA Z ?_;refine Dg h Z (λ_ h=>?_) λ_ h=>?_
   ·refine cO Z<|cO Z<|aN Z (Fg Z Z Z) Z<|cX h λf h=>aN Z (Js Z Z f) Z<|aN Z (Lg Z Z) Z<|aN Z (On Z Z) Z<|dV Z<|aD Z<|aL ?_;exact gY (decide ((dD .u32 (rD .u32 b (wI .u64 d)) (1:Int))=(1:Int))) () h SF Z
   refine aG Z<|aG Z<|aG Z<|aG Z<|aG Z<|aG Z<|fK Z<|aD Z<|aL ?_;exact gY (false) () h SF Z
  refine aG Z<|aG Z<|fK Z<|aA Z<|aG Z<|aG Z<|aG Z<|aG Z<|aG Z<|aG Z<|fK Z<|aD Z<|aL ?_;exact gY (false) () h SF Z
 intro a e h;unfold sY at h;refine aU ?_;cases h;exact kH Z
def uX  (a:aR):Option aR:=
 some (a)
def qV (c:aR×Int) (b:(aR×Int)->Option aR) (a:aR):Option aR:=
 b (a,(wI .i64 (c.2+(1:Int))))
def oA (b:aR) (d:Int) (a:aR×Int) (c:(aR×Int)->Option aR):Option aR:=
 if a.2<d then(if(List.length b:Int)=(0:Int)then(ck ((List.length a.1:Int)+(List.length ([(4294967295:Int)]):Int)<=1099511627) (qV a c (a.1++([(4294967295:Int)]))))else(ck ((List.length b:Int)≠0) (ck (0<=(Int.tmod a.2 (List.length b:Int))∧(Int.tmod a.2 (List.length b:Int))<(List.length b:Int)) (ck ((List.length b:Int)≠0) (ck ((24:Int)≠0) (ck (0<=(wI .u64 (Int.tmod (wI .i64 (Int.tdiv a.2 (List.length b:Int))) (24:Int)))) (ck (0<=(wI .u64 ((24:Int) - (wI .u64 (Int.tmod (wI .i64 (Int.tdiv a.2 (List.length b:Int))) (24:Int)))))) (ck ((List.length a.1:Int)+(List.length ([(dD .u32 (FX .u32 (vC .u32 (dD .u32 (at' b (Int.tmod a.2 (List.length b:Int))) (16777215:Int)) (wI .u64 (Int.tmod (wI .i64 (Int.tdiv a.2 (List.length b:Int))) (24:Int)))) (rD .u32 (dD .u32 (at' b (Int.tmod a.2 (List.length b:Int))) (16777215:Int)) (wI .u64 ((24:Int) - (wI .u64 (Int.tmod (wI .i64 (Int.tdiv a.2 (List.length b:Int))) (24:Int))))))) (16777215:Int))]):Int)<=1099511627) (qV a c (a.1++([(dD .u32 (FX .u32 (vC .u32 (dD .u32 (at' b (Int.tmod a.2 (List.length b:Int))) (16777215:Int)) (wI .u64 (Int.tmod (wI .i64 (Int.tdiv a.2 (List.length b:Int))) (24:Int)))) (rD .u32 (dD .u32 (at' b (Int.tmod a.2 (List.length b:Int))) (16777215:Int)) (wI .u64 ((24:Int) - (wI .u64 (Int.tmod (wI .i64 (Int.tdiv a.2 (List.length b:Int))) (24:Int))))))) (16777215:Int))])))))))))))else(uX  (a.1))
def lM (U:Nat) (a:aR) (b:Int):Option aR:=
 bJ (oA a b) U (([]:aR),(0:Int))
theorem Wh:aW Tryz.prog 13:=Tryz.call13
theorem Ea (U:Nat) {a:aR} {i:Int} (n:Value) (r:aR) (h:lM U a i=some r):
  aX Tryz.prog 13 #[n,vI (i)] [Sl zK n a] (λx:Value=>x) (λx l=>Ar pC x r::l) (λ_ l=>l):=by
 refine aX.of Tryz.func13 Z Tryz.ntmps13 Z λc=>?_;unfold lM at h;refine aV<|aD Z<|aL<|aV<|aD Z<|aL<|aJ<|DG (B:=Value) (λj=>uX  j=some r) (λj k=>[(5,k)]) (λj k=>[Ar pC k j]) ?_ ?_
 ·refine aV<|aD Z<|aL<|aS<|iS (gJ pC)<|dU (B:=Value) (oA a i) (λb f=>[(0,n),(1,vI (i)),(5,f),(6,vI (b.2))]) (λb f=>[Ar pC f b.1]) (([]:aR),(0:Int)) (k_) h SF (a_.refl _) ?_;intro w b f h;refine aJ<|aV<|aA Z<|aA Z<|cM Z<|aL ?_;refine eX h Z (λh=>?_) λh=>?_
  ·refine cK<|aJ<|DG (B:=Value) (λd=>qV b (bJ (oA a i) w) d=some r) (λd g=>[(0,n),(1,vI (i)),(5,g),(6,vI (b.2))]) (λd g=>[Ar pC g d]) ?_ ?_
   ·refine aS<|aJ<|aV<|aA Z<|kB (aE.fact 0 Z) Z<|cP Z<|aL ?_;refine eX h Z (λh=>?_) λh=>?_
    ·refine aV<|aA Z<|aH (bW (e:=pC) ([(4294967295:Int)]) [(0,vU (4294967295:Int))] Z Z Z Z (mR (vU (4294967295:Int)) Z) Z Z Z) Z λC=>cX h λo h=>aH (eO 1 tR Z Z Z (bB (aE.res 0 Z) tR) Z Z Z Z o Z) Z λy=>aD Z<|aL<|rA<|eM<|xN<|Bg ?_;exact cH (b.1++([(4294967295:Int)])) (y) h SF (a_.ix [1] Z Z) (aF.refl _ _)
    refine cK<|aJ ?_;refine JR.start [0,0,0,4,14,31,63,0,0,256,896,1920,3968,127,16383] 14 mixedOrders (by decide +kernel) ?_;refine JR.open (by exact rfl) ?_;refine bH Z<|bH Z<|bH Z<|bL Z .nil (lR 0 Z) (fW Z (aE.fact 0 Z) Z) aP.z<|cX h λp h=>iF Z (Jr Z Z p)<|cX h λm h=>bL Z .nil (lR 0 Z) (aY Z Z (aE.fact 0 Z) Z Z m) aP.z<|bL Z .nil (lR 0 Z) (bV Z (aE.fact 0 Z) Z Z Z G_ m) aP.z<|bH Z<|bH Z<|bL Z .nil (lR 0 Z) (fW Z (aE.fact 0 Z) Z) aP.z<|cX h λq h=>iF Z (VV Z Z q)<|cX h λs h=>iF Z (Jr Z Z s)<|iF Z (Fg Z Z Z)<|iF Z (lY Z)<|bP 14 Z Z<|aD Z<|aL<|aV<|aA Z<|Aa Z<|aD Z<|aL<|aO<|aA Z<|aA Z<|aA Z<|cX h λt h=>aB (HR Z Z t) Z<|aA Z<|aA Z<|aB (lA Z Z) Z<|cX h λu h=>aB (Js Z Z u) Z<|aB (QL Z Z) Z<|Aa Z<|aH (bW (e:=pC) ([(dD .u32 (FX .u32 (vC .u32 (dD .u32 (at' a (Int.tmod b.2 (List.length a:Int))) (16777215:Int)) (wI .u64 (Int.tmod (wI .i64 (Int.tdiv b.2 (List.length a:Int))) (24:Int)))) (rD .u32 (dD .u32 (at' a (Int.tmod b.2 (List.length a:Int))) (16777215:Int)) (wI .u64 ((24:Int) - (wI .u64 (Int.tmod (wI .i64 (Int.tdiv b.2 (List.length a:Int))) (24:Int))))))) (16777215:Int))]) [(0,vU (dD .u32 (FX .u32 (vC .u32 (dD .u32 (at' a (Int.tmod b.2 (List.length a:Int))) (16777215:Int)) (wI .u64 (Int.tmod (wI .i64 (Int.tdiv b.2 (List.length a:Int))) (24:Int)))) (rD .u32 (dD .u32 (at' a (Int.tmod b.2 (List.length a:Int))) (16777215:Int)) (wI .u64 ((24:Int) - (wI .u64 (Int.tmod (wI .i64 (Int.tdiv b.2 (List.length a:Int))) (24:Int))))))) (16777215:Int)))] Z Z Z Z (mR (vU (dD .u32 (FX .u32 (vC .u32 (dD .u32 (at' a (Int.tmod b.2 (List.length a:Int))) (16777215:Int)) (wI .u64 (Int.tmod (wI .i64 (Int.tdiv b.2 (List.length a:Int))) (24:Int)))) (rD .u32 (dD .u32 (at' a (Int.tmod b.2 (List.length a:Int))) (16777215:Int)) (wI .u64 ((24:Int) - (wI .u64 (Int.tmod (wI .i64 (Int.tdiv b.2 (List.length a:Int))) (24:Int))))))) (16777215:Int))) Z) Z Z Z) Z λD=>cX h λv h=>aH (eO 1 tR Z Z Z (bB (aE.res 0 Z) tR) Z Z Z Z v Z) Z λA=>aD Z<|eJ<|mI ?_;exact cH (b.1++([(dD .u32 (FX .u32 (vC .u32 (dD .u32 (at' a (Int.tmod b.2 (List.length a:Int))) (16777215:Int)) (wI .u64 (Int.tmod (wI .i64 (Int.tdiv b.2 (List.length a:Int))) (24:Int)))) (rD .u32 (dD .u32 (at' a (Int.tmod b.2 (List.length a:Int))) (16777215:Int)) (wI .u64 ((24:Int) - (wI .u64 (Int.tmod (wI .i64 (Int.tdiv b.2 (List.length a:Int))) (24:Int))))))) (16777215:Int))])) (A) h SF (a_.ix [1] Z Z) (aF.refl _ _)
   intro d g h;unfold qV at h;refine aO<|aA Z<|cJ Z<|aD Z<|aL ?_;exact xY (d,(wI .i64 (b.2+(1:Int)))) (g) h SF Z
  refine fC ?_;exact gY (b.1) (f) h SF Z
 intro j k h;unfold uX at h;refine aV<|aA Z<|aD Z<|aL<|aU ?_;cases h;exact iB (k) Z Z (RV.tmp Z) (a_.refl _) aF.nil
end Go.Proofs.YtmdlcmbplnhdnaaGreatDoor
namespace Go.Proofs.YtmdlcmbplnhdnaaGreatDoor
open Go Go.Sx
theorem acx (f:Nat) {m v:Nat} (b:m<4294967296) (a:v<32):Br f (m:Int) (v:Int)=some (m.testBit v):=by
 unfold Br sY;rw[if_pos (by omega),if_pos (by omega),abA a,cD (by omega)];congr 1;rw[Bool.eq_iff_iff,decide_eq_true_eq];exact Rk a b
theorem Qj (x:Int):0<=wI .u64 x:=by
 rw[Ed];have:IntKind.u64.wrap x=x%18446744073709551616:=rfl;rw[this];omega
theorem Md (l:aR) {n:Nat} (y:n<=900):∃ws,lM 1000 l (n:Int)=some ws∧ws.length=n∧∀k:Nat,k<ws.length->∃m:Nat,at' ws (k:Int)=(m:Int)∧m<4294967296:=by
 unfold lM;obtain⟨⟨ws,i⟩,⟨c,b,d⟩,t⟩:=BU (step:=oA l (n:Int)) (K:=λz=>some z.1) n
  (λk z=>z.2=(k:Int)∧z.1.length=k∧∀j:Nat,j<k->∃m:Nat,at' z.1 (j:Int)=(m:Int)∧m<4294967296) (λk z q v h=>by
  obtain⟨ws,i⟩:=z;obtain⟨c,b,d⟩:=h;dsimp only at c b d;subst c;have a:∀m:Nat,m<4294967296->∀j:Nat,j<k+1->∃p:Nat,at' (ws++[(m:Int)]) (j:Int)=(p:Int)∧p<4294967296:=λm o j u=>by
   rw[Nt ws _ (by omega)];by_cases e:j<ws.length
   ·rw[if_pos e];exact d j (by omega)
   ·rw[if_neg e];exact⟨m,rfl,o⟩
  have f:∀m:Nat,(List.length ws:Int)+(List.length [(m:Int)]:Int)<=1099511627:=λm=>by simp;omega
  unfold oA qV;dsimp only;rw[if_pos (by omega),fN (by omega)];by_cases x:l.length=0
  ·rw[if_pos (by omega),cD (show(List.length ws:Int)+(List.length [(4294967295:Int)]:Int)<=1099511627 from f 4294967295)];exact⟨_,⟨rfl,by simp[b],a 4294967295 (by omega)⟩,rfl⟩
  ·have r:Int.tmod (k:Int) (l.length:Int)=((k%l.length:Nat):Int):=rfl;have w:k%l.length<l.length:=Nat.mod_lt _ (by omega);rw[if_neg (by omega),cD (by omega),cD (by rw[r];omega),cD (by omega),cD (by decide),cD (Qj _),cD (Qj _)];have s:∀X:Int,∃m:Nat,dD .u32 X (16777215:Int)=(m:Int)∧m<4294967296:=λX=>⟨_,My _ _,Nat.lt_of_le_of_lt Nat.and_le_left (Jl _)⟩
   obtain⟨m,o,g⟩:=s (FX .u32 (vC .u32 (dD .u32 (at' l (Int.tmod (k:Int) (l.length:Int))) (16777215:Int)) (wI .u64 (Int.tmod (wI .i64 (Int.tdiv (k:Int) (l.length:Int))) (24:Int)))) (rD .u32 (dD .u32 (at' l (Int.tmod (k:Int) (l.length:Int))) (16777215:Int)) (wI .u64 ((24:Int) - (wI .u64 (Int.tmod (wI .i64 (Int.tdiv (k:Int) (l.length:Int))) (24:Int)))))));rw[o,cD (f m)];exact⟨_,⟨rfl,by simp[b],a m g⟩,rfl⟩) (λz q h=>by
  obtain⟨ws,i⟩:=z;obtain⟨c,b,d⟩:=h;dsimp only at c;subst c;unfold oA uX;dsimp only;rw[if_neg (by omega)]) 1000 (([]:aR),(0:Int)) ⟨rfl,rfl,λj u=>by omega⟩ (by omega)
 exact⟨ws,t,b,λk v=>d k (by dsimp only at b;omega)⟩
def El (c:bG) (v:Nat):Int:=at' (at' c (v:Int)) 0
def zT (g:GR) (c:bG) (v i:Nat):Int:=at' (at' c (gH (row g v) i).1) 0
theorem Er {g:GR} {c:bG} {v i u:Nat} (h:(gH (row g v) i).1=(u:Int)):zT g c v i=El c u:=by unfold zT El;rw[h]
theorem QT:∀i,i<256->0<=at' II ((i:Nat):Int)∧at' II ((i:Nat):Int)<=8∧(i≠0->1<=at' II ((i:Nat):Int)):=by
 have h:((List.range 256).all λi=>decide (0<=at' II ((i:Nat):Int)∧at' II ((i:Nat):Int)<=8∧(i≠0->1<=at' II ((i:Nat):Int))))=true:=by decide +kernel
 intro i a;exact of_decide_eq_true (List.all_eq_true.1 h i (List.mem_range.2 a))
theorem aaY {t:Nat} (I:t<16777216) (F:t≠0):∃n:Nat,kS 1000 (t:Int)=some (n:Int)∧1<=n∧n<=24:=by
 have q:(List.length II:Int)=256:=by decide +kernel
 have b:∀a:Nat,a<4294967296->dD .u32 (a:Int) 255=((a%256:Nat):Int):=λa p=>by
  rw[show(255:Int)=((255:Nat):Int)from rfl,CS p (by omega),show(255:Nat)=2^8 - 1 from rfl,Nat.and_two_pow_sub_one_eq_mod]
 have c:∀k:Nat,k<32->rD .u32 (t:Int) (k:Int)=((t / 2^k:Nat):Int):=λk r=>Mz r;have e:rD .u32 (t:Int) 24=((t / 2^24:Nat):Int):=c 24 (by omega);have d:rD .u32 (t:Int) 16=((t / 2^16:Nat):Int):=c 16 (by omega);have s:rD .u32 (t:Int) 8=((t / 2^8:Nat):Int):=c 8 (by omega);have g:t / 2^24=0:=Nat.div_eq_of_lt (by omega);unfold kS;rw[q,e,d,s,b _ (by omega),b _ (by omega),b _ (by omega),g,cD (by decide),cD (by omega),cD (by decide),cD (by omega),cD (by decide),cD (by omega),cD (by omega)];obtain⟨v,w,i⟩:=QT (t / 2^16%256) (by omega);obtain⟨y,z,j⟩:=QT (t / 2^8%256) (by omega);obtain⟨D,E,l⟩:=QT (t%256) (by omega);have u:at' II ((0:Nat):Int)=0:=rfl;have h:1<=at' II ((t / 2^16%256:Nat):Int)+at' II ((t / 2^8%256:Nat):Int)+at' II ((t%256:Nat):Int):=by
  by_cases m:t / 2^16%256=0
  ·by_cases o:t / 2^8%256=0
   ·have:=l (by omega);omega
   ·have:=j o;omega
  ·have:=i m;omega
 have f:∀x:Int,0<=x->x<=100->wI .u8 x=x:=λx G H=>by
  rw[Ed];have:IntKind.u8.wrap x=x%256:=rfl;rw[this];omega
 generalize at' II ((t / 2^16%256:Nat):Int)=A at *
 generalize at' II ((t / 2^8%256:Nat):Int)=B at *
 generalize at' II ((t%256:Nat):Int)=C at *
 rw[u,f (0+A) (by omega) (by omega),f (0+A+B) (by omega) (by omega),f (0+A+B+C) (by omega) (by omega),wr (by omega) (by omega)];exact⟨(0+A+B+C).toNat,by congr 1;omega,by omega,by omega⟩
theorem Ic (l:aR) (j:l.length<=900) (h:∀x∈l,∃a:Nat,x=(a:Int)∧a<16777216):gW 1000 l=some true:=by
 unfold gW;refine eY (step:=iL l) (K:=some true) l.length (λk=>(k:Int)) (λk f d=> ?_) (λf=> ?_) 1000 (by omega)
 ·obtain⟨a,g,b⟩:=h (at' l (k:Int)) (by rw[lV d];exact List.getElem_mem d);unfold iL;rw[if_pos (by omega),cD (by omega),g,fN (by omega)];have:uF .u32 (a:Int) (16777215:Int)=0:=(Wc _ _).2 λi c=>by
   rw[uE (by omega)]at c;have e:NX 16777215=2^24 - 1:=uE (a:=16777215) (by omega);rw[e,Nat.testBit_two_pow_sub_one,decide_eq_true_eq];by_cases h:i<24
   ·exact h
   ·have:=Nat.testBit_lt_two_pow (x:=a) (i:=i) (Nat.lt_of_lt_of_le b (Nat.pow_le_pow_right (n:=2) (by omega) (show 24<=i by omega)));rw[this]at c;cases c
  rw[this,if_neg (by simp)]
 ·unfold iL l_;rw[if_neg (by omega)]
structure BM (k:Nat) (cnt:CT) (R B pe:Nat):Prop where
 steps:cnt.1=(k:Int)
 moves:(k:Int)<=cnt.2.1∧cnt.2.1<=24*(k:Int)
 rounds:cnt.2.2.1=(R:Int)
 begun:cnt.2.2.2.1=(B:Int)
 pend:cnt.2.2.2.2=(pe:Int)
 le:R<=B∧B<=k∧B<=R+1
 p24:pe<16777216
theorem BM.valid {k:Nat} {i:CT} {R B j:Nat} (h:BM k i R B j) (n:k<=1000):jZ 1000 i=some true:=by
 obtain⟨a,b,c,d,e,f,g⟩:=h;have m:=Ic [(j:Int)] (by simp) λx l=>by
  have l:x=(j:Int):=by simpa using l
  exact⟨j,l,g⟩
 unfold jZ;rw[a,c,d,if_neg (by omega),if_neg (by omega),if_neg (by omega),if_neg (by omega),decide_eq_false (by omega)];unfold iC kO;rw[a,c,d,e,if_neg (by decide),fN (by omega),if_neg (by omega),if_pos b.1,wr (by omega) (by omega),if_pos b.2,bE m]
theorem BM.add {k:Nat} {r:CT} {R B o:Nat} (h:BM k r R B o) (I:k<900) {t l:Nat} (A:t<16777216) (C:t≠0) (q:l<16777216) {m:CT} {u:Int} (j:fR 1000 r (t:Int) (l:Int)=some (m,u)):
  ∃p:Nat,(∀i,p.testBit i=(o.testBit i && !t.testBit i&&l.testBit i))∧((p=0∧BM (k+1) m (R+1) (R+1) l)∨(p≠0∧BM (k+1) m R (R+1) p)):=by
 have H:=h.valid (by omega);obtain⟨a,b,c,d,e,f,g⟩:=h;obtain⟨n,D,E,F⟩:=aaY A C;have G:=Ic [(t:Int),(l:Int)] (by simp) λx y=>by
  have y:x=(t:Int)∨x=(l:Int):=by simpa using y
  rcases y with rfl|rfl
  ·exact⟨t,rfl,A⟩
  ·exact⟨l,rfl,q⟩
 have v:EL o t<4294967296:=OG o t;have w:∀i,(EL o t &&& l).testBit i=(o.testBit i && !t.testBit i&&l.testBit i):=λi=>by
  rw[Nat.testBit_and,Lo (by omega) (by omega)]
 have s:EL o t &&& l<16777216:=Nat.lt_of_le_of_lt Nat.and_le_right q;unfold fR at j;rw[bE (show jZ 1000 _=some true from H),if_neg (by decide),if_neg (by omega),bE G]at j;unfold pE pF at j;dsimp only at j;rw[a,c,e,if_neg (by decide),if_neg (by omega),bE D,Ov,CS v (by omega),fN (by omega),fN (by omega),wr (by omega) (by omega)]at j;refine⟨EL o t &&& l,w,?_⟩
 by_cases z:EL o t &&& l=0
 ·rw[if_pos (by rw[z];rfl)]at j;have:=Option.some.inj j;obtain⟨rfl,_⟩:=Prod.mk.inj this;exact .inl ⟨z,rfl,⟨by dsimp only;omega,by dsimp only;omega⟩,rfl,rfl,rfl,by omega,q⟩
 ·rw[if_neg (by omega)]at j;have:=Option.some.inj j;obtain⟨rfl,_⟩:=Prod.mk.inj this;exact .inr ⟨z,rfl,⟨by dsimp only;omega,by dsimp only;omega⟩,rfl,rfl,rfl,by omega,s⟩
def exX:E:= .ite (.bi 37 (.ag 24 (.lf 12 0)) (.lf 6 0)) (.bi 33 (.ag 24 (.lf 12 0)) (.lf 1 1)) (.lf 6 0)
def exY:E:= .ag 23 (.bi 35 (.lf 12 0) (.ag 24 (.lf 12 0)))
def guT:E:= .bi 41 (.lf 10 0) (.bi 42 (.bi 36 (.lf 5 0) (.lf 1 0)) (.bi 36 (.lf 5 1) (.lf 4 0)))
def guB:E:= .bi 41 (.un 19 (.lf 10 0)) (.bi 42 (.bi 36 (.lf 5 0) exX) (.bi 36 (.lf 5 1) exY))
def RB:List RL:=[(guT,[(0,.lf 1 0),(1,.lf 4 0)]),(guB,[(0,exX),(1,exY)])]
theorem XG (g:GR) (v:Nat):lo g (at' sI ((0:Nat):Int)) v=0:=rfl
theorem adO (g:GR) (v:Nat):lo g (at' sI ((1:Nat):Int)) v = -1:=rfl
theorem Xr (g:GR) (v:Nat):hi g (at' sI ((0:Nat):Int)) v=(g.2.length:Int):=by
 show(0:Int)+1*(g.2.length:Int)+0*kA g g.1.length=_;omega
theorem adE (g:GR) (v:Nat):hi g (at' sI ((1:Nat):Int)) v=((row g v).length:Int) - 1:=rfl
def Hz (c:bG) (v:Nat):Int:=at' (at' c (v:Int)) 1
def Im (g:GR) (c:bG) (v:Nat):aR:=(List.range (row g v).length).map λq=>zT g c v q
def XB (g:GR) (c:bG) (v:Nat):Int:=if zS (Im g c v)<(g.1.length:Int)then Vj (wI .i64 (zS (Im g c v)+1))else(g.1.length:Int)
def YB (g:GR) (c:bG) (v:Nat):Int:=qE ((List.range (row g v).length).map λq=>AE (decide (zT g c v q=zS (Im g c v))))
def TB (g:GR) (c:bG) (v:Nat):eZ:=if v=0 then(0,-1)else(XB g c v,YB g c v)
def Fv (g:GR) (c:bG) (v:Nat):Prop:=El c v=(TB g c v).1∧Hz c v=(TB g c v).2
theorem tS (b:Bool):AE b≠0↔b=true:=by cases b<;>simp[AE]
theorem afJ (b:Bool):AE b=0↔b=false:=by cases b<;>simp[AE]
section
variable {p:tB} {g:GR} {c:List (List Int)} {v:Nat}
theorem WX:gM (aQ p g) c v exX=XB g c v:=by
 show(if AE (decide (zS (Im g c v)<(g.1.length:Int)))≠0 then Vj (wI .i64 (zS (Im g c v)+1))else(g.1.length:Int))=_;unfold XB;by_cases h:zS (Im g c v)<(g.1.length:Int)
 ·rw[if_pos h,if_pos (by rw[tS];exact decide_eq_true h)]
 ·rw[if_neg h,if_neg (by rw[tS];simpa using h)]
theorem WY:gM (aQ p g) c v exY=YB g c v:=rfl
theorem adD:gM (aQ p g) c v guT=AE (decide (AE (decide ((v:Int)=0))≠0)&&decide (AE (decide (AE (decide (El c v≠0))≠0)||decide (AE (decide (Hz c v ≠ -1))≠0))≠0)):=rfl
theorem adC:gM (aQ p g) c v guB=AE (decide (AE (decide (AE (decide ((v:Int)=0))=0))≠0)&&decide (AE (decide (AE (decide (El c v≠gM (aQ p g) c v exX))≠0)||decide (AE (decide (Hz c v≠gM (aQ p g) c v exY))≠0))≠0)):=rfl
theorem SY:gM (aQ p g) c v guT≠0↔v=0∧(El c v≠0∨Hz c v ≠ -1):=by
 rw[adD,tS,Bool.and_eq_true,decide_eq_true_eq,decide_eq_true_eq,tS,tS,Bool.or_eq_true,decide_eq_true_eq,decide_eq_true_eq,decide_eq_true_eq,tS,tS,decide_eq_true_eq,decide_eq_true_eq];constructor
 ·rintro⟨a,b⟩;exact⟨by omega,b⟩
 ·rintro⟨a,b⟩;exact⟨by omega,b⟩
theorem SX:gM (aQ p g) c v guB≠0↔v≠0∧(El c v≠XB g c v∨Hz c v≠YB g c v):=by
 rw[adC,WX,WY,tS,Bool.and_eq_true,decide_eq_true_eq,decide_eq_true_eq,tS,tS,Bool.or_eq_true,decide_eq_true_eq,decide_eq_true_eq,decide_eq_true_eq,afJ,tS,tS,decide_eq_true_eq,decide_eq_true_eq,decide_eq_false_iff_not];constructor
 ·rintro⟨a,b⟩;exact⟨by omega,b⟩
 ·rintro⟨a,b⟩;exact⟨by omega,b⟩
theorem Pv (h:0<=dK (aQ p g) RB c v):(dK (aQ p g) RB c v=0∧v=0∧¬Fv g c v)∨(dK (aQ p g) RB c v=1∧v≠0∧¬Fv g c v):=by
 obtain⟨i,k,j,l⟩:=(AP (aQ p g) RB c v).resolve_left (λe=>by omega);have j:i<2:=j
 match i,j with
 |0,_=>
  obtain⟨a,b⟩:=SY.1 l;refine .inl ⟨k,a,?_⟩;unfold Fv TB;rw[if_pos a];rintro⟨d,f⟩;rcases b with b|b
  ·exact b d
  ·exact b f
 |1,_=>
  obtain⟨a,b⟩:=SX.1 l;refine .inr ⟨k,a,?_⟩;unfold Fv TB;rw[if_neg a];rintro⟨d,f⟩;rcases b with b|b
  ·exact b d
  ·exact b f
theorem UZ (h:¬0<=dK (aQ p g) RB c v):Fv g c v:=by
 have e:dK (aQ p g) RB c v = -1:=by
  rcases AP (aQ p g) RB c v with e|⟨i,f,_⟩
  ·exact e
  ·omega
 have b:¬gM (aQ p g) c v guT≠0:=λq=>q (Fy.1 e 0 (by decide));have d:¬gM (aQ p g) c v guB≠0:=λq=>q (Fy.1 e 1 (by decide));rw[SY]at b;rw[SX]at d;unfold Fv TB;by_cases a:v=0
 ·rw[if_pos a];exact⟨Decidable.not_not.1 λq=>b ⟨a,.inl q⟩,Decidable.not_not.1 λq=>b ⟨a,.inr q⟩⟩
 ·rw[if_neg a];exact⟨Decidable.not_not.1 λq=>d ⟨a,.inl q⟩,Decidable.not_not.1 λq=>d ⟨a,.inr q⟩⟩
theorem LN:¬0<=dK (aQ p g) RB c v↔Fv g c v:=by
 refine⟨UZ,λh q=> ?_⟩
 rcases Pv q with⟨_,_,e⟩|⟨_,_,e⟩<;>exact e h
theorem aaW (b:VG g) (d:Bb g c sI) (h:v<g.2.length) {i:Nat} (e:i<(row g v).length):0<=zT g c v i∧zT g c v i<=(g.2.length:Int):=by
 obtain⟨u,f,a,_⟩:=b.port h e;rw[Er a];have:=d.ok u f 0 (by decide);rw[XG,Xr]at this;exact this
theorem Rv {x:Int} (h:x∈Im g c v):∃i,i<(row g v).length∧zT g c v i=x:=by
 obtain⟨i,b,a⟩:=List.mem_map.1 h;exact⟨i,List.mem_range.1 b,a⟩
theorem afH (d:VG g) (m:Bb g c sI) (o:v<g.2.length):0<=XB g c v∧XB g c v<=(g.2.length:Int)∧(∀i,i<(row g v).length->XB g c v<=zT g c v i+1)∧(XB g c v=(g.2.length:Int)∨∃i,i<(row g v).length∧XB g c v=zT g c v i+1):=by
 have l:=d.n24;have k:=d.len;have a:∀i,i<(row g v).length->zS (Im g c v)<=zT g c v i:=λi b=>Nh (List.mem_map.2 ⟨i,List.mem_range.2 b,rfl⟩);unfold XB;by_cases h:zS (Im g c v)<(g.1.length:Int)
 ·rw[if_pos h];rcases Ki (Im g c v)with e|e
  ·omega
  ·obtain⟨i,b,r⟩:=Rv e;have q:=aaW d m o b;have n:Vj (wI .i64 (zS (Im g c v)+1))=zS (Im g c v)+1:=by
    rw[wr (by omega) (by omega)];unfold Vj;omega
   rw[n];refine⟨by omega,by omega,λj f=> ?_,.inr ⟨i,b,by omega⟩⟩
   have:=a j f;omega
 ·rw[if_neg h];refine⟨by omega,by omega,λj f=> ?_,.inl (by omega)⟩
  have:=a j f;omega
theorem Uy (l:List Int) : -1<=qE l∧qE l<=(l.length:Int) - 1:=by
 unfold qE;cases h:l.findIdx? nz with
 |none=>dsimp only;omega
 |some i=>
  obtain⟨a,_⟩:=List.findIdx?_eq_some_iff_getElem.1 h;dsimp only;omega
theorem afI : -1<=YB g c v∧YB g c v<=((row g v).length:Int) - 1:=by
 have:=Uy ((List.range (row g v).length).map λq=>AE (decide (zT g c v q=zS (Im g c v))));rw[List.length_map,List.length_range]at this;exact this
theorem afE (d:VG g) (e:Bb g c sI) (f:v<g.2.length):(0<=(TB g c v).1∧(TB g c v).1<=(g.2.length:Int)) ∧ -1<=(TB g c v).2∧(TB g c v).2<=((row g v).length:Int) - 1:=by
 unfold TB;split
 ·dsimp only;omega
 ·obtain⟨a,b,_⟩:=afH d e f;exact⟨⟨a,b⟩,afI⟩
theorem Du {k a b x:Int} (d:a<=x) (e:x<=b):mP k (a,b) x=x:=by unfold mP;rw[if_pos ⟨d,e⟩]
theorem Zt {a:List (List Int)} (j:VG g) (l:v<g.2.length) (h:∀u,u<g.2.length->El a u=El c u):TB g a v=TB g c v:=by
 have f:∀i,i<(row g v).length->zT g a v i=zT g c v i:=λi b=>by
  obtain⟨u,k,d,_⟩:=j.port l b;rw[Er d,Er d,h u k]
 have e:Im g a v=Im g c v:=List.map_congr_left λi b=>f i (List.mem_range.1 b);have m:YB g a v=YB g c v:=by
  unfold YB;rw[e];congr 1;exact List.map_congr_left λi b=>by rw[f i (List.mem_range.1 b)]
 unfold TB;rw[m];unfold XB;rw[e]
end
def Cl (k:Nat) (x y:Int):Prop:=(y<(k:Int)->x=y)∧((k:Int)<=y->(k:Int)<=x)
def oB (g:GR) (d:aR) (v:Nat) (p:Int):Prop:=(∃i:Nat,i<(row g v).length∧p=i∧at' d (gH (row g v) i).1=D d v - 1∧∀k,k<i->¬at' d (gH (row g v) k).1=D d v - 1)∨(p = -1∧∀k,k<(row g v).length->¬at' d (gH (row g v) k).1=D d v - 1)
theorem oB.uniq {g:GR} {d:aR} {v:Nat} {p l:Int} (h:oB g d v p) (m:oB g d v l):p=l:=by
 rcases h with⟨i,a,b,c,n⟩|⟨a,b⟩<;>rcases m with⟨j,e,f,k,o⟩|⟨e,f⟩
 ·have:i=j:=by
   rcases Nat.lt_trichotomy i j with q|q|q
   ·exact absurd c (o i q)
   ·exact q
   ·exact absurd k (n j q)
  omega
 ·exact absurd c (f i a)
 ·exact absurd k (b j e)
 ·omega
section
variable {g:GR} {d:List Int} {c:List (List Int)} (hV:VG g) (hD:q_ g 0 d) (h0:∀v,v<g.2.length->0<=D d v)
 include hV hD h0
theorem agG (s:∀u,u<g.2.length->El c u=D d u) {v:Nat} (l:v<g.2.length):(TB g c v).1=D d v∧oB g d v (TB g c v).2:=by
 have J:=hV.n24;have O:=hV.n1;have I:=hV.len;have b:∀i u:Nat,(gH (row g v) i).1=(u:Int)->u<g.2.length->zT g c v i=D d u∧at' d (gH (row g v) i).1=D d u:=λi u a f=>⟨by rw[Er a];exact s u f,by rw[a]⟩
 unfold TB;by_cases q:v=0
 ·subst q;rw[if_pos Z];have Q:=(hD.zero 0 l).2 Z;refine⟨Q.symm,.inr ⟨rfl,λk G e=> ?_⟩⟩
  obtain⟨u,f,a,_⟩:=hV.port l G;rw[(b k u a f).2]at e;have:=h0 u f;omega
 ·rw[if_neg q];have z:0<D d v:=by
   have:=h0 v l;have P:D d v≠0:=λe=>q ((hD.zero v l).1 e);omega
  obtain⟨R,H,⟨B,t,A⟩,C⟩:=hD.near v l z;have n:zT g c v B=D d v - 1:=by rw[(b B R A H).1,C]
  have E:∀i,i<(row g v).length->D d v - 1<=zT g c v i:=λi F=>by
   obtain⟨u,f,a,r⟩:=hV.port l F;rw[(b i u a f).1];have:=(hD.next u f (h0 u f) v l (hV.back l r)).2;omega
  have o:zS (Im g c v)=D d v - 1:=by
   have S:zS (Im g c v)<=D d v - 1:=n▸Nh (List.mem_map.2 ⟨B,List.mem_range.2 t,rfl⟩);rcases Ki (Im g c v)with e|e
   ·have:=hD.hi v l;omega
   ·obtain⟨i,F,T⟩:=Rv e;have:=E i F;omega
  have M:=hD.hi v l;have K:XB g c v=D d v:=by
   unfold XB;rw[o,if_pos (by omega),wr (by omega) (by omega)];unfold Vj;omega
  refine⟨K,?_⟩
  show oB g d v (YB g c v);obtain⟨m,U,h,y⟩:=Gj (p:=λi=>i<(row g v).length∧zT g c v i=D d v - 1) B ⟨t,n⟩;have L:YB g c v=(m:Int):=by
   unfold YB;rw[o];refine rW (by simpa using h.1) ?_ λj N=> ?_
   ·rw[lN _ h.1,decide_eq_true h.2];simp[AE]
   ·have w:j<(row g v).length:=by omega
    rw[lN _ w,decide_eq_false λe=>y j N ⟨w,e⟩];simp[AE]
  refine .inl ⟨m,h.1,L,?_,λk G e=> ?_⟩
  ·obtain⟨u,f,a,_⟩:=hV.port l h.1;rw[(b m u a f).2,<-(b m u a f).1];exact h.2
  ·have x:k<(row g v).length:=by omega
   obtain⟨u,f,a,_⟩:=hV.port l x;rw[(b k u a f).2,<-(b k u a f).1]at e;exact y k G ⟨x,e⟩
end
structure Zb (g:GR) (d:aR) (k:Nat) (c:bG):Prop where
 near:∀v,v<g.2.length->D d v<(k:Int)->El c v=D d v∧oB g d v (Hz c v)
 far:∀v,v<g.2.length->(k:Int)<=D d v->(k:Int)<=El c v
def TrT (g:GR) (d:aR) (k:Nat) (c:bG) (v:Nat):Prop:=v<g.2.length∧((D d v<=(k:Int)∧¬(El c v=D d v∧oB g d v (Hz c v)))∨((k:Int)<D d v∧El c v<=(k:Int)))
structure TrS (g:GR) (c:bG) (t:Nat) (c':bG):Prop where
 stay:∀v,v<g.2.length->t.testBit v=false->El c' v=El c v∧Hz c' v=Hz c v
 move:∀v,v<g.2.length->t.testBit v=true->El c' v=(TB g c v).1∧Hz c' v=(TB g c v).2
section
variable {g:GR} {d:List Int} {c c':List (List Int)} {k t:Nat} (hV:VG g) (hD:q_ g 0 d) (h0:∀v,v<g.2.length->0<=D d v)
 include hV hD h0
theorem Yz (h:Zb g d k c) {v:Nat} (w:v<g.2.length):(D d v<=(k:Int)->(TB g c v).1=D d v∧oB g d v (TB g c v).2)∧((k:Int)<D d v->(k:Int)<(TB g c v).1):=by
 have P:=hV.n24;have W:=hV.n1;have O:=hV.len;have T:=hD.hi v w;have x:∀i,i<(row g v).length->∃u,u<g.2.length∧at' d (gH (row g v) i).1=D d u∧D d v - 1<=D d u∧(D d u<(k:Int)->zT g c v i=D d u)∧((k:Int)<=D d u->(k:Int)<=zT g c v i):=λi b=>by
  obtain⟨u,n,y,A⟩:=hV.port w b;have:=(hD.next u n (h0 u n) v w (hV.back w A)).2;rw[Er y,y];exact⟨u,n,rfl,by omega,λq=>(h.near u n q).1,λq=>h.far u n q⟩
 unfold TB;by_cases z:v=0
 ·subst z;rw[if_pos Z];have Y:=(hD.zero 0 w).2 Z;refine⟨λ_=>⟨Y.symm,.inr ⟨rfl,λi b e=> ?_⟩⟩,λq=>by omega⟩
  obtain⟨u,n,y,_⟩:=x i b;have:=h0 u n;omega
 rw[if_neg z];have E:0<D d v:=by
  have:=h0 v w;have X:D d v≠0:=λe=>z ((hD.zero v w).1 e);omega
 have r:zS (Im g c v)=1073741824∨∃i,i<(row g v).length∧zT g c v i=zS (Im g c v):=by
  rcases Ki (Im g c v)with e|e
  ·exact .inl e
  ·exact .inr (Rv e)
 refine⟨λU=> ?_,λU=> ?_⟩
 ·obtain⟨u0,K,⟨L,B,F⟩,H⟩:=hD.near v w E;have o:zT g c v L=D d v - 1:=by
   rw[Er F,(h.near u0 K (by omega)).1,H]
  have f:∀i,i<(row g v).length->D d v - 1<=zT g c v i∧(zT g c v i=D d v - 1↔at' d (gH (row g v) i).1=D d v - 1):=λi b=>by
   obtain⟨u,n,e,M,N,G⟩:=x i b;by_cases q:D d u<(k:Int)
   ·have:=N q;omega
   ·have:=G (by omega);omega
  have s:zS (Im g c v)=D d v - 1:=by
   have M:zS (Im g c v)<=D d v - 1:=o▸Nh (List.mem_map.2 ⟨L,List.mem_range.2 B,rfl⟩);rcases r with e|⟨i,b,S⟩
   ·omega
   ·have:=(f i b).1;omega
  have Q:XB g c v=D d v:=by
   unfold XB;rw[s,if_pos (by omega),wr (by omega) (by omega)];unfold Vj;omega
  refine⟨Q,?_⟩
  show oB g d v (YB g c v);obtain⟨m,V,a,C⟩:=Gj (p:=λi=>i<(row g v).length∧zT g c v i=D d v - 1) L ⟨B,o⟩;have R:YB g c v=(m:Int):=by
   unfold YB;rw[s];refine rW (by simpa using a.1) ?_ λj J=> ?_
   ·rw[lN _ a.1,decide_eq_true a.2];simp[AE]
   ·have l:j<(row g v).length:=by omega
    rw[lN _ l,decide_eq_false λe=>C j J ⟨l,e⟩];simp[AE]
  refine .inl ⟨m,a.1,R,((f m a.1).2).1 a.2,λj J e=> ?_⟩;have l:j<(row g v).length:=by omega
  exact C j J ⟨l,((f j l).2).2 e⟩
 ·have I:∀i,i<(row g v).length->(k:Int)<=zT g c v i:=λi b=>by
   obtain⟨u,n,e,M,N,G⟩:=x i b;exact G (by omega)
  have V:(k:Int)<=zS (Im g c v):=by
   rcases r with e|⟨i,b,S⟩
   ·omega
   ·have:=I i b;omega
  show(k:Int)<XB g c v;unfold XB;by_cases q:zS (Im g c v)<(g.1.length:Int)
  ·rw[if_pos q,wr (by omega) (by omega)];unfold Vj;omega
  ·rw[if_neg q];omega
theorem TF (h:Zb g d k c) {v:Nat} (f:TrT g d k c v):¬Fv g c v:=by
 obtain⟨m,f⟩:=f;obtain⟨a,b⟩:=Yz hV hD h0 h m;rintro⟨n,o⟩;rcases f with⟨e,i⟩|⟨e,i⟩
 ·obtain⟨j,l⟩:=a e;exact i ⟨by rw[n,j],by rw[o];exact l⟩
 ·have:=b e;omega
theorem YA (h:Zb g d k c) (l:TrS g c t c'):Zb g d k c'∧∀v,TrT g d k c' v->TrT g d k c v∧t.testBit v=false:=by
 refine⟨⟨λv e n=> ?_,λv e n=> ?_⟩,λv ⟨e,m⟩=> ?_⟩
 all_goals obtain⟨a,b⟩:=Yz hV hD h0 h e
 ·cases f:t.testBit v with
  |true=>obtain⟨i,j⟩:=l.move v e f;rw[i,j];exact a (by omega)
  |false=>obtain⟨i,j⟩:=l.stay v e f;rw[i,j];exact h.near v e n
 ·cases f:t.testBit v with
  |true=>
   rw[(l.move v e f).1];by_cases q:D d v<=(k:Int)
   ·rw[(a q).1];exact n
   ·have:=b (by omega);omega
  |false=>rw[(l.stay v e f).1];exact h.far v e n
 ·cases f:t.testBit v with
  |true=>
   exfalso;obtain⟨i,j⟩:=l.move v e f;rw[i,j]at m;rcases m with⟨o,p⟩|⟨o,p⟩
   ·exact p (a o)
   ·have:=b o;omega
  |false=>
   obtain⟨i,j⟩:=l.stay v e f;rw[i,j]at m;exact⟨⟨e,m⟩,rfl⟩
 omit hV hD in
theorem LU (b:∀v,v<g.2.length->0<=El c v):Zb g d 0 c:=⟨λv a q=>by have:=h0 v a;omega,λv a _=>b v a⟩
 omit hV hD h0 in
theorem PV (h:Zb g d k c) (e:∀v,¬TrT g d k c v):Zb g d (k+1) c:=by
  have b:∀v,v<g.2.length->(D d v<=(k:Int)->El c v=D d v∧oB g d v (Hz c v))∧((k:Int)<D d v->(k:Int)<El c v):=λv a=>
   ⟨λq=>Classical.not_not.1 λr=>e v ⟨a,.inl ⟨q,r⟩⟩,λq=>Decidable.not_not.1 λf=>e v ⟨a,.inr ⟨q,by omega⟩⟩⟩
  exact⟨λv a q=>(b v a).1 (by omega),λv a q=>by have:=(b v a).2 (by omega);omega⟩
end
theorem agp {g:GR} {a:List Df} (b:tC g a) {x:Nat} (c:x<a.length) (v:Nat):lo g (at' a (x:Int)) v<=hi g (at' a (x:Int)) v:=by
 rcases b.kind x c with k|k|k
 ·have h:=(b.range x c k).2.1;unfold lo hi at h ⊢;rw[k]at h ⊢;simpa using h
 ·unfold lo hi;rw[k];simp
 ·unfold lo hi;rw[k];simp;omega
theorem Um {g:GR} {a:List Df} (b:tC g a) {x:Nat} (c:x<a.length) (v:Nat) (y:Int):lo g (at' a (x:Int)) v<=mP (at' a (x:Int)).2.1 (mE g a v x) y∧mP (at' a (x:Int)).2.1 (mE g a v x) y<=hi g (at' a (x:Int)) v:=by
 have h:=agp b c v;unfold mP mE;dsimp only;split
 ·assumption
 ·split
  ·rename_i k;unfold lo hi;rw[k];simp;omega
  ·split<;>omega
section
variable {S:Bc} {vars:List Df} {R:List RL} {c:List (List Int)} {t v:Nat}
theorem Yp (f:tC S.2.1 vars) {a:List Int} (d:a.length=vars.length) (h:∀x,x<vars.length->lo S.2.1 (at' vars (x:Int)) v<=at' a (x:Int)∧at' a (x:Int)<=hi S.2.1 (at' vars (x:Int)) v) (s:Nat×E):
  (Fz S vars c v a s).length=vars.length∧∀x,x<vars.length->lo S.2.1 (at' vars (x:Int)) v<=at' (Fz S vars c v a s) (x:Int)∧at' (Fz S vars c v a s) (x:Int)<=hi S.2.1 (at' vars (x:Int)) v:=by
 unfold Fz;refine⟨by rw[List.length_set,d],λx b=> ?_⟩
 by_cases g:s.1<a.length
 ·rw[tF a s.1 x _ g];split
  ·rename_i e;rw[<-e];exact Um f b v _
  ·exact h x b
 ·rw[List.set_eq_of_length_le (by omega)];exact h x b
theorem LE (k:tC S.2.1 vars) (h:Bb S.2.1 c vars) (j:v<S.2.1.2.length) (i:Int):(kV S vars R c v i).length=vars.length∧∀x,x<vars.length->lo S.2.1 (at' vars (x:Int)) v<=at' (kV S vars R c v i) (x:Int)∧at' (kV S vars R c v i) (x:Int)<=hi S.2.1 (at' vars (x:Int)) v:=by
 have g:∀(l:List (Nat×E)) (d:List Int),d.length=vars.length->(∀x,x<vars.length->lo S.2.1 (at' vars (x:Int)) v<=at' d (x:Int)∧at' d (x:Int)<=hi S.2.1 (at' vars (x:Int)) v)->
   (l.foldl (Fz S vars c v) d).length=vars.length∧∀x,x<vars.length->lo S.2.1 (at' vars (x:Int)) v<=at' (l.foldl (Fz S vars c v) d) (x:Int)∧at' (l.foldl (Fz S vars c v) d) (x:Int)<=hi S.2.1 (at' vars (x:Int)) v:=by
  intro l
  induction l with
  |nil=>intro d e f;exact⟨e,f⟩
  |cons s l m=>
   intro d e f;obtain⟨a,b⟩:=Yp (c:=c) k e f s;exact m _ a b
 exact g _ _ (h.row v j) (h.ok v j)
theorem LR (e:tC S.2.1 vars) (a:Bb S.2.1 c vars):Bb S.2.1 (iA S vars R c t) vars:=by
 have d:=a.len;refine⟨by rw[LQ,d],λv b=> ?_,λv b x f=> ?_⟩
 ·rw[AS (by omega)];split
  ·exact(LE e a b _).1
  ·exact a.row v b
 ·unfold val;rw[AS (by omega)];split
  ·exact(LE e a b _).2 x f
  ·exact a.ok v b x f
end
theorem Re (a b:aR):qE (a++b)=if 0<=qE a then qE a else if 0<=qE b then(a.length:Int)+qE b else -1:=by
 unfold qE;rw[List.findIdx?_append];cases c:a.findIdx? nz with
 |some i=>simp
 |none=>
  cases d:b.findIdx? nz with
  |some i=>simp;omega
  |none=>simp
theorem ZD {c:Type} [Inhabited c] (a b:List c) {i:Nat} (h:i<a.length):at' (a++b) (i:Int)=at' a (i:Int):=by
 rw[gC,gC,List.getD_eq_getElem?_getD,List.getD_eq_getElem?_getD,List.getElem?_append_left h]
theorem ZE {c:Type} [Inhabited c] (a b:List c) (i:Nat):at' (a++b) ((a.length+i:Nat):Int)=at' b (i:Int):=by
 rw[gC,gC,List.getD_eq_getElem?_getD,List.getD_eq_getElem?_getD,List.getElem?_append_right (by omega),Nat.add_sub_cancel_left]
section
variable {S:Bc} {A B R:List RL} {vars:List Df} {c:List (List Int)} {v:Nat}
theorem LP:dK S (A++B) c v=if 0<=dK S A c v then dK S A c v else if 0<=dK S B c v then(A.length:Int)+dK S B c v else -1:=by
 unfold dK;rw[List.map_append,Re,List.length_map]
theorem RA {i:Nat} (h:i<A.length):kV S vars (A++B) c v (i:Int)=kV S vars A c v (i:Int):=by
 unfold kV;rw[ZD _ _ h]
theorem RD (i:Nat):kV S vars (A++B) c v ((A.length+i:Nat):Int)=kV S vars B c v (i:Int):=by
 unfold kV;rw[ZE]
theorem DN {i:Nat} (b:i<R.length) (d:gM S c v (at' R (i:Int)).1≠0) (f:∀j:Nat,j<i->gM S c v (at' R (j:Int)).1=0):dK S R c v=(i:Int):=by
 have e:∀j:Nat,j<R.length->at' (R.map λr=>gM S c v r.1) (j:Int)=gM S c v (at' R (j:Int)).1:=λj a=>by
  rw[lV (by simpa using a),lV a];simp
 exact rW (by simpa using b) (by rw[e i b];exact d) λj a=>by rw[e j (by omega)];exact f j a
theorem Kj {x:Nat} (j:∀r∈R,∀s∈r.2,s.1≠x) (i:Int):at' (kV S vars R c v i) (x:Int)=at' (at' c (v:Int)) (x:Int):=by
 have f:∀(l:List (Nat×E)) (b:List Int),(∀s∈l,s.1≠x)->at' (l.foldl (Fz S vars c v) b) (x:Int)=at' b (x:Int):=by
  intro l
  induction l with
  |nil=>intro b _;rfl
  |cons s l k=>
   intro b h;refine(k _ λm d=>h m (List.mem_cons_of_mem _ d)).trans ?_;unfold Fz;by_cases a:s.1<b.length
   ·rw[tF b s.1 x _ a,if_neg (λe=>h s List.mem_cons_self e.symm)]
   ·rw[List.set_eq_of_length_le (by omega)]
 refine f _ _ λs a=> ?_;unfold at' at a;by_cases g:i.toNat<R.length
 ·rw[List.getD_eq_getElem?_getD,List.getElem?_eq_getElem g,Option.getD_some]at a;exact j _ (List.getElem_mem g) s a
 ·rw[List.getD_eq_getElem?_getD,List.getElem?_eq_none (by omega),Option.getD_none]at a;cases a
end
def Hy (g:GR) (c:List (List Int)):List (List Int):=(List.range g.2.length).map λv=>[El c v,Hz c v]
section
variable {p:tB} {g:GR} {W:List Df} {R':List RL} {c:List (List Int)} {v t:Nat}
theorem To (a:v<g.2.length):El (Hy g c) v=El c v:=by
 show at' (at' (Hy g c) (v:Int)) 0=_;rw[show at' (Hy g c) (v:Int)=[El c v,Hz c v]from lN _ a];rfl
theorem aba (a:v<g.2.length):Hz (Hy g c) v=Hz c v:=by
 show at' (at' (Hy g c) (v:Int)) 1=_;rw[show at' (Hy g c) (v:Int)=[El c v,Hz c v]from lN _ a];rfl
theorem MK (d:Bb g c (sI++W)) (e:v<g.2.length):(0<=El c v∧El c v<=(g.2.length:Int)) ∧ -1<=Hz c v∧Hz c v<=((row g v).length:Int) - 1:=by
 have a:=d.ok v e 0 (by show 0<W.length+2;omega);have b:=d.ok v e 1 (by show 1<W.length+2;omega);have f:lo g (at' (sI++W) ((0:Nat):Int)) v=0:=XG g v;have h:hi g (at' (sI++W) ((0:Nat):Int)) v=(g.2.length:Int):=Xr g v;have i:lo g (at' (sI++W) ((1:Nat):Int)) v = -1:=adO g v;have j:hi g (at' (sI++W) ((1:Nat):Int)) v=((row g v).length:Int) - 1:=adE g v;rw[f,h]at a;rw[i,j]at b;exact⟨a,b⟩
theorem abb (f:Bb g c (sI++W)):Bb g (Hy g c) sI:=by
 refine⟨by simp[Hy],λu d=>by rw[show at' (Hy g c) (u:Int)=[El c u,Hz c u]from lN _ d];rfl,λu d x e=> ?_⟩
 obtain⟨a,b⟩:=MK f d;have e:x<2:=e
 match x,e with
 |0,_=>rw[XG,Xr];show 0<=El (Hy g c) u∧El (Hy g c) u<=_;rw[To d];exact a
 |1,_=>rw[adO,adE];show -1<=Hz (Hy g c) u∧Hz (Hy g c) u<=_;rw[aba d];exact b
theorem acn (a:VG g) (d:Bb g c (sI++W)) (b:v<g.2.length):(0<=(TB g c v).1∧(TB g c v).1<=(g.2.length:Int)) ∧ -1<=(TB g c v).2∧(TB g c v).2<=((row g v).length:Int) - 1:=by
 rw[<-Zt a b λu e=>To (c:=c) e];exact afE a (abb d) b
theorem abS (l:List Int) (h:2<=l.length) (x y:Int):at' ((l.set 0 x).set 1 y) 0=x∧at' ((l.set 0 x).set 1 y) 1=y:=by
 match l,h with
 |a::b::l,_=>exact⟨rfl,rfl⟩
theorem adU (r:VG g) (l:Bb g c (sI++W)) (n:v<g.2.length) (h:0<=dK (aQ p g) RB c v):at' (kV (aQ p g) (sI++W) RB c v (dK (aQ p g) RB c v)) 0=(TB g c v).1∧at' (kV (aQ p g) (sI++W) RB c v (dK (aQ p g) RB c v)) 1=(TB g c v).2:=by
 have m:2<=(at' c (v:Int)).length:=by
  have e:(at' c (v:Int)).length=W.length+2:=l.row v n;omega
 have j:mE g sI v 0=(0,(g.2.length:Int)):=by unfold mE;rw[XG,Xr]
 have k:mE g sI v 1=(-1,((row g v).length:Int) - 1):=by unfold mE;rw[adO,adE]
 obtain⟨⟨o,b⟩,q,d⟩:=acn r l n;rcases Pv h with⟨e,a,_⟩|⟨e,a,_⟩
 ·have f:kV (aQ p g) (sI++W) RB c v 0=((at' c (v:Int)).set 0 (mP 1 (mE g sI v 0) 0)).set 1 (mP 3 (mE g sI v 1) (-1)):=rfl;have i:TB g c v=(0,-1):=by unfold TB;rw[if_pos a]
  rw[i]at d b ⊢;dsimp only at d b;rw[e,f,j,k,Du (by omega) (by omega),Du (by omega) (by omega)];exact abS _ m _ _
 ·have f:kV (aQ p g) (sI++W) RB c v 1=((at' c (v:Int)).set 0 (mP 1 (mE g sI v 0) (gM (aQ p g) c v exX))).set 1 (mP 3 (mE g sI v 1) (gM (aQ p g) c v exY)):=rfl;have i:TB g c v=(XB g c v,YB g c v):=by unfold TB;rw[if_neg a]
  rw[i]at o b q d ⊢;dsimp only at o b q d;rw[e,f,j,k,WX,WY,Du (by omega) (by omega),Du (by omega) (by omega)];exact abS _ m _ _
theorem Gn (h:Fv g c v):dK (aQ p g) (RB++R') c v=if 0<=dK (aQ p g) R' c v then 2+dK (aQ p g) R' c v else -1:=by
 rw[LP,if_neg (LN.2 h)];rfl
theorem Km (h:¬Fv g c v):dK (aQ p g) (RB++R') c v=dK (aQ p g) RB c v∧0<=dK (aQ p g) RB c v:=by
 have:0<=dK (aQ p g) RB c v:=Decidable.not_not.1 λq=>h (LN.1 q);exact⟨by rw[LP,if_pos this],this⟩
theorem O_ (h:Fv g c v) (a:0<=dK (aQ p g) (RB++R') c v):0<=dK (aQ p g) R' c v∧kV (aQ p g) (sI++W) (RB++R') c v (dK (aQ p g) (RB++R') c v)=kV (aQ p g) (sI++W) R' c v (dK (aQ p g) R' c v):=by
 rw[Gn h]at a;by_cases q:0<=dK (aQ p g) R' c v
 ·refine⟨q,?_⟩
  rw[Gn h,if_pos q];obtain⟨i,b⟩:∃i:Nat,dK (aQ p g) R' c v=(i:Int):=⟨_,(Int.toNat_of_nonneg q).symm⟩
  rw[b,show(2:Int)+(i:Int)=((RB.length+i:Nat):Int) by simp[RB]];exact RD i
 ·rw[if_neg q]at a;omega
theorem aeo (u:VG g) (m:Bb g c (sI++W)) (l:∀r∈R',∀s∈r.2,2<=s.1) (j:∀v,t.testBit v=true->v<g.2.length∧0<=dK (aQ p g) (RB++R') c v):TrS g c t (iA (aQ p g) (sI++W) (RB++R') c t):=by
 have a:=m.len;refine⟨λv f b=> ?_,λv f b=> ?_⟩
 ·unfold El Hz;rw[AS (by rw[a];exact f),if_neg (by rw[b];decide)];exact⟨rfl,rfl⟩
 ·obtain⟨_,y⟩:=j v b;unfold El Hz;rw[AS (by rw[a];exact f),if_pos b];by_cases d:Fv g c v
  ·obtain⟨_,e⟩:=O_ (W:=W) d y;rw[e];have z:=Kj (S:=aQ p g) (R:=R') (vars:=sI++W) (c:=c) (v:=v) (x:=0) (λr h s k=>by have:=l r h s k;omega) (dK (aQ p g) R' c v);have A:=Kj (S:=aQ p g) (R:=R') (vars:=sI++W) (c:=c) (v:=v) (x:=1) (λr h s k=>by have:=l r h s k;omega) (dK (aQ p g) R' c v);exact⟨z.trans d.1,A.trans d.2⟩
  ·obtain⟨e,o⟩:=Km (p:=p) (R':=R') d;rw[e];obtain⟨i,n,w⟩:∃i:Nat,dK (aQ p g) RB c v=(i:Int)∧i<RB.length:=by
    rcases AP (aQ p g) RB c v with q|⟨i,B,C,_⟩
    ·omega
    ·exact⟨i,B,C⟩
   rw[n,RA w,<-n];exact adU u m f o
end
section
variable {L:Int->Int->Int->Int} {deg:Nat} {x y:E} {q:Int}
theorem wF:(E.bi 41 x y).den L deg q≠0↔x.den L deg q≠0∧y.den L deg q≠0:=by
 show AE (decide (x.den L deg q≠0)&&decide (y.den L deg q≠0))≠0↔_;rw[tS,Bool.and_eq_true,decide_eq_true_eq,decide_eq_true_eq]
theorem Q_:(E.bi 42 x y).den L deg q≠0↔x.den L deg q≠0∨y.den L deg q≠0:=by
 show AE (decide (x.den L deg q≠0)||decide (y.den L deg q≠0))≠0↔_;rw[tS,Bool.or_eq_true,decide_eq_true_eq,decide_eq_true_eq]
theorem Ck:(E.un 19 x).den L deg q≠0↔x.den L deg q=0:=by
 show AE (decide (x.den L deg q=0))≠0↔_;rw[tS,decide_eq_true_eq]
theorem JI:(E.bi 35 x y).den L deg q≠0↔x.den L deg q=y.den L deg q:=by
 show AE (decide (x.den L deg q=y.den L deg q))≠0↔_;rw[tS,decide_eq_true_eq]
theorem QZ:(E.bi 36 x y).den L deg q≠0↔x.den L deg q≠y.den L deg q:=by
 show AE (decide (x.den L deg q≠y.den L deg q))≠0↔_;rw[tS,decide_eq_true_eq]
theorem JJ:(E.ag 21 x).den L deg q≠0↔∃i:Nat,i<deg∧x.den L deg (i:Int)≠0:=by
 show AE (((List.range deg).map λi=>x.den L deg ((i:Nat):Int)).any nz)≠0↔_;rw[tS,List.any_eq_true];constructor
 ·rintro⟨z,c,b⟩;obtain⟨i,a,rfl⟩:=List.mem_map.1 c;exact⟨i,List.mem_range.1 a,by simpa [nz]using b⟩
 ·rintro⟨i,a,b⟩;exact⟨_,List.mem_map.2 ⟨i,List.mem_range.2 a,rfl⟩,by simpa [nz]using b⟩
theorem aaq:(E.ag 20 x).den L deg q≠0↔∀i:Nat,i<deg->x.den L deg (i:Int)≠0:=by
 show AE (((List.range deg).map λi=>x.den L deg ((i:Nat):Int)).all nz)≠0↔_;rw[tS,List.all_eq_true];constructor
 ·intro h i a;have:=h _ (List.mem_map.2 ⟨i,List.mem_range.2 a,rfl⟩);simpa [nz]using this
 ·intro h z b;obtain⟨i,a,rfl⟩:=List.mem_map.1 b;simpa [nz]using h i (List.mem_range.1 a)
end
def iM (c:List (List Int)) (v:Nat) (x:Int):Int:=at' (at' c (v:Int)) x
def Nj (g:GR) (c:List (List Int)) (v i:Nat) (x:Int):Int:=at' (at' c (gH (row g v) i).1) x
theorem wW {g:GR} {c:List (List Int)} {v i u:Nat} {x:Int} (h:(gH (row g v) i).1=(u:Int)):Nj g c v i x=iM c u x:=by unfold Nj iM;rw[h]
def Ro:E:= .bi 35 (.lf 11 0) (.lf 5 1)
def Xk:E:= .bi 41 (.bi 41 (.lf 10 0) (.un 19 (.lf 5 2))) (.lf 5 5)
def aaE:E:= .bi 41 (.un 19 (.lf 10 0)) (.ag 21 (.bi 41 Ro (.bi 42 (.bi 36 (.lf 12 3) (.lf 5 3)) (.bi 41 (.lf 5 2) (.un 19 (.lf 12 2))))))
def aaF:E:= .bi 41 (.lf 5 2) (.ag 20 (.bi 42 (.bi 36 (.lf 12 1) (.lf 17 0)) (.bi 41 (.un 19 (.lf 12 2)) (.bi 35 (.lf 12 3) (.lf 5 3)))))
def Xo:E:= .bi 41 (.bi 41 (.un 19 (.lf 5 2)) (.un 19 (.lf 5 5))) (.ag 21 (.bi 41 (.bi 41 (.bi 35 (.lf 12 1) (.lf 17 0)) (.lf 12 5)) (.un 19 (.lf 12 2))))
def RS:List RL:=[(guT,[(0,.lf 1 0),(1,.lf 4 0)]),(guB,[(0,exX),(1,exY)]),(Xk,[(2,.lf 2 0),(3,.un 19 (.lf 5 3)),(4,.lf 1 0),(5,.lf 3 0)]),
 (aaE,[(2,.ag 21 (.bi 41 Ro (.lf 12 2))),(3,.ag 21 (.bi 41 Ro (.lf 12 3))),(4,.lf 1 0),(5,.lf 3 0)]),(aaF,[(2,.lf 3 0)]),(Xo,[(5,.lf 2 0)])]
theorem abj:yH 6 RS=true:=by decide +kernel
section
variable {p:tB} {g:GR} {c:List (List Int)} {v:Nat}
theorem aef {a:Nat} {q:Int}:(E.lf 10 0).den (XF (aQ p g,c,(v:Int),[])) a q≠0↔v=0:=by
 show AE (decide ((v:Int)=0))≠0↔_;rw[tS,decide_eq_true_eq];omega
theorem agz {a:Nat} {q:Int}:(E.lf 10 0).den (XF (aQ p g,c,(v:Int),[])) a q=0↔v≠0:=by
 show AE (decide ((v:Int)=0))=0↔_;rw[afJ,decide_eq_false_iff_not];omega
theorem MA (d:v<g.2.length) {a i:Nat} (b:i<(row g v).length):(E.lf 17 0).den (XF (aQ p g,c,(v:Int),[])) a (i:Int)=CU g v i:=by
 show at' (at' (fL g) (v:Int)) (i:Int)=_;unfold fL;rw[lN _ d,lN _ b]
theorem Xl:gM (aQ p g) c v Xk≠0↔(v=0∧iM c v 2=0)∧iM c v 5≠0:=by
 unfold gM Xk;rw[wF,wF,Ck,aef];exact Iff.rfl
theorem Xm:gM (aQ p g) c v aaE≠0↔v≠0∧∃i:Nat,i<(row g v).length∧(i:Int)=iM c v 1∧(Nj g c v i 3≠iM c v 3∨(iM c v 2≠0∧Nj g c v i 2=0)):=by
 unfold gM aaE Ro;rw[wF,Ck,agz,JJ];simp only[wF,Q_,Ck,JI,QZ];exact Iff.rfl
theorem Xn (b:v<g.2.length):gM (aQ p g) c v aaF≠0↔iM c v 2≠0∧∀i:Nat,i<(row g v).length->Nj g c v i 1≠CU g v i∨(Nj g c v i 2=0∧Nj g c v i 3=iM c v 3):=by
 unfold gM aaF;rw[wF,aaq];simp only[wF,Q_,Ck,JI,QZ];refine and_congr Iff.rfl ⟨λh i a=> ?_,λh i a=> ?_⟩
 ·have:=h i a;rw[MA b a]at this;exact this
 ·rw[MA b a];exact h i a
theorem Xp (b:v<g.2.length):gM (aQ p g) c v Xo≠0↔(iM c v 2=0∧iM c v 5=0)∧∃i:Nat,i<(row g v).length∧(Nj g c v i 1=CU g v i∧Nj g c v i 5≠0)∧Nj g c v i 2=0:=by
 unfold gM Xo;rw[wF,wF,Ck,Ck,JJ];simp only[wF,Q_,Ck,JI,QZ];refine and_congr Iff.rfl ⟨fun⟨i,a,h⟩=>⟨i,a,?_⟩,fun⟨i,a,h⟩=>⟨i,a,?_⟩⟩
 ·rw[MA b a]at h;exact h
 ·rw[MA b a];exact h
end
end Go.Proofs.YtmdlcmbplnhdnaaGreatDoor
namespace Go.Proofs.YtmdlcmbplnhdnaaGreatDoor
structure RT (n E:Nat) (par dp:Nat->Nat):Prop where
 n1:0<n
 d0:dp 0=0
 up:∀v,v<n->v≠0->par v<n∧dp v=dp (par v)+1
 le:∀v,v<n->dp v<=E
def IF (a:Nat->Nat) (s b:Nat->Int) (v:Nat):Prop:=v≠0∧(b (a v)≠b v∨(s v≠0∧s (a v)=0))
def NH (n:Nat) (a:Nat->Nat) (s b:Nat->Int) (v:Nat):Prop:=s v≠0∧∀w,w<n->w≠0->a w=v->s w=0∧b w=b v
structure WS (n:Nat) (par:Nat->Nat) (m:Nat->Prop) (s b s' b':Nat->Int):Prop where
 stay:∀v,v<n->¬m v->s' v=s v∧b' v=b v
 take:∀v,v<n->m v->IF par s b v->s' v=s (par v)∧b' v=b (par v)
 fin:∀v,v<n->m v->¬IF par s b v->NH n par s b v->s' v=0∧b' v=b v
 oth:∀v,v<n->m v->¬IF par s b v->¬NH n par s b v->(s' v=s v∧b' v=b v)∨(v=0∧s 0=0∧s' 0≠0∧b' 0≠b 0)
def gd (a:Nat->Nat) (s b:Nat->Int) (v:Nat):Prop:=s (a v)≠0∨(s v=0∧b v=b (a v))
def AG (n:Nat) (a:Nat->Nat) (s b:Nat->Int):Prop:=∀v,v<n->v≠0->gd a s b v
def Qt (n:Nat) (s b:Nat->Int):Prop:=∀v,v<n->s v=0∧b v=b 0
def VE (n:Nat) (a:Nat->Nat) (b:Nat->Int) (j:Nat):Prop:=∀v,v<n->a v<=j->b v=b 0
def TZ (n E:Nat) (a:Nat->Nat) (s:Nat->Int) (i:Nat):Prop:=∀v,v<n->E<a v+i->s v=0
def CI (n:Nat) (a:Nat->Nat) (s b:Nat->Int):Prop:=∀v,v<n->(b v=b 0->s v=0->∀w,w<n->w≠0->a w=v->s w=0∧b w=b 0)∧(b v≠b 0->s v=0∧∀w,w<n->w≠0->a w=v->b w≠b 0)
section
variable {n E:Nat} {par dp:Nat->Nat} {m:Nat->Prop} {s b s' b':Nat->Int} (hT:RT n E par dp) (hW:WS n par m s b s' b')
theorem WS.cases (hW:WS n par m s b s' b') {v:Nat} (d:v<n):(s' v=s v∧b' v=b v)∨(m v∧IF par s b v∧s' v=s (par v)∧b' v=b (par v))∨(m v∧¬IF par s b v∧NH n par s b v∧s' v=0∧b' v=b v)∨(m v∧v=0∧s 0=0∧s' 0≠0∧b' 0≠b 0):=by
 by_cases a:m v
 ·by_cases c:IF par s b v
  ·exact .inr (.inl ⟨a,c,hW.take v d a c⟩)
  ·by_cases e:NH n par s b v
   ·exact .inr (.inr (.inl ⟨a,c,e,hW.fin v d a c e⟩))
   ·rcases hW.oth v d a c e with h|h
    ·exact .inl h
    ·exact .inr (.inr (.inr ⟨a,h⟩))
 ·exact .inl (hW.stay v d a)
theorem WS.rest (hW:WS n par m s b s' b') {v:Nat} (e:v<n) (c:v≠0) (a:s v=0) (d:b v=b (par v)):s' v=s v∧b' v=b v:=by
 rcases hW.cases e with h|⟨_,h,_⟩|⟨_,_,h,_⟩|⟨_,h,_⟩
 ·exact h
 ·rcases h.2 with q|q
  ·exact absurd d.symm q
  ·exact absurd a q.1
 ·exact absurd a h.1
 ·exact absurd h c
theorem RE {v:Nat} (c:v≠0) (h:¬gd par s b v):IF par s b v:=by
 refine⟨c,?_⟩
 by_cases a:b (par v)=b v
 ·refine .inr ⟨λq=>h (.inr ⟨q,a.symm⟩),Decidable.not_not.1 λq=>h (.inl q)⟩
 ·exact .inl a
 include hT hW
theorem IN {v:Nat} (i:v<n) (g:v≠0) (x:par v=0∨gd par s b (par v)) (h:gd par s b v∨m v):gd par s' b' v:=by
 obtain⟨o,_⟩:=hT.up v i g;rcases hW.cases o with⟨d,k⟩|⟨_,t,d,_⟩|⟨_,_,w,d,k⟩|⟨_,u,_,d,_⟩
 ·unfold gd;rw[d,k];by_cases l:s (par v)=0
  ·right;have j:gd par s b v->s' v=0∧b' v=b (par v):=λh=>by
    rcases h with q|⟨a,c⟩
    ·exact absurd l q
    ·obtain⟨e,f⟩:=hW.rest i g a c;rw[e,f];exact⟨a,c⟩
   rcases h with h|h
   ·exact j h
   ·by_cases p:gd par s b v
    ·exact j p
    ·obtain⟨e,f⟩:=hW.take v i h (RE g p);rw[e,f];exact⟨l,rfl⟩
  ·exact .inl l
 ·left;rw[d];rcases x with q|q|⟨a,c⟩
  ·exact absurd q t.1
  ·exact q
  ·rcases t.2 with r|r
   ·exact absurd c.symm r
   ·exact absurd a r.1
 ·obtain⟨a,c⟩:=w.2 v i g Z;obtain⟨e,f⟩:=hW.rest i g a c;exact .inr ⟨by rw[e,a],by rw[f,k,c]⟩
 ·left;rw[u];exact d
theorem FW (h:AG n par s b):AG n par s' b':=λv c a=>by
 refine IN hT hW c a ?_ (.inl (h v c a));by_cases e:par v=0
 ·exact .inl e
 ·exact .inr (h _ (hT.up v c a).1 e)
 omit hW
theorem Yh (h:AG n par s b) (g:s 0=0):Qt n s b:=by
 have c:∀k v,v<n->dp v=k->s v=0∧b v=b 0:=by
  intro k
  induction k with
  |zero=>
   intro v a i;by_cases e:v=0
   ·subst e;exact⟨g,rfl⟩
   ·have:=(hT.up v a e).2;omega
  |succ k o=>
   intro v a i;have e:v≠0:=λe=>by subst e;have:=hT.d0;omega
   obtain⟨l,j⟩:=hT.up v a e;obtain⟨d,f⟩:=o _ l (by omega);rcases h v a e with q|⟨p,r⟩
   ·exact absurd d q
   ·exact⟨p,by rw[r,f]⟩
 exact λv a=>c _ v a Z
 omit hT in
theorem Qt.ag (h:Qt n s b) (hT:RT n E par dp):AG n par s b:=λv a c=> .inr ⟨(h v a).1,by rw[(h v a).2,(h _ (hT.up v a c).1).2]⟩
 include hW
theorem HB (h:AG n par s b) (d:s 0≠0):(s' 0=s 0∧b' 0=b 0)∨(m 0∧NH n par s b 0∧s' 0=0∧b' 0=b 0∧Qt n s' b'):=by
 rcases hW.cases hT.n1 with e|⟨_,e,_⟩|⟨g,_,f,a,c⟩|⟨_,_,e,_⟩
 ·exact .inl e
 ·exact absurd Z e.1
 ·exact .inr ⟨g,f,a,c,Yh hT (FW hT hW h) a⟩
 ·exact absurd e d
theorem OS {j:Nat} (h:VE n dp b j) (f:b' 0=b 0):VE n dp b' j:=λv c d=>by
 rw[f];rcases hW.cases c with e|⟨_,g,_,e⟩|⟨_,_,_,_,e⟩|⟨_,e,_⟩
 ·rw[e.2];exact h v c d
 ·rw[e];obtain⟨a,i⟩:=hT.up v c g.1;exact h _ a (by omega)
 ·rw[e];exact h v c d
 ·rw[e,f]
theorem XE {j v:Nat} (h:VE n dp b j) (k:b' 0=b 0) (f:v<n) (r:dp v<=j+1):(b v≠b 0->IF par s b v)∧(b' v≠b' 0->b v≠b 0∧¬m v):=by
 have g:b v≠b 0->IF par s b v:=λd=>by
  have e:v≠0:=λe=>d (by rw[e]);obtain⟨a,o⟩:=hT.up v f e;exact⟨e,.inl λq=>d (by rw[<-q];exact h _ a (by omega))⟩
 refine⟨g,λd=> ?_⟩
 rw[k]at d;have l:IF par s b v->b (par v)=b 0:=λi=>by
  obtain⟨a,o⟩:=hT.up v f i.1;exact h _ a (by omega)
 have c:b v≠b 0:=λq=>d (by
  rcases hW.cases f with e|⟨_,i,_,e⟩|⟨_,_,_,_,e⟩|⟨_,e,_⟩
  ·rw[e.2,q]
  ·rw[e,l i]
  ·rw[e,q]
  ·rw[e,k])
 exact⟨c,λp=>d (by rw[(hW.take v f p (g c)).2,l (g c)])⟩
theorem XJ {i:Nat} (f:VE n dp b E) (h:TZ n E dp s i) (g:s 0≠0):TZ n E dp s' i:=λv c j=>by
 have d:=h v c j;have e:v≠0:=λe=>g (by rw[<-e];exact d);obtain⟨a,_⟩:=hT.up v c e;rw[(hW.rest c e d (by rw[f v c (hT.le v c),f _ a (hT.le _ a)])).1,d]
theorem XI {i v:Nat} (t:AG n par s b) (u:VE n dp b E) (h:TZ n E dp s i) (d:v<n) (y:E<dp v+(i+1)):(s v≠0->NH n par s b v)∧(s 0≠0->s' v≠0->s v≠0∧¬m v):=by
 have c:∀w,w<n->b w=b 0:=λw f=>u w f (hT.le w f);have o:s v≠0->NH n par s b v:=λj=>⟨j,λw f l e=>by
  obtain⟨_,p⟩:=hT.up w f l;rw[e]at p;exact⟨h w f (by omega),by rw[c w f,c v d]⟩⟩
 refine⟨o,λl j=> ?_⟩
 have g:s v≠0:=λq=>j (by
  have e:v≠0:=λe=>l (by rw[<-e];exact q);obtain⟨a,_⟩:=hT.up v d e;rw[(hW.rest d e q (by rw[c v d,c _ a])).1,q])
 refine⟨g,λx=>j ?_⟩
 by_cases k:IF par s b v
 ·obtain⟨a,_⟩:=hT.up v d k.1;rcases k.2 with q|q
  ·exact absurd (by rw[c v d,c _ a]) q
  ·rcases t v d k.1 with r|r
   ·exact absurd q.2 r
   ·exact absurd r.1 q.1
 ·exact(hW.fin v d x k (o g)).1
theorem aal (I:AG n par s b) (h:CI n par s b) (G:b' 0=b 0):CI n par s' b':=λv j=>by
 rw[G]
 -- a child of a finished node stays as it is
 have y:∀w,w<n->w≠0->∀x,par w=x->b x=b 0->s w=0->b w=b 0->s' w=0∧b' w=b 0:=λw f d x e C D t=>by
  obtain⟨o,p⟩:=hW.rest f d D (by rw[e,t,C]);rw[o,p];exact⟨D,t⟩
 have k:∀w,w<n->w≠0->b (par w)≠b 0->b w≠b 0->b' w≠b 0:=λw f d C t=>by
  rcases hW.cases f with e|⟨_,_,_,e⟩|⟨_,_,_,_,e⟩|⟨_,e,_⟩
  ·rw[e.2];exact t
  ·rw[e];exact C
  ·rw[e];exact t
  ·exact absurd e d
 rcases hW.cases j with⟨l,i⟩|⟨_,u,l,i⟩|⟨_,_,F,l,i⟩|⟨_,e,J,l,i⟩
 ·refine⟨λc z w f d e=> ?_,λc=>⟨?_,λw f d e=> ?_⟩⟩
  ·rw[l]at z;rw[i]at c;obtain⟨o,p⟩:=(h v j).1 c z w f d e;exact y w f d v e c o p
  ·rw[l];rw[i]at c;exact((h v j).2 c).1
  ·rw[i]at c;exact k w f d (by rw[e];exact c) (((h v j).2 c).2 w f d e)
 ·obtain⟨H,_⟩:=hT.up v j u.1;have A:b (par v)≠b v:=u.2.resolve_right λq=>by
   rcases I v j u.1 with r|r
   ·exact r q.2
   ·exact q.1 r.1
  by_cases g:b (par v)=b 0
  ·have B:s (par v)≠0:=λq=>A (by rw[((h _ H).1 g q v j u.1 Z).2,g]);exact⟨λ_ z=>absurd (by rw[<-l];exact z) B,λc=>absurd (by rw[i];exact g) c⟩
  ·obtain⟨o,p⟩:=(h _ H).2 g;refine⟨λc=>absurd (by rw[<-i];exact c) g,λ_=>⟨by rw[l];exact o,λw f d e=> ?_⟩⟩
   have c:=p v j u.1 Z;exact k w f d (by rw[e];exact c) (((h v j).2 c).2 w f d e)
 ·have c:b v=b 0:=Decidable.not_not.1 λq=>F.1 ((h v j).2 q).1;refine⟨λ_ _ w f d e=> ?_,λq=>absurd (by rw[i];exact c) q⟩
  obtain⟨o,p⟩:=F.2 w f d e;exact y w f d v e c o (by rw[p,c])
 ·exact absurd G i
 omit hW
theorem aak (h:CI n par s b) (o:NH n par s b 0):∀v,v<n->v≠0->s v=0∧b v=b 0:=by
 have d:∀k v,v<n->v≠0->dp v=k->s v=0∧b v=b 0:=by
  intro k
  induction k with
  |zero=>intro v c a j;have:=(hT.up v c a).2;omega
  | succ k ih =>
   intro v c a j;obtain⟨f,l⟩:=hT.up v c a;by_cases e:par v=0
   ·exact o.2 v c a e
   ·obtain⟨g,i⟩:=ih _ f e (by omega);exact(h _ f).1 i g v c a Z
 exact λv c a=>d _ v c a Z
 include hW
theorem WB (h:Qt n s b) (k:s' 0≠0) (i:b' 0≠b 0):CI n par s' b'∧VE n dp b' 0∧AG n par s' b':=by
 have j:∀v,v<n->v≠0->s' v=0∧b' v=b 0:=λv c d=>by
  obtain⟨a,_⟩:=hT.up v c d;obtain⟨f,g⟩:=hW.rest c d (h v c).1 (by rw[(h v c).2,(h _ a).2]);rw[f,g];exact h v c
 refine⟨λv c=> ?_,λv c o=> ?_,FW hT hW (h.ag hT)⟩
 ·by_cases e:v=0
  ·subst e;exact⟨λ_ q=>absurd q k,λq=>absurd Z q⟩
  ·obtain⟨f,g⟩:=j v c e;refine⟨λq=>absurd (by rw[<-q,g]) i,λ_=>⟨f,λw l d _ q=>i ?_⟩⟩
   rw[<-q,(j w l d).2]
 ·by_cases e:v=0
  ·rw[e]
  ·have:=(hT.up v c e).2;omega
theorem abc (h:Qt n s b) (f:s' 0=s 0) (d:b' 0=b 0):Qt n s' b':=λv c=>by
 by_cases e:v=0
 ·subst e;exact⟨by rw[f];exact(h 0 c).1,rfl⟩
 ·obtain⟨a,_⟩:=hT.up v c e;obtain⟨g,i⟩:=hW.rest c e (h v c).1 (by rw[(h v c).2,(h _ a).2]);rw[g,i,d];exact h v c
end
end Go.Proofs.YtmdlcmbplnhdnaaGreatDoor
namespace Go.Proofs.YtmdlcmbplnhdnaaGreatDoor
open Go Go.Sx
structure TP (g:GR) (d:aR) (par fp:Nat->Nat):Prop where
 at_:∀v,v<g.2.length->v≠0->fp v<(row g v).length∧oB g d v (fp v:Int)∧(gH (row g v) (fp v)).1=(par v:Int)∧par v<g.2.length∧D d (par v)=D d v - 1
def Fe (g:GR) (d:aR) (c:bG):Prop:=∀v,v<g.2.length->El c v=D d v∧oB g d v (Hz c v)
def sC (c:bG) (v:Nat):Int:=iM c v 2
def bC (c:bG) (v:Nat):Int:=iM c v 3
section
variable {g:GR} {d:List Int} {c:List (List Int)} (hV:VG g) (hD:q_ g 0 d) (h0:∀v,v<g.2.length->0<=D d v)
 include hV
theorem Hx {v i u:Nat} (f:v<g.2.length) (a:i<(row g v).length) (b:(gH (row g v) i).1=(u:Int)):AN (row g v) (u:Int)=(i:Int):=
 Ib i a b λk e=>by
  have:=((hV.node v f).links i a).2.2.2 k e;rwa[b]at this
 include hD h0
theorem agK:∃x y:Nat->Nat,TP g d x y:=by
 have n:∀v,∃u f:Nat,v<g.2.length->v≠0->f<(row g v).length∧oB g d v (f:Int)∧(gH (row g v) f).1=(u:Int)∧u<g.2.length∧D d u=D d v - 1:=λv=>by
  by_cases j:v<g.2.length∧v≠0
  ·obtain⟨j,l⟩:=j;have o:0<D d v:=by
    have:=h0 v j;have A:D d v≠0:=λe=>l ((hD.zero v j).1 e);omega
   obtain⟨G,C,⟨E,t,r⟩,s⟩:=hD.near v j o;obtain⟨m,F,h,w⟩:=Gj (p:=λi=>i<(row g v).length∧at' d (gH (row g v) i).1=D d v - 1) E ⟨t,by rw[r];exact s⟩;obtain⟨u,B,q,_⟩:=hV.port j h.1;refine⟨u,m,λ_ _=>⟨h.1,.inl ⟨m,h.1,rfl,h.2,λk z e=>w k z ⟨by omega,e⟩⟩,q,B,?_⟩⟩
   have:=h.2;rw[q]at this;exact this
  ·exact⟨0,0,λa b=>absurd ⟨a,b⟩ j⟩
 refine⟨λv=>(n v).choose,λv=>(n v).choose_spec.choose,⟨λv j l=>(n v).choose_spec.choose_spec j l⟩⟩
 omit hV hD h0 in
theorem LS {k:Nat} (h:Zb g d k c) (b:∀v,v<g.2.length->D d v<(k:Int)):Fe g d c:=λv a=>h.near v a (b v a)
theorem IZ (h:Fe g d c) {v:Nat} (e:v<g.2.length):Fv g c v:=by
 obtain⟨a,b⟩:=agG hV hD h0 (λu f=>(h u f).1) e;exact⟨by rw[a];exact(h v e).1,(h v e).2.uniq b⟩
 omit h0 in
theorem UQ (h0:∀v,v<g.2.length->0<=D d v) (h:∀v,v<g.2.length->0<=El c v) (i:∀v,v<g.2.length->Fv g c v):Fe g d c:=by
  have f:=hV.n24;have a:∀k:Nat,Zb g d k c:=by
   intro k
   induction k with
   |zero=>exact LU h0 h
   |succ k e=>exact PV e λv b=>TF hV hD h0 e b (i v b.1)
  exact LS (a (g.2.length+1)) λv j=>by have:=hD.hi v j;omega
 omit h0 in
theorem Yf (h0:∀v,v<g.2.length->0<=D d v) (h:Fe g d c):Hz c 0 = -1:=by
  have k:=hV.n1;rcases(h 0 (by omega)).2 with⟨i,e,_,a,_⟩|⟨a,_⟩
  ·obtain⟨u,f,b,_⟩:=hV.port (v:=0) (by omega) e;rw[b]at a;have j:D d u=D d 0 - 1:=a;have:=(hD.zero 0 (by omega)).2 Z;have:=h0 u f;omega
  ·exact a
variable {par fp:Nat->Nat} (hP:TP g d par fp)
 include hP
theorem Tw {E:Nat} (h:∀v,v<g.2.length->D d v<=(E:Int)):RT g.2.length E par (λv=>(D d v).toNat):=by
 have i:=hV.n1;refine⟨by omega,?_,λv e f=> ?_,λv e=> ?_⟩
 ·rw[(hD.zero 0 (by omega)).2 Z];rfl
 ·obtain⟨_,_,_,a,b⟩:=hP.at_ v e f;have:=h0 _ a;exact⟨a,by rw[b];omega⟩
 ·have:=h v e;omega
 omit hV hD h0 in
theorem Kq (h:Fe g d c) {v:Nat} (b:v<g.2.length) (a:v≠0):Hz c v=(fp v:Int):=(h v b).2.uniq (hP.at_ v b a).2.1
theorem IS (h:Fe g d c) {v i u:Nat} (r:v<g.2.length) (t:i<(row g v).length) (n:(gH (row g v) i).1=(u:Int)):Nj g c v i 1=CU g v i↔u≠0∧par u=v:=by
 obtain⟨w,j,p,l⟩:=hV.port r t;obtain rfl:u=w:=by omega
 obtain⟨k,o,m⟩:=hV.back r l;have s:CU g v i=(k:Int):=by
  unfold CU;rw[n,Int.toNat_natCast];exact Hx hV j o m
 rw[wW n,s,show iM c u 1=Hz c u from rfl];constructor
 ·intro e;have f:u≠0:=λq=>by
   subst q;rw[Yf hV hD h0 h]at e;omega
  rw[Kq hP h j f]at e;have:fp u=k:=by omega
  subst this;have:=(hP.at_ u j f).2.2.1;exact⟨f,by omega⟩
 ·rintro⟨f,e⟩;rw[Kq hP h j f];obtain⟨a,_,b,_⟩:=hP.at_ u j f;rw[e]at b;have x:=Hx hV j a b;have y:=Hx hV j o m;omega
 omit hV hD h0 in
theorem Yy (h:Fe g d c) {v:Nat} (f:v<g.2.length):(v≠0∧∃i:Nat,i<(row g v).length∧(i:Int)=iM c v 1∧(Nj g c v i 3≠iM c v 3∨(iM c v 2≠0∧Nj g c v i 2=0)))↔IF par (sC c) (bC c) v:=by
  constructor
  ·rintro⟨e,i,k,l,j⟩;have:iM c v 1=(fp v:Int):=Kq hP h f e;obtain rfl:i=fp v:=by omega
   have b:=(hP.at_ v f e).2.2.1;rw[wW b,wW b]at j;exact⟨e,j⟩
  ·rintro⟨e,j⟩;obtain⟨a,_,b,_⟩:=hP.at_ v f e;refine⟨e,fp v,a,(Kq hP h f e).symm,?_⟩
   rw[wW b,wW b];exact j
theorem aay (h:Fe g d c) {v:Nat} (o:v<g.2.length):(iM c v 2≠0∧∀i:Nat,i<(row g v).length->Nj g c v i 1≠CU g v i∨(Nj g c v i 2=0∧Nj g c v i 3=iM c v 3))↔NH g.2.length par (sC c) (bC c) v:=by
 constructor
 ·rintro⟨n,p⟩;refine⟨n,λw r m e=> ?_⟩
  obtain⟨a,_,f,_⟩:=hP.at_ w r m;rw[e]at f;obtain⟨i,l,j⟩:=hV.back r ⟨fp w,a,f⟩;have s:=(IS hV hD h0 hP h o l j).2 ⟨m,e⟩;have:=(p i l).resolve_left λq=>q s;rw[wW j,wW j]at this;exact this
 ·rintro⟨n,p⟩;refine⟨n,λi l=> ?_⟩
  obtain⟨u,t,k,_⟩:=hV.port o l;by_cases q:Nj g c v i 1=CU g v i
  ·obtain⟨a,b⟩:=(IS hV hD h0 hP h o l k).1 q;refine .inr ?_;rw[wW k,wW k];exact p u t a b
  ·exact .inl q
 omit hV hD h0 in
theorem PI (h:Fe g d c) {v:Nat} (q:v<g.2.length) (l:v≠0) (p:tB) (x:Nat) (s:iM c (par v) x=0∨iM c (par v) x=1):gM (aQ p g) c v (.ag 21 (.bi 41 Ro (.lf 12 x)))=iM c (par v) x:=by
  obtain⟨a,_,f,_⟩:=hP.at_ v q l;have r:iM c v 1=(fp v:Int):=Kq hP h q l;have j:∀b:Bool,(b=true↔iM c (par v) x≠0)->AE b=iM c (par v) x:=λb j=>by
   rcases s with e|e
   ·rw[e]at j ⊢;have:b=false:=by cases b with|true=>exact absurd Z (j.1 Z)|false=>rfl
    rw[this];rfl
   ·rw[e]at j ⊢;rw[j.2 (by decide)];rfl
  have m:gM (aQ p g) c v (.ag 21 (.bi 41 Ro (.lf 12 x)))≠0↔iM c (par v) x≠0:=by
   unfold gM;rw[JJ];constructor
   ·rintro⟨i,t,k⟩;unfold Ro at k;rw[wF,JI]at k;have e:(i:Int)=iM c v 1:=k.1;obtain rfl:i=fp v:=by omega
    have o:Nj g c v (fp v) x≠0:=k.2;rw[wW f]at o;exact o
   ·intro k;refine⟨fp v,a,?_⟩
    unfold Ro;rw[wF,JI];refine⟨r.symm,?_⟩
    show Nj g c v (fp v) x≠0;rw[wW f];exact k
  have n:∃b:Bool,gM (aQ p g) c v (.ag 21 (.bi 41 Ro (.lf 12 x)))=AE b:=⟨_,rfl⟩
  obtain⟨b,e⟩:=n;rw[e];rw[e,tS]at m;exact j b m
end
def Qh:List Df:=[(ByteArray.mk #[115],2,0,0,0,0),(ByteArray.mk #[98],2,0,0,0,0),(ByteArray.mk #[121],1,0,3,0,0),(ByteArray.mk #[114],2,0,0,0,0)]
def dZ:List Df:=sI++Qh
def RW:List RL:=[(Xk,[(2,.lf 2 0),(3,.un 19 (.lf 5 3)),(4,.lf 1 0),(5,.lf 3 0)]),
 (aaE,[(2,.ag 21 (.bi 41 Ro (.lf 12 2))),(3,.ag 21 (.bi 41 Ro (.lf 12 3))),(4,.lf 1 0),(5,.lf 3 0)]),(aaF,[(2,.lf 3 0)]),(Xo,[(5,.lf 2 0)])]
theorem Jm:RS=RB++RW:=rfl
theorem afz:∀r∈RW,∀s∈r.2,2<=s.1:=by decide
theorem ajs {l:aR} (h:l.length=6):l=[at' l 0,at' l 1,at' l 2,at' l 3,at' l 4,at' l 5]:=by
 match l,h with
 | [a,b,c,d,e,f],_=>rfl
theorem tT {k a b x:Int} (h:a<=x∧x<=b):mP k (a,b) x=x:=Du h.1 h.2
section
variable {p:tB} {g:GR} {c:List (List Int)} {v t:Nat}
theorem abh (a:Bb g c dZ) (b:v<g.2.length):(iM c v 2=0∨iM c v 2=1)∧(iM c v 3=0∨iM c v 3=1)∧(0<=iM c v 4∧iM c v 4<=3)∧(iM c v 5=0∨iM c v 5=1):=by
 have f:=a.ok v b 2 (by decide);have h:=a.ok v b 3 (by decide);have i:=a.ok v b 4 (by decide);have j:=a.ok v b 5 (by decide);have k:0<=iM c v 2∧iM c v 2<=1:=f;have l:0<=iM c v 3∧iM c v 3<=1:=h;have d:0<=iM c v 4∧iM c v 4<=hi g (at' dZ ((4:Nat):Int)) v:=i;have e:hi g (at' dZ ((4:Nat):Int)) v=3:=by
  show(3:Int)+0*(g.2.length:Int)+0*kA g g.1.length=3;omega
 rw[e]at d;have m:0<=iM c v 5∧iM c v 5<=1:=j;omega
theorem afT (g:GR) (v:Nat):mE g dZ v 2=(0,1)∧mE g dZ v 3=(0,1)∧mE g dZ v 4=(0,3)∧mE g dZ v 5=(0,1):=by
 refine⟨rfl,rfl,?_,rfl⟩
 show((0:Int),(3:Int)+0*(g.2.length:Int)+0*kA g g.1.length)=(0,3)
 congr 1;omega
theorem ags (o:Bb g c dZ) (q:v<g.2.length):
  kV (aQ p g) dZ RW c v 0=[iM c v 0,iM c v 1,1,AE (decide (iM c v 3=0)),0,0]∧
  (∀s b,gM (aQ p g) c v (.ag 21 (.bi 41 Ro (.lf 12 2)))=s->gM (aQ p g) c v (.ag 21 (.bi 41 Ro (.lf 12 3)))=b->0<=s∧s<=1->0<=b∧b<=1->kV (aQ p g) dZ RW c v 1=[iM c v 0,iM c v 1,s,b,0,0])∧
  kV (aQ p g) dZ RW c v 2=[iM c v 0,iM c v 1,0,iM c v 3,iM c v 4,iM c v 5]∧
  kV (aQ p g) dZ RW c v 3=[iM c v 0,iM c v 1,iM c v 2,iM c v 3,iM c v 4,1]:=by
 have a:(at' c (v:Int)).length=6:=o.row v q;have d:=ajs a;obtain⟨e,h,i,f⟩:=afT g v;have r:kV (aQ p g) dZ RW c v 0=((((at' c (v:Int)).set 2 (mP 2 (mE g dZ v 2) 1)).set 3 (mP 2 (mE g dZ v 3) (AE (decide (iM c v 3=0))))).set 4 (mP 1 (mE g dZ v 4) 0)).set 5 (mP 2 (mE g dZ v 5) 0):=rfl;have u:kV (aQ p g) dZ RW c v 1=((((at' c (v:Int)).set 2 (mP 2 (mE g dZ v 2) (gM (aQ p g) c v (.ag 21 (.bi 41 Ro (.lf 12 2)))))).set 3 (mP 2 (mE g dZ v 3) (gM (aQ p g) c v (.ag 21 (.bi 41 Ro (.lf 12 3)))))).set 4 (mP 1 (mE g dZ v 4) 0)).set 5 (mP 2 (mE g dZ v 5) 0):=rfl;have w:kV (aQ p g) dZ RW c v 2=(at' c (v:Int)).set 2 (mP 2 (mE g dZ v 2) 0):=rfl;have x:kV (aQ p g) dZ RW c v 3=(at' c (v:Int)).set 5 (mP 2 (mE g dZ v 5) 1):=rfl;have n:∀b:Bool,0<=AE b∧AE b<=1:=λb=>by cases b<;>decide
 refine⟨?_,λs b j k l m=> ?_,?_,?_⟩
 ·rw[r,e,h,i,f,tT (by omega),tT (n _),tT (by omega),tT (by omega),d];rfl
 ·rw[u,e,h,i,f,j,k,tT l,tT m,tT (by omega),tT (by omega),d];rfl
 ·rw[w,e,tT (by omega),d];rfl
 ·rw[x,f,tT (by omega),d];rfl
variable {d:List Int} (hV:VG g) (hD:q_ g 0 d) (h0:∀v,v<g.2.length->0<=D d v) {par fp:Nat->Nat} (hP:TP g d par fp)
 include hV hD h0 hP
theorem enS (G:Fe g d c) (o:v<g.2.length):(0<=dK (aQ p g) RW c v↔(v=0∧iM c v 2=0∧iM c v 5≠0)∨IF par (sC c) (bC c) v∨NH g.2.length par (sC c) (bC c) v∨(iM c v 2=0∧iM c v 5=0∧∃w,w<g.2.length∧w≠0∧par w=v∧iM c w 5≠0∧iM c w 2=0))∧
  ((v=0∧iM c v 2=0∧iM c v 5≠0)->dK (aQ p g) RW c v=0)∧(IF par (sC c) (bC c) v->dK (aQ p g) RW c v=1)∧(¬IF par (sC c) (bC c) v->NH g.2.length par (sC c) (bC c) v->dK (aQ p g) RW c v=2)∧
  (¬(v=0∧iM c v 2=0∧iM c v 5≠0)->¬IF par (sC c) (bC c) v->¬NH g.2.length par (sC c) (bC c) v->0<=dK (aQ p g) RW c v->dK (aQ p g) RW c v=3):=by
 have C:=Xl (p:=p) (g:=g) (c:=c) (v:=v);have F:=(Xm (p:=p) (g:=g) (c:=c) (v:=v)).trans (Yy hP G o);have H:=(Xn (p:=p) (g:=g) (c:=c) o).trans (aay hV hD h0 hP G o);have M:gM (aQ p g) c v Xo≠0↔(iM c v 2=0∧iM c v 5=0∧∃w,w<g.2.length∧w≠0∧par w=v∧iM c w 5≠0∧iM c w 2=0):=by
  rw[Xp o];constructor
  ·rintro⟨⟨x,f⟩,i,k,⟨b,y⟩,l⟩;obtain⟨u,Q,z,_⟩:=hV.port o k;obtain⟨r,s⟩:=(IS hV hD h0 hP G o k z).1 b;rw[wW z]at y l;exact⟨x,f,u,Q,r,s,y,l⟩
  ·rintro⟨x,f,w,N,A,e,y,l⟩;obtain⟨a,_,m,_⟩:=hP.at_ w N A;rw[e]at m;obtain⟨i,k,n⟩:=hV.back N ⟨fp w,a,m⟩;exact⟨⟨x,f⟩,i,k,⟨(IS hV hD h0 hP G o k n).2 ⟨A,e⟩,by rw[wW n];exact y⟩,by rw[wW n];exact l⟩
 have P:∀{e:E},¬gM (aQ p g) c v e≠0->gM (aQ p g) c v e=0:=λh=>Decidable.not_not.1 h;have J:(v=0∧iM c v 2=0∧iM c v 5≠0)->dK (aQ p g) RW c v=0:=λh=>DN (i:=0) (by decide) (C.2 ⟨⟨h.1,h.2.1⟩,h.2.2⟩) λj I=>by omega
 have O:¬(v=0∧iM c v 2=0∧iM c v 5≠0)->gM (aQ p g) c v Xk=0:=λh=>P λq=>h (by obtain⟨⟨r,s⟩,B⟩:=C.1 q;exact⟨r,s,B⟩);have K:IF par (sC c) (bC c) v->dK (aQ p g) RW c v=1:=λh=>DN (i:=1) (by decide) (F.2 h) λj I=>by
  obtain rfl:j=0:=by omega
  exact O λq=>h.1 q.1
 have L:¬IF par (sC c) (bC c) v->NH g.2.length par (sC c) (bC c) v->dK (aQ p g) RW c v=2:=λb h=>DN (i:=2) (by decide) (H.2 h) λj I=>by
  match j,I with
  |0,_=>exact O λq=>h.1 q.2.1
  |1,_=>exact P λq=>b (F.1 q)
 refine⟨⟨λh=> ?_,λh=> ?_⟩,J,K,L,λf b y h=> ?_⟩
 ·obtain⟨i,x,f,b⟩:=(AP (aQ p g) RW c v).resolve_left (λe=>by omega);have f:i<4:=f
  match i,f with
  |0,_=>obtain⟨⟨r,s⟩,B⟩:=C.1 b;exact .inl ⟨r,s,B⟩
  |1,_=>exact .inr (.inl (F.1 b))
  |2,_=>exact .inr (.inr (.inl (H.1 b)))
  |3,_=>exact .inr (.inr (.inr (M.1 b)))
 ·by_cases b:IF par (sC c) (bC c) v
  ·rw[K b];decide
  ·rcases h with h|h|h|h
   ·rw[J h];decide
   ·exact absurd h b
   ·rw[L b h];decide
   ·refine Decidable.not_not.1 λq=> ?_;rcases AP (aQ p g) RW c v with e|⟨i,e,_⟩
    ·exact M.2 h (Fy.1 e 3 (by decide))
    ·omega
 ·obtain⟨i,x,k,l⟩:=(AP (aQ p g) RW c v).resolve_left (λe=>by omega);have k:i<4:=k
  match i,k with
  |0,_=>obtain⟨⟨r,s⟩,B⟩:=C.1 l;exact absurd ⟨r,s,B⟩ f
  |1,_=>exact absurd (F.1 l) b
  |2,_=>exact absurd (H.1 l) y
  |3,_=>exact x
end
def yC (c:bG) (v:Nat):Int:=iM c v 4
def rC (c:bG) (v:Nat):Int:=iM c v 5
def MvS (n:Nat) (a:Nat->Nat) (c b:bG) (v:Nat):Prop:=
 (v=0∧sC c 0=0∧rC c 0≠0∧sC b v≠0∧bC b v≠bC c v∧yC b v=0∧rC b v=0)∨
 (IF a (sC c) (bC c) v∧sC b v=sC c (a v)∧bC b v=bC c (a v)∧yC b v=0∧rC b v=0)∨
 (¬IF a (sC c) (bC c) v∧NH n a (sC c) (bC c) v∧sC b v=0∧bC b v=bC c v∧yC b v=yC c v∧rC b v=rC c v)∨
 (¬IF a (sC c) (bC c) v∧¬NH n a (sC c) (bC c) v∧¬(v=0∧sC c 0=0∧rC c 0≠0)∧(sC c v=0∧rC c v=0∧∃w,w<n∧w≠0∧a w=v∧rC c w≠0∧sC c w=0)∧sC b v=sC c v∧bC b v=bC c v∧yC b v=yC c v∧rC b v≠0)
structure StS (n:Nat) (par:Nat->Nat) (c:bG) (t:Nat) (c':bG):Prop where
 stay:∀v,v<n->t.testBit v=false->sC c' v=sC c v∧bC c' v=bC c v∧yC c' v=yC c v∧rC c' v=rC c v
 move:∀v,v<n->t.testBit v=true->MvS n par c c' v
def CL (n:Nat) (a:Nat->Nat) (c:bG):Prop:=CI n a (sC c) (bC c)∧∀v,v<n->bC c v=bC c 0->rC c v=0∧yC c v=0
section
variable {n E:Nat} {par dp:Nat->Nat} {c c':List (List Int)} {t:Nat}
theorem StS.ws (h:StS n par c t c'):WS n par (λv=>t.testBit v=true) (sC c) (bC c) (sC c') (bC c'):=by
 refine⟨λv g d=> ?_,λv g d f=> ?_,λv g d f i=> ?_,λv g d f i=> ?_⟩
 ·obtain⟨a,b,_⟩:=h.stay v g (by simpa using d);exact⟨a,b⟩
 ·rcases h.move v g d with q|q|q|q
  ·exact absurd q.1 f.1
  ·exact⟨q.2.1,q.2.2.1⟩
  ·exact absurd f q.1
  ·exact absurd f q.1
 ·rcases h.move v g d with q|q|q|q
  ·have:=q.2.1;rw[<-q.1]at this;exact absurd this i.1
  ·exact absurd q.1 f
  ·exact⟨q.2.2.1,q.2.2.2.1⟩
  ·exact absurd i q.2.1
 ·rcases h.move v g d with q|q|q|q
  ·obtain⟨rfl,a,_,b,e,_⟩:=q;exact .inr ⟨rfl,a,b,e⟩
  ·exact absurd q.1 f
  ·exact absurd q.2.1 i
  ·exact .inl ⟨q.2.2.2.2.1,q.2.2.2.2.2.1⟩
variable (hT:RT n E par dp) (h:StS n par c t c')
 include hT h
theorem MJ (m:AG n par (sC c) (bC c)) (p:sC c 0≠0) (f:CL n par c) (j:bC c' 0=bC c 0):CL n par c':=by
 have o:=h.ws;refine⟨aal hT o m f.1 j,λv g d=> ?_⟩
 rw[j]at d;cases k:t.testBit v with
 |false=>
  obtain⟨_,a,b,e⟩:=h.stay v g k;rw[b,e];rw[a]at d;exact f.2 v g d
 | true =>
  rcases h.move v g k with q|q|q|q
  ·exact absurd q.2.1 p
  ·exact⟨q.2.2.2.2,q.2.2.2.1⟩
  ·obtain⟨_,_,_,a,b,e⟩:=q;rw[b,e];rw[a]at d;exact f.2 v g d
  ·obtain⟨_,_,_,⟨r,u,w,l,i,e,s,_⟩,_,a,_⟩:=q;rw[a]at d;have:=((f.1 v g).1 d r w l i e).2;exact absurd (f.2 w l this).1 s
theorem MH (d:CL n par c) (o:NH n par (sC c) (bC c) 0) (r:t.testBit 0=true):∀v,v<n->rC c' v=0∧yC c' v=0:=by
 have k:=aak hT d.1 o;intro v a;have f:bC c v=bC c 0:=by
  by_cases e:v=0
  ·rw[e]
  ·exact(k v a e).2
 obtain⟨i,j⟩:=d.2 v a f;cases l:t.testBit v with
 |false=>
  obtain⟨_,_,b,e⟩:=h.stay v a l;rw[b,e];exact⟨i,j⟩
 | true =>
  rcases h.move v a l with q|q|q|q
  ·exact⟨q.2.2.2.2.2.2,q.2.2.2.2.2.1⟩
  ·exact⟨q.2.2.2.2,q.2.2.2.1⟩
  ·obtain⟨_,_,_,_,b,e⟩:=q;rw[b,e];exact⟨i,j⟩
  ·obtain⟨_,s,_,⟨u,x,w,m,g,e,p,_⟩,_⟩:=q;exact absurd (d.2 w m (k w m g).2).1 p
theorem Nn (f:Qt n (sC c) (bC c)):(t.testBit 0=true∧rC c 0≠0∧sC c' 0≠0∧bC c' 0≠bC c 0∧CL n par c'∧VE n dp (bC c') 0∧AG n par (sC c') (bC c'))∨
  (Qt n (sC c') (bC c')∧(t.testBit 0=true->rC c 0=0)∧∀v,v<n->(rC c v≠0->rC c' v≠0)∧(t.testBit v=true->rC c' v≠0)):=by
 have m:=h.ws;have j:=hT.n1;have u:∀v,v<n->¬IF par (sC c) (bC c) v:=λv d q=>by
  obtain⟨a,_⟩:=hT.up v d q.1;rcases q.2 with r|r
  ·exact r (by rw[(f v d).2,(f _ a).2])
  ·exact r.1 (f v d).1
 have s:∀v,v<n->¬NH n par (sC c) (bC c) v:=λv d q=>q.1 (f v d).1;by_cases i:t.testBit 0=true∧rC c 0≠0
 ·left;obtain⟨k,p⟩:=i;rcases h.move 0 j k with q|q|q|q
  ·obtain⟨_,_,_,w,o,x,y⟩:=q;obtain⟨a,b,e⟩:=WB hT m f w o;refine⟨k,p,w,o,⟨a,λv d i=> ?_⟩,b,e⟩
   by_cases l:v=0
   ·subst l;exact⟨y,x⟩
   ·obtain⟨a,_⟩:=hT.up v d l;have:=(m.rest d l (f v d).1 (by rw[(f v d).2,(f _ a).2])).2;rw[this,(f v d).2]at i;exact absurd i.symm o
  ·exact absurd q.1 (u 0 j)
  ·exact absurd q.2.1 (s 0 j)
  ·exact absurd ⟨rfl,(f 0 j).1,p⟩ q.2.2.1
 ·right;have g:∀v,v<n->sC c' v=sC c v∧bC c' v=bC c v∧(rC c v≠0->rC c' v≠0)∧(t.testBit v=true->rC c' v≠0):=λv d=>by
   cases k:t.testBit v with
   |false=>
    obtain⟨a,b,_,e⟩:=h.stay v d k;exact⟨a,b,λq=>by rw[e];exact q,λq=>by cases q⟩
   | true =>
    rcases h.move v d k with q|q|q|q
    ·obtain⟨rfl,_,q,_⟩:=q;exact absurd ⟨k,q⟩ i
    ·exact absurd q.1 (u v d)
    ·exact absurd q.2.1 (s v d)
    ·obtain⟨_,_,_,_,a,b,_,e⟩:=q;exact⟨a,b,λ_=>e,λ_=>e⟩
  refine⟨abc hT m f (g 0 j).1 (g 0 j).2.1,λq=>Decidable.not_not.1 λr=>i ⟨q,r⟩,λv d=>(g v d).2.2⟩
end
theorem Yu {p:tB} {g:GR} {d:List Int} {c:List (List Int)} {a M:Nat->Nat} {t:Nat} (C:VG g) (B:q_ g 0 d) (A:∀v,v<g.2.length->0<=D d v) (n:TP g d a M) (s:Bb g c dZ) (o:Fe g d c)
  (w:∀v,t.testBit v=true->v<g.2.length∧0<=dK (aQ p g) RS c v):StS g.2.length a c t (iA (aQ p g) dZ RS c t):=by
 have l:=s.len;refine⟨λv f r=> ?_,λv f r=> ?_⟩
 ·have e:at' (iA (aQ p g) dZ RS c t) (v:Int)=at' c (v:Int):=by rw[AS (by rw[l];exact f),if_neg (by rw[r];decide)]
  unfold sC bC yC rC iM;rw[e];exact⟨rfl,rfl,rfl,rfl⟩
 ·obtain⟨_,O⟩:=w v r;obtain⟨m,K⟩:=O_ (p:=p) (W:=Qh) (R':=RW) (IZ C B A o f) (by rw[<-Jm];exact O);have e:at' (iA (aQ p g) dZ RS c t) (v:Int)=kV (aQ p g) dZ RW c v (dK (aQ p g) RW c v):=by
   rw[AS (by rw[l];exact f),if_pos r];exact K
  obtain⟨L,G,H,I,J⟩:=enS (p:=p) C B A n o f;obtain⟨Q,R,S,T⟩:=ags (p:=p) s f;have u:sC (iA (aQ p g) dZ RS c t) v=at' (kV (aQ p g) dZ RW c v (dK (aQ p g) RW c v)) 2∧bC (iA (aQ p g) dZ RS c t) v=at' (kV (aQ p g) dZ RW c v (dK (aQ p g) RW c v)) 3∧yC (iA (aQ p g) dZ RS c t) v=at' (kV (aQ p g) dZ RW c v (dK (aQ p g) RW c v)) 4∧rC (iA (aQ p g) dZ RS c t) v=at' (kV (aQ p g) dZ RW c v (dK (aQ p g) RW c v)) 5:=by
   unfold sC bC yC rC iM;rw[e];exact⟨rfl,rfl,rfl,rfl⟩
  unfold MvS;rw[u.1,u.2.1,u.2.2.1,u.2.2.2];by_cases i:v=0∧iM c v 2=0∧iM c v 5≠0
  ·left;rw[G i,Q];obtain⟨rfl,y,z⟩:=i;refine⟨rfl,y,z,show(1:Int)≠0 by decide,?_,rfl,rfl⟩
   show AE (decide (iM c 0 3=0))≠iM c 0 3;rcases(abh s f).2.1 with q|q<;>rw[q]<;>decide
  ·by_cases b:IF a (sC c) (bC c) v
   ·right;left;obtain⟨P,_⟩:=(n.at_ v f b.1).2.2.2;obtain⟨E,F,_⟩:=abh s P;have k:∀x:Nat,iM c (a v) (x:Int)=0∨iM c (a v) (x:Int)=1->0<=iM c (a v) (x:Int)∧iM c (a v) (x:Int)<=1:=λx h=>by omega
    rw[H b,R _ _ (PI n o f b.1 p 2 E) (PI n o f b.1 p 3 F) (k 2 E) (k 3 F)];exact⟨b,rfl,rfl,rfl,rfl⟩
   ·right;right;by_cases j:NH g.2.length a (sC c) (bC c) v
    ·left;rw[I b j,S];exact⟨b,j,rfl,rfl,rfl,rfl⟩
    ·right;have N:=(L.1 m).resolve_left i |>.resolve_left b |>.resolve_left j;rw[J i b j m,T];refine⟨b,j,λq=>i ?_,N,rfl,rfl,rfl,show(1:Int)≠0 by decide⟩
     obtain⟨rfl,y,z⟩:=q;exact⟨rfl,y,z⟩
structure Zs {I C:Type} (idx:I->Nat) (last:Nat) (Ph:I->C->Prop) (T:I->C->Nat->Prop) (en:C->Nat) (St:C->Nat->C->Prop):Prop where
 le:∀i c,Ph i c->idx i<=last
 adv:∀i c,Ph i c->idx i<last->(∀v,¬T i c v)->∃i',idx i<idx i'∧Ph i' c
 en:∀i c v,Ph i c->T i c v->(en c).testBit v=true
 step:∀i c t c',Ph i c->St c t c'->∃i',Ph i' c'∧(idx i<idx i'∨(i'=i∧∀v,T i c' v->T i c v∧t.testBit v=false))
def yY {I C:Type} (a:I->Nat) (b:Nat) (d:I->C->Prop) (T:I->C->Nat->Prop) (R e:Nat) (c:C):Prop:=∃i,d i c∧(a i=b∨R<a i∨(R=a i∧∀v,T i c v->e.testBit v=true))
section
variable {I C:Type} {idx:I->Nat} {last:Nat} {Ph:I->C->Prop} {T:I->C->Nat->Prop} {en:C->Nat} {St:C->Nat->C->Prop} {c c':C} {R pe pe' t:Nat}
theorem yY.start (h:Zs idx last Ph T en St) {i:I} (a:Ph i c):yY idx last Ph T 0 (en c) c:=by
 refine⟨i,a,?_⟩
 rcases Nat.eq_zero_or_pos (idx i)with e|e
 ·exact .inr (.inr ⟨e.symm,λv b=>h.en i c v a b⟩)
 ·exact .inr (.inl e)
theorem yY.next (h:Zs idx last Ph T en St) (n:yY idx last Ph T R pe c) (q:St c t c') (g:∀v,pe'.testBit v=(pe.testBit v && !t.testBit v&&(en c').testBit v)):yY idx last Ph T R pe' c':=by
 obtain⟨i,l,j⟩:=n;obtain⟨r,d,f⟩:=h.step i c t c' l q;refine⟨r,d,?_⟩
 have p:=h.le _ _ d;have k:=h.le _ _ l;rcases f with f|⟨rfl,f⟩
 ·rcases j with e|e|⟨e,_⟩
  ·omega
  ·exact .inr (.inl (by omega))
  ·exact .inr (.inl (by omega))
 ·rcases j with e|e|⟨e,o⟩
  ·exact .inl e
  ·exact .inr (.inl e)
  ·refine .inr (.inr ⟨e,λv m=> ?_⟩);obtain⟨a,b⟩:=f v m;rw[g,o v a,b,h.en _ _ v d m];rfl
theorem yY.round (h:Zs idx last Ph T en St) (g:yY idx last Ph T R 0 c):yY idx last Ph T (R+1) (en c) c:=by
 obtain⟨i,a,k⟩:=g;rcases k with e|e|⟨e,j⟩
 ·exact⟨i,a,.inl e⟩
 ·refine⟨i,a,?_⟩
  by_cases q:R+1=idx i
  ·exact .inr (.inr ⟨q,λv b=>h.en i c v a b⟩)
  ·exact .inr (.inl (by omega))
 ·by_cases q:idx i=last
  ·exact⟨i,a,.inl q⟩
  ·have l:=h.le _ _ a;obtain⟨d,m,f⟩:=h.adv i c a (by omega) λv b=>by have:=j v b;rw[Nat.zero_testBit]at this;cases this
   refine⟨d,f,?_⟩
   by_cases q:R+1=idx d
   ·exact .inr (.inr ⟨q,λv b=>h.en d c v f b⟩)
   ·exact .inr (.inl (by omega))
theorem yY.done (h:Zs idx last Ph T en St) (b:yY idx last Ph T R pe c) (d:last<=R):∃i,Ph i c∧idx i=last:=by
 obtain⟨i,a,e⟩:=b;have:=h.le _ _ a;exact⟨i,a,by omega⟩
theorem Zs.shift (h:Zs idx last Ph T en St) (b:Nat):Zs (λi=>idx i - b) (last - b) (λi c=>Ph i c∧b<=idx i) T en St:=by
 refine⟨λi c d=>by have:=h.le i c d.1;omega,λi c d l g=> ?_,λi c v d k=>h.en i c v d.1 k,λi c t c' d j=> ?_⟩
 ·obtain⟨e,a,f⟩:=h.adv i c d.1 (by omega) g;exact⟨e,by have:=d.2;omega,f,by have:=d.2;omega⟩
 ·obtain⟨e,a,f⟩:=h.step i c t c' d.1 j;rcases f with q|⟨rfl,q⟩
  ·exact⟨e,⟨a,by have:=d.2;omega⟩,.inl (by have:=d.2;omega)⟩
  ·exact⟨e,⟨a,d.2⟩,.inr ⟨rfl,q⟩⟩
theorem Fb (h:Zs idx last Ph T en St) (s:yY idx last Ph T R pe c) (w:St c t c') {k:Nat} {f b:CT} {B:Nat} (u:BM k f R B pe) (v:k<900) (x:t<16777216) (r:t≠0) (n:en c'<16777216) {m:Int} (g:fR 1000 f (t:Int) (en c':Int)=some (b,m)):
  ∃l q pe',BM (k+1) b l q pe'∧yY idx last Ph T l pe' c'∧(t=pe->l=R+1∧pe'=en c'):=by
 obtain⟨pe',j,d⟩:=u.add v x r n g;have p:=yY.next h s w j;rcases d with⟨o,a⟩|⟨o,a⟩
 ·subst o;exact⟨R+1,R+1,_,a,yY.round h p,λ_=>⟨rfl,rfl⟩⟩
 ·refine⟨R,R+1,pe',a,p,λe=>absurd (Nat.eq_of_testBit_eq λi=> ?_) o⟩
  rw[j,<-e,Nat.zero_testBit];cases t.testBit i<;>rfl
end
end Go.Proofs.YtmdlcmbplnhdnaaGreatDoor
namespace Go.Proofs.YtmdlcmbplnhdnaaGreatDoor
open Go.Sx
def qP  (a:Bool):Option (Bool):=
 some (a)
def wO (U:Nat) (a:Int):Option (Bool):=
 if(1:Int)<=a then(qP  (decide (a<=(4:Int))))else(qP  (false))
theorem acX:aW Tryz.prog 78:=Tryz.call78
theorem Kw (U:Nat) {b:Int} (r:Bool) (h:wO U b=some r):
  aX Tryz.prog 78 #[vI (b)] [] (λx:Unit=>vB (r)) (λx l=>l) (λ_ l=>l):=by
 refine aX.of Tryz.func78 Z Tryz.ntmps78 Z λc=>?_;refine aV<|aD Z<|aL<|aJ<|dR (λa=>qP  a=some r) (λa d=>[(2,vB (a))]) (λa d=>[]) ?_ ?_
 ·refine aO<|aA Z<|aB (Do Z Z) Z<|aA Z ?_;refine Dg h Z (λ_ h=>?_) λ_ h=>?_
  ·refine cO Z<|aN Z (AD Z Z) Z<|dV Z<|aD Z<|aL ?_;exact gY (decide (b<=(4:Int))) () h SF Z
  refine aG Z<|aG Z<|fK Z<|aD Z<|aL ?_;exact gY (false) () h SF Z
 intro a d h;unfold qP at h;refine aU ?_;cases h;exact kH Z
def zE (U:Nat) (a:BJ) (b:cQ) (d:Int) (e:bG) (f:Int):Option (Int):=
 Option.bind (sA U ((a.1,a.2.1,a.2.2)) ((b.1,b.2)) e) λc=>(if c≠(0:Int)then(some (c))else(Option.bind (wO U d) λg=>(if(!g)=true then(some (12:Int))else(if(4096:Int)<f then(some (3:Int))else(some (0:Int))))))
theorem acM:aW Tryz.prog 50:=Tryz.call50
theorem PS (U:Nat) {a:BJ} {g:cQ} {j:Int} {k:bG} {m:Int} (b:Value)  (d:Value)  (e:Value)  (f:Value)  (n:lX)  (i:Value)  (o:sH) (r:Int) (h:zE U a g j k m=some r):
  aX Tryz.prog 50 #[Value.agg #[vS (a.1),b,d],Value.agg #[e,f],vI (j),i,vI (m)] [Sl aT b a.2.1,Sl aK d a.2.2,PF (Value.agg #[vS a.1,b,d]),Sl bN e g.1,S2 bD f n g.2,S2 bN i o k] (λx:Unit=>vI (r)) (λx l=>l) (λ_ l=>l):=by
 refine aX.of Tryz.func50 Z Tryz.ntmps50 Z λc=>?_;refine aV<|aH (aM.box (cs:=[vS (a.1),b,d]) Z Z) Z λu=>aH (aM.box (cs:=[e,f]) Z Z) Z λv=>aD Z<|aL<|aJ<|aV<|eT 1 Z<|eT 0 Z<|aA Z<|fH h λp s h=>aH (aM.callQ acR (Kz U b d e f n i o p s) Z (pO [0,1,2,3,4,5] Z)) Z λw=>aD Z<|aL<|aV<|aA Z<|p_ Z<|aL ?_;refine eX h Z (λh=>?_) λh=>?_
 ·refine aV<|aA Z<|aD Z<|aL<|aU<|aI ?_;cases h;exact tO Z
 refine cK<|aJ<|aV<|aA Z<|fH h λq t h=>aH (aM.callQ acX (Kw U  q t) Z .nil) Z λy=>aB (nR Z) Z<|aL ?_;refine Ai h Z (λ_ h=>?_) λ_ h=>?_
 ·refine aV<|aD Z<|aL<|aU<|aI ?_;cases h;exact tO Z
 refine cK<|aJ<|aV<|aA Z<|aB (zA Z Z) Z<|aL ?_;refine eX h Z (λh=>?_) λh=>?_
 ·refine aV<|aD Z<|aL<|aU<|aI ?_;cases h;exact tO Z
 refine cK<|aV<|aD Z<|aL<|aU ?_;cases h;exact tO Z
def uO (U:Nat) (a:Int):Option ((Int×Int×Int×Int×Int)):=
 some (((0:Int),(0:Int),(0:Int),(0:Int),(dD .u32 a (16777215:Int))))
theorem ZI:aW Tryz.prog 111:=Tryz.call111
theorem Ip (U:Nat) {a:Int} (r:(Int×Int×Int×Int×Int)) (h:uO U a=some r):
  aX Tryz.prog 111 #[vU (a)] [] (λx:Unit=>Value.agg #[vI (r.1),vI (r.2.1),vI (r.2.2.1),vI (r.2.2.2.1),vU (r.2.2.2.2)]) (λx l=>l) (λ_ l=>l):=by
 refine aX.of Tryz.func111 Z Tryz.ntmps111 Z λc=>?_;unfold uO at h;refine aV<|aH (aM.alloc (cs:=vD2) Z Z) Z λb=>aL<|aV<|aA Z<|Aa Z ?_;refine aB (VS (r:=Value.agg #[vI (0:Int),vI (0:Int),vI (0:Int),vI (0:Int),vU (dD .u32 a (16777215:Int))]) Z (by intro w;simp[Instr.build,Instr.fill,fD,eD,dJ,fE,fF,eF,gK])) Z ?_;refine bT 0 (vs:=[vI (0:Int),vI (0:Int),vI (0:Int),vI (0:Int),vU (dD .u32 a (16777215:Int))]) Z Z Z Z Z Z<|aL<|aU ?_;cases h;exact iB () Z Z (RV.cell 0 Z Z Z Z) .nil aF.nil
end Go.Proofs.YtmdlcmbplnhdnaaGreatDoor
namespace Go.Proofs.YtmdlcmbplnhdnaaGreatDoor
open Go Go.Sx
def eH (g:GR):Nat:=2^g.2.length - 1
theorem Zz {g:GR} (b:VG g):eH g<4294967296:=by
 have a:=b.n24;have:(2:Nat)^g.2.length<=2^24:=Nat.pow_le_pow_right (by omega) a;unfold eH;omega
section
variable {p:tB} {g:GR} {R:List RL}
end
inductive SR where
 |tree (k:Nat)
 |good (k:Nat)
 |lev (cl:Bool) (k:Nat)
 |low (cl:Bool) (k:Nat)
 |ask (k u:Nat)
 |done
def AL (E:Nat):SR->Nat
 | .tree k=>k
 | .good k=>E+1+k
 | .lev false k=>2*E+1+k
 | .low false k=>3*E+1+k
 | .ask k _=>4*E+2+k
 | .lev true k=>5*E+3+k
 | .low true k=>6*E+3+k
 | .done=>7*E+4
def Gd (n:Nat) (a c:Nat->Nat) (s b:Nat->Int) (k:Nat):Prop:=∀v,v<n->v≠0->c v<=k->gd a s b v
section
variable (g:GR) (d:List Int) (E:Nat) (par dp:Nat->Nat)
def NJ (i:SR) (c:List (List Int)):Prop:=Bb g c dZ∧match i with
 | .tree k=>k<=E∧Zb g d k c
 | .good k=>k<E∧Fe g d c∧Gd g.2.length par dp (sC c) (bC c) k
 | .lev cl k=>k<E∧Fe g d c∧AG g.2.length par (sC c) (bC c)∧sC c 0≠0∧VE g.2.length dp (bC c) k∧(cl=true->CL g.2.length par c)
 | .low cl k=>k<=E∧Fe g d c∧AG g.2.length par (sC c) (bC c)∧sC c 0≠0∧VE g.2.length dp (bC c) E∧TZ g.2.length E dp (sC c) k∧(cl=true->CL g.2.length par c)
 | .ask k u=>k<=E∧Fe g d c∧Qt g.2.length (sC c) (bC c)∧u<g.2.length∧dp u+k<=E∧rC c u≠0
 | .done=>Fe g d c∧Qt g.2.length (sC c) (bC c)∧∀v,v<g.2.length->rC c v=0
def TsR (i:SR) (c:List (List Int)) (v:Nat):Prop:=match i with
 | .tree k=>TrT g d k c v
 | .good k=>v<g.2.length∧v≠0∧dp v<=k+1∧¬gd par (sC c) (bC c) v
 | .lev _ k=>v<g.2.length∧dp v<=k+1∧bC c v≠bC c 0
 | .low _ k=>v<g.2.length∧E<dp v+(k+1)∧sC c v≠0
 | .ask _ u=>(u≠0∧v=par u∧rC c v=0)∨(u=0∧v=0)
 | .done=>False
end
section
variable {g:GR} {d:List Int} {E:Nat} {par dp:Nat->Nat} {c c':List (List Int)} {t:Nat} (hT:RT g.2.length E par dp)
 include hT
theorem agq {s:Nat->Int}:TZ g.2.length E dp s 0:=λv a b=>by have:=hT.le v a;omega
theorem MW {cl:Bool} {k:Nat} (l:Bb g c dZ) (m:k<=E) (a:Fe g d c) (b:AG g.2.length par (sC c) (bC c)) (f:sC c 0≠0) (h:VE g.2.length dp (bC c) k) (j:cl=true->CL g.2.length par c):∃i,AL E (.lev cl k)<=AL E i∧NJ g d E par dp i c:=by
 by_cases e:k<E
 ·exact⟨.lev cl k,Nat.le_refl _,l,e,a,b,f,h,j⟩
 ·obtain rfl:k=E:=by omega
  refine⟨.low cl 0,?_,l,Nat.zero_le _,a,b,f,h,agq hT,j⟩
  cases cl<;>(simp only[AL];omega)
 omit hT in
theorem JZ (f:Bb g c dZ) (j:RT g.2.length E par dp) (a:Fe g d c) (b:Qt g.2.length (sC c) (bC c)):∃i,4*E+2<=AL E i∧NJ g d E par dp i c:=by
  by_cases e:∃u,u<g.2.length∧rC c u≠0
  ·obtain⟨u,h,k⟩:=e;exact⟨.ask 0 u,Nat.le_refl _,f,Nat.zero_le _,a,b,h,by have:=j.le u h;omega,k⟩
  ·refine⟨.done,by simp only[AL];omega,f,a,b,λv l=>Decidable.not_not.1 λq=>e ⟨v,l,q⟩⟩
theorem S_ {k:Nat} (j:Bb g c dZ) (u:k<=E) (h:Fe g d c) (m:Gd g.2.length par dp (sC c) (bC c) k):∃i,E+1+k<=AL E i∧NJ g d E par dp i c:=by
 by_cases e:k<E
 ·exact⟨.good k,Nat.le_refl _,j,e,h,m⟩
 ·have n:AG g.2.length par (sC c) (bC c):=λv f p=>m v f p (by have:=hT.le v f;omega);by_cases o:sC c 0=0
  ·obtain⟨i,a,b⟩:=JZ j hT h (Yh hT n o);exact⟨i,by omega,b⟩
  ·have r:VE g.2.length dp (bC c) 0:=λv f s=>by
    by_cases l:v=0
    ·rw[l]
    ·have:=(hT.up v f l).2;omega
   obtain⟨i,a,b⟩:=MW (cl:=false) hT j (Nat.zero_le _) h n o r (λq=>by cases q);exact⟨i,by simp only[AL]at a ⊢;omega,b⟩
theorem gd0:Gd g.2.length par dp (sC c) (bC c) 0:=λv b a e=>by have:=(hT.up v b a).2;omega
 omit hT in
theorem Ya {i:SR} (h:NJ g d E par dp i c):AL E i<=7*E+4:=by
  obtain⟨_,h⟩:=h
  match i,h with
  | .tree k,h=>have:=h.1;simp only[AL];omega
  | .good k,h=>have:=h.1;simp only[AL];omega
  | .lev false k,h=>have:=h.1;simp only[AL];omega
  | .lev true k,h=>have:=h.1;simp only[AL];omega
  | .low false k,h=>have:=h.1;simp only[AL];omega
  | .low true k,h=>have:=h.1;simp only[AL];omega
  | .ask k u,h=>have:=h.1;simp only[AL];omega
  | .done,h=>exact Nat.le_refl _
theorem aa_ (r:∀v,v<g.2.length->D d v<=(E:Int)) {i:SR} (h:NJ g d E par dp i c) (s:AL E i<7*E+4) (f:∀v,¬TsR g d E par dp i c v):∃o,AL E i<AL E o∧NJ g d E par dp o c:=by
 obtain⟨l,h⟩:=h
 match i,h,f with
 | .tree k, ⟨hk, h⟩, f =>
  have m:=PV h f;by_cases e:k<E
  ·exact⟨.tree (k+1),by simp only[AL];omega,l,e,m⟩
  ·obtain⟨i,a,b⟩:=S_ (k:=0) hT l (Nat.zero_le _) (LS m λv j=>by have:=r v j;omega) (gd0 hT);exact⟨i,by simp only[AL]at a ⊢;omega,b⟩
 | .good k,⟨hk,h1,h2⟩,f=>
  obtain⟨i,a,b⟩:=S_ (k:=k+1) hT l hk h1 (λv j p n=>Classical.not_not.1 λq=>f v ⟨j,p,n,q⟩);exact⟨i,by simp only[AL]at a ⊢;omega,b⟩
 | .lev cl k,⟨hk,h1,h2,h3,h4,h5⟩,f=>
  obtain⟨i,a,b⟩:=MW (k:=k+1) hT l hk h1 h2 h3 (λv j n=>Decidable.not_not.1 λq=>f v ⟨j,n,q⟩) h5;refine⟨i,?_,b⟩
  cases cl<;>(simp only[AL]at a ⊢;omega)
 | .low cl k, ⟨hk, h1, h2, h3, h4, h5, h6⟩, f =>
  have m:TZ g.2.length E dp (sC c) (k+1):=λv j n=>Decidable.not_not.1 λq=>f v ⟨j,n,q⟩;by_cases e:k<E
  ·refine⟨.low cl (k+1),?_,l,e,h1,h2,h3,h4,m,h6⟩
   cases cl<;>(simp only[AL];omega)
  ·exact absurd (m 0 hT.n1 (by have:=hT.d0;omega)) h3
 | .ask k u, ⟨hk, h1, h2, h3, h4, h5⟩, f =>
  by_cases e:u=0
  ·exact absurd (.inr ⟨e,rfl⟩) (f 0)
  ·obtain⟨a,w⟩:=hT.up u h3 e;refine⟨.ask (k+1) (par u),by simp only[AL];omega,l,by omega,h1,h2,a,by omega,λq=>f _ (.inl ⟨e,rfl,q⟩)⟩
 | .done,_,_=>simp only[AL]at s;omega
end
structure StR (g:GR) (d:List Int) (par:Nat->Nat) (c:List (List Int)) (t:Nat) (c':List (List Int)):Prop where
 tr:TrS g c t c'
 rc:Bb g c' dZ
 ws:Fe g d c->Fe g d c'∧StS g.2.length par c t c'
section
variable {g:GR} {d:List Int} {E:Nat} {par dp:Nat->Nat} {c c':List (List Int)} {t:Nat} (hV:VG g) (hD:q_ g 0 d) (h0:∀v,v<g.2.length->0<=D d v) (hT:RT g.2.length E par dp) (hs:StR g d par c t c')
 include hV hD h0 hT hs
theorem Yb {i:SR} (h:NJ g d E par dp i c):∃H,NJ g d E par dp H c'∧(AL E i<AL E H∨(H=i∧∀v,TsR g d E par dp i c' v->TsR g d E par dp i c v∧t.testBit v=false)):=by
 obtain⟨Q,h⟩:=h;have l:=hs.rc;have F:∀{v:Nat},¬(t.testBit v=true)->t.testBit v=false:=λh=>by simpa using h
 match i,h with
 | .tree k,⟨hk,h⟩=>
  obtain⟨a,b⟩:=YA hV hD h0 h hs.tr;exact⟨.tree k,⟨l,hk,a⟩,.inr ⟨rfl,b⟩⟩
 | .good k, ⟨hk, h1, h2⟩ =>
  obtain⟨f,n⟩:=hs.ws h1;have o:=n.ws;have I:∀v,v<g.2.length->v≠0->dp v<=k+1->par v=0∨gd par (sC c) (bC c) (par v):=λv j m r=>by
   obtain⟨a,b⟩:=hT.up v j m;by_cases e:par v=0
   ·exact .inl e
   ·exact .inr (h2 _ a e (by omega))
  refine⟨.good k,⟨l,hk,f,λv j m r=>IN hT o j m (I v j m (by omega)) (.inl (h2 v j m r))⟩,.inr ⟨rfl,λv ⟨j,m,r,z⟩=> ?_⟩⟩
  exact⟨⟨j,m,r,λq=>z (IN hT o j m (I v j m r) (.inl q))⟩,F λq=>z (IN hT o j m (I v j m r) (.inr q))⟩
 | .lev cl k, ⟨hk, h1, h2, h3, h4, h5⟩ =>
  obtain⟨f,n⟩:=hs.ws h1;have o:=n.ws;rcases HB hT o h2 h3 with⟨A,y⟩|⟨B,G,A,y,x⟩
  ·refine⟨.lev cl k,⟨l,hk,f,FW hT o h2,by rw[A];exact h3,OS hT o h4 y,λq=>MJ hT n h2 h3 (h5 q) y⟩,.inr ⟨rfl,λv ⟨j,r,z⟩=> ?_⟩⟩
   obtain⟨a,b⟩:=(XE hT o h4 y j r).2 z;exact⟨⟨j,r,a⟩,F b⟩
  ·cases cl with
   |false=>
    obtain⟨i,a,b⟩:=JZ l hT f x;exact⟨i,b,.inl (by simp only[AL]at a ⊢;omega)⟩
   |true=>exact⟨.done,⟨l,f,x,λv j=>(MH hT n (h5 Z) G B v j).1⟩,.inl (by simp only[AL];omega)⟩
 | .low cl k, ⟨hk, h1, h2, h3, h4, h5, h6⟩ =>
  obtain⟨f,n⟩:=hs.ws h1;have o:=n.ws;rcases HB hT o h2 h3 with⟨A,y⟩|⟨B,G,A,y,x⟩
  ·refine⟨.low cl k,⟨l,hk,f,FW hT o h2,by rw[A];exact h3,OS hT o h4 y,XJ hT o h4 h5 h3,λq=>MJ hT n h2 h3 (h6 q) y⟩,.inr ⟨rfl,λv ⟨j,r,z⟩=> ?_⟩⟩
   obtain⟨a,b⟩:=(XI hT o h2 h4 h5 j r).2 h3 z;exact⟨⟨j,r,a⟩,F b⟩
  ·cases cl with
   |false=>
    obtain⟨i,a,b⟩:=JZ l hT f x;exact⟨i,b,.inl (by simp only[AL]at a ⊢;omega)⟩
   |true=>exact⟨.done,⟨l,f,x,λv j=>(MH hT n (h6 Z) G B v j).1⟩,.inl (by simp only[AL];omega)⟩
 | .ask k u, ⟨hk, h1, h2, h3, h4, h5⟩ =>
  obtain⟨f,n⟩:=hs.ws h1;rcases Nn hT n h2 with⟨B,C,M,R,N,O,P⟩|⟨x,s,p⟩
  ·obtain⟨i,a,b⟩:=MW (cl:=true) hT l (Nat.zero_le _) f P M O (λ_=>N);exact⟨i,b,.inl (by simp only[AL]at a ⊢;omega)⟩
  ·refine⟨.ask k u,⟨l,hk,f,x,h3,h4,(p u h3).1 h5⟩,.inr ⟨rfl,λv j=> ?_⟩⟩
   rcases j with⟨e,rfl,C⟩|⟨e,rfl⟩
   ·obtain⟨a,_⟩:=hT.up u h3 e;exact⟨.inl ⟨e,rfl,Decidable.not_not.1 λq=>(p _ a).1 q C⟩,F λq=>(p _ a).2 q C⟩
   ·subst e;exact⟨.inr ⟨rfl,rfl⟩,F λq=>h5 (s q)⟩
 | .done, ⟨h1, h2, h3⟩ =>
  obtain⟨f,n⟩:=hs.ws h1;rcases Nn hT n h2 with⟨B,C,_⟩|⟨x,s,p⟩
  ·exact absurd (h3 0 hT.n1) C
  ·refine⟨.done,⟨l,f,x,λv j=> ?_⟩,.inr ⟨rfl,λv q=>q.elim⟩⟩
   cases J:t.testBit v with
   |false=>rw[(n.stay v j J).2.2.2];exact h3 v j
   | true =>
    have q:=n.move v j J;have K:=h2 v j;rcases q with q|q|q|q
    ·obtain⟨rfl,_,q,_⟩:=q;exact absurd (h3 0 j) q
    ·exact q.2.2.2.2
    ·exact absurd K.1 q.2.1.1
    ·obtain⟨_,_,_,⟨_,_,w,L,_,_,q,_⟩,_⟩:=q;exact absurd (h3 w L) q
end
theorem Yt {p:tB} {g:GR} {d:List Int} {c:List (List Int)} {h r:Nat->Nat} {t:Nat} (k:VG g) (n:q_ g 0 d) (m:∀v,v<g.2.length->0<=D d v) (s:TP g d h r) (u:tC g dZ) (l:Bb g c dZ)
  (e:∀v,t.testBit v=true->v<g.2.length∧0<=dK (aQ p g) RS c v):StR g d h c t (iA (aQ p g) dZ RS c t):=by
 have j:=aeo (p:=p) (W:=Qh) (R':=RW) (t:=t) k l afz (by rw[<-Jm];exact e);refine⟨j,LR (S:=aQ p g) u l,λi=>⟨λv f=> ?_,Yu k n m s l i e⟩⟩
 have q:=IZ k n m i f;cases o:t.testBit v with
 |false=>obtain⟨a,b⟩:=j.stay v f o;rw[show iA (aQ p g) dZ RS c t=iA (aQ p g) (sI++Qh) (RB++RW) c t from rfl,a,b];exact i v f
 |true=>obtain⟨a,b⟩:=j.move v f o;rw[show iA (aQ p g) dZ RS c t=iA (aQ p g) (sI++Qh) (RB++RW) c t from rfl,a,b,<-q.1,<-q.2];exact i v f
theorem abm (p b:tB) (g:GR) (a:List Df) (R:List RL) (c:bG) (t:Nat):iA (aQ p g) a R c t=iA (aQ b g) a R c t:=rfl
theorem OH (p b:tB) (g:GR) (R:List RL) (a:Nat) (c:bG):oS (aQ p g) R a c=oS (aQ b g) R a c:=rfl
noncomputable def nxt (g:GR) (a:Int) (c:Nat) (w:Int):Nat:=(((nW 1000 g).bind λb=>eR 1000 b a (c:Int) w).getD 0).toNat
noncomputable def Cz (p:tB) (vars:List Df) (R:List RL) (g:GR) (kind:Int) (ws:aR) (a:bG):Nat->bG
 |0=>a
 |k+1=>iA (aQ p g) vars R (Cz p vars R g kind ws a k) (nxt g kind (oS (aQ p g) R (eH g) (Cz p vars R g kind ws a k)) (at' ws (k:Int)))
theorem Kt (p p':tB) (vars:List Df) (R:List RL) (g:GR) (kind:Int) (ws:aR) (a:bG) (k:Nat):Cz p vars R g kind ws a k=Cz p' vars R g kind ws a k:=by
 induction k with
 |zero=>rfl
 |succ k b=>
  rw[Cz,Cz,b,abm p p',OH p p']
theorem exZ (D:KG):∃z:List xP,z.map Al=D:=by
 refine⟨D.map λd=>(ByteArray.mk #[],(.bool true,d.1),(.bool true,d.2.map λs=>(s.1,(.bool true,s.2)))),?_⟩
 rw[List.map_map]
 conv=>rhs;rw[<-List.map_id D]
 refine List.map_congr_left λd _=> ?_;show(d.1,(d.2.map λs=>(s.1,((.bool true:Value),s.2))).map λs=>(s.1,s.2.2))=d;rw[List.map_map];exact Prod.ext Z (by
  conv=>rhs;rw[<-List.map_id d.2]
  rfl)
end Go.Proofs.YtmdlcmbplnhdnaaGreatDoor