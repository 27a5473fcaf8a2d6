/- Models and proofs. Conditions: none. -/
import Derived.Test.YtmdlcmbplnhdnaaGreatDoorZRRc6
import Derived.Test.YtmdlcmbplnhdnaaGreatDoorZRRc2
import Derived.Test.YtmdlcmbplnhdnaaGreatDoorZRRc7
import Derived.Test.YtmdlcmbplnhdnaaGreatDoorZRRc5
set_option linter.unusedVariables false
set_option linter.unusedSimpArgs false
set_option maxHeartbeats 4000000
set_option maxRecDepth 20000
namespace Go.Proofs.YtmdlcmbplnhdnaaGreatDoor
open Go Go.Sx
def VW (x:Int):Int:=max (-1073741824) (min x 1073741824)
def unD (o x:Int):Int:=if o=18 then wI .i64 (0 - x)else AU (decide (x=0))
def abK (a b:Int):Int:=if b=0 then 0 else if Int.tmod a b≠0∧((decide (a<0)) != (decide (b<0)))=true then wI .i64 (wI .i64 (Int.tdiv a b) - 1)else wI .i64 (Int.tdiv a b)
def adX (o x y:Int):Bool:=if o=35 then decide (x=y)else if o=36 then decide (x≠y)else if o=37 then decide (x<y)else if o=38 then decide (x<=y)else if o=39 then decide (y<x)else decide (y<=x)
def biD (o x y:Int):Int:=
 if o=30 then VW (wI .i64 (x*y))else if o=31 then VW (abK x y)else if o=32 then(if y=0 then 0 else VW (wI .i64 (x - wI .i64 (y*abK x y))))else if o=33 then VW (wI .i64 (x+y))else if o=34 then VW (wI .i64 (x - y))
 else if o=41 then AU (decide (x≠0)&&decide (y≠0))else if o=42 then AU (decide (x≠0)||decide (y≠0))else AU (adX o x y)
theorem Zj (f:Nat) (o x:Int):AD f o x=some (unD o x):=by
 unfold AD unD;split
 ·rfl
 ·rw[bB (uR f _)]
theorem YO (f:Nat) (a b:Int):rE f a b=some (abK a b):=by
 unfold rE abK;by_cases c:b=0
 ·rw[if_pos c,if_pos c]
 ·rw[if_neg c,if_neg c,cA c,cA c];by_cases d:Int.tmod a b=0
  ·rw[if_neg (by simpa using d),if_neg (by simp[d])];rfl
  ·rw[if_pos d];unfold tP qB;by_cases e:((decide (a<0)) != (decide (b<0)))=true
   ·rw[if_pos e,if_pos ⟨d,e⟩]
   ·rw[if_neg e,if_neg (λq=>e q.2)]
theorem adY (f:Nat) (o x y:Int):vD f o x y=some (adX o x y):=by
 unfold vD adX
 repeat' split
 all_goals rfl
theorem UW (f:Nat) (o x y:Int):zB f o x y=some (biD o x y):=by
 unfold zB biD;by_cases h:o=30
 ·rw[if_pos h,if_pos h];rfl
 rw[if_neg h,if_neg h];by_cases h:o=31
 ·rw[if_pos h,if_pos h,bB (YO f x y)];rfl
 rw[if_neg h,if_neg h];by_cases h:o=32
 ·rw[if_pos h,if_pos h];by_cases b:y=0
  ·rw[if_pos b,if_pos b]
  ·rw[if_neg b,if_neg b,bB (YO f x y)];rfl
 rw[if_neg h,if_neg h];by_cases h:o=33
 ·rw[if_pos h,if_pos h];rfl
 rw[if_neg h,if_neg h];by_cases h:o=34
 ·rw[if_pos h,if_pos h];rfl
 rw[if_neg h,if_neg h];by_cases h:o=41
 ·rw[if_pos h,if_pos h];by_cases a:x=0
  ·rw[if_neg (by simpa using a),bB (uR f _)];simp[a,p_]
  ·rw[if_pos a,bB (uR f _)];simp[a,p_]
 rw[if_neg h,if_neg h];by_cases h:o=42
 ·rw[if_pos h,if_pos h];by_cases a:x=0
  ·rw[if_neg (by simpa using a),bB (uR f _)];simp[a,qA]
  ·rw[if_pos a,bB (uR f _)];simp[a,qA]
 rw[if_neg h,if_neg h,bB (adY f o x y),bB (uR f _)]
def E.den (L:Int->Int->Int->Int) (b:Nat):E->Int->Int
 |lf o a,p=>L o a p
 |un o x,p=>unD o (x.den L b p)
 |ag o x,_=>TK o ((List.range b).map λq=>x.den L b ((q:Nat):Int))
 |bi o x y,p=>biD o (x.den L b p) (y.den L b p)
 |ite x y z,p=>if x.den L b p≠0 then y.den L b p else z.den L b p
def E.wf (c:Nat):Bool->E->Bool
 |b,lf o a=>decide (1<=o)&&decide (o<=17)&&(b||decide (o<=10))&&((decide (o≠5)&&decide (o≠12))||(decide (0<=a)&&decide (a<(c:Int))))
 |b,un o x=>decide (18<=o)&&decide (o<=19)&&x.wf c b
 |_,ag o x=>(decide (o=20)||decide (o=21)||decide (o=22)||decide (o=23)||decide (o=24)||decide (o=26)||decide (o=27))&&x.wf c true
 |b,bi o x y=>decide (30<=o)&&decide (o<=42)&&x.wf c b&&y.wf c b
 |b,ite x y z=>x.wf c b&&y.wf c b&&z.wf c b
theorem ZJ {i:Nat}:∀{e:E} {b:Bool},e.wf i b=true->e.arOk=true:=by
 intro e
 induction e with
 |lf o a=>intro b h;simp[E.wf,E.arOk]at h ⊢;omega
 |un o x f=>intro b h;simp[E.wf,E.arOk]at h ⊢;exact⟨h.1,f h.2⟩
 |ag o x f=>intro b h;simp[E.wf,E.arOk]at h ⊢;exact⟨by omega,f h.2⟩
 |bi o x y c d=>intro b h;simp[E.wf,E.arOk]at h ⊢;exact⟨⟨h.1.1,c h.1.2⟩,d h.2⟩
 |ite x y z c d g=>intro b h;simp[E.wf,E.arOk]at h ⊢;exact⟨⟨c h.1.1,d h.1.2⟩,g h.2⟩
def Yw (W:WLK) (p:Int):Int:=(at' (at' W.1.2.1.2 W.2.2.1) p).1
def Yl (W:WLK) (o a p:Int):Int:=
 if o=1 then a else if o=2 then 1 else if o=3 then 0 else if o=4 then -1 else if o=5 then at' (at' W.2.1 W.2.2.1) a else if o=12 then at' (at' W.2.1 (Yw W p)) a
 else if o=6 then(W.1.2.1.1.length:Int)else if o=7 then W.1.2.2.1 else if o=8 then at' W.1.2.1.1 W.2.2.1 else if o=9 then((at' W.1.2.1.2 W.2.2.1).length:Int)else if o=10 then AU (decide (W.2.2.1=0))else if o=11 then p
 else if o=13 then at' W.1.2.1.1 (Yw W p)else if o=14 then((at' W.1.2.1.2 (Yw W p)).length:Int)else if o=15 then AU (decide (Yw W p=0))else if o=16 then(at' (at' W.1.2.1.2 W.2.2.1) p).2 else at' (at' W.1.2.2.2 W.2.2.1) p
structure WOk (W:WLK) (nv n v:Nat):Prop where
 node:W.2.2.1=(v:Int)
 lt:v<n
 ports:W.1.2.1.2.length=n
 ids:W.1.2.1.1.length=n
 c:W.2.1.length=n
 row:∀u:Nat,u<n->(at' W.2.1 (u:Int)).length=nv
 to:∀u:Nat,u<n->∀i:Nat,i<(at' W.1.2.1.2 (u:Int)).length->0<=(at' (at' W.1.2.1.2 (u:Int)) (i:Int)).1∧(at' (at' W.1.2.1.2 (u:Int)) (i:Int)).1<(n:Int)
 bl:W.1.2.2.2.length=n
 br:∀u:Nat,u<n->(at' W.1.2.2.2 (u:Int)).length=(at' W.1.2.1.2 (u:Int)).length
def Wv (b:Bool) (a:Nat) (p:Int):Prop:=b=true->∃q:Nat,p=(q:Int)∧q<a
theorem abw {W:WLK} {k n v:Nat} (h:WOk W k n v) (f:Nat) {b:Bool} {o a p:Int} (s:(E.lf o a).wf k b=true) (r:Wv b (at' W.1.2.1.2 (v:Int)).length p):mH f W (o,a) p=some (Yl W o a p):=by
 obtain⟨y,c,A,B,C,l,m,F,w⟩:=h;simp only[E.wf,Bool.and_eq_true,Bool.or_eq_true,decide_eq_true_eq]at s;obtain⟨⟨⟨G,H⟩,d⟩,I⟩:=s;have z:(at' W.2.1 (v:Int)).length=k:=l v c;unfold mH Yl Yw;dsimp only;rw[y];by_cases e:o=1
 ·simp only[if_pos e]
 simp only[if_neg e];by_cases e:o=2
 ·simp only[if_pos e]
 simp only[if_neg e];by_cases e:o=3
 ·simp only[if_pos e]
 simp only[if_neg e];by_cases e:o=4
 ·simp only[if_pos e]
 simp only[if_neg e];by_cases e:o=5
 ·simp only[if_pos e];rw[cA (by omega),cA (by omega)]
 simp only[if_neg e];by_cases e:o=12
 ·have i:b=true:=by
   rcases d with d|d
   ·exact d
   ·omega
  obtain⟨q,rfl,j⟩:=r i;have g:=m v c q j;obtain⟨u,x⟩:∃u:Nat,(at' (at' W.1.2.1.2 (v:Int)) (q:Int)).1=(u:Int):=⟨_,(Int.toNat_of_nonneg g.1).symm⟩
  simp only[if_pos e];rw[x]at g ⊢;have D:=l u (by omega);rw[cA (by omega),cA (by omega),cA (by omega),cA (by omega)]
 simp only[if_neg e];unfold sS;dsimp only;by_cases e:o=6
 ·simp only[if_pos e];rfl
 simp only[if_neg e];by_cases e:o=7
 ·simp only[if_pos e];rfl
 simp only[if_neg e];by_cases e:o=8
 ·simp only[if_pos e];rw[cA (by omega)];rfl
 simp only[if_neg e];by_cases e:o=9
 ·simp only[if_pos e];rw[cA (by omega)];rfl
 simp only[if_neg e];by_cases e:o=10
 ·simp only[if_pos e];rw[bB (uR f _)];rfl
 simp only[if_neg e];by_cases e:o=11
 ·simp only[if_pos e];rfl
 simp only[if_neg e];have i:b=true:=by
  rcases d with d|d
  ·exact d
  ·omega
 obtain⟨q,rfl,j⟩:=r i;have g:=m v c q j;rw[cA (by omega),cA (by omega)];by_cases e:o=13
 ·simp only[if_pos e];rw[cA (by omega)];rfl
 simp only[if_neg e];by_cases e:o=14
 ·simp only[if_pos e];rw[cA (by omega)];rfl
 simp only[if_neg e];by_cases e:o=15
 ·simp only[if_pos e];rw[bB (uR f _)];rfl
 simp only[if_neg e];by_cases e:o=16
 ·simp only[if_pos e];rfl
 simp only[if_neg e];have t:=w v c;rw[cA (by omega),cA (by omega)];rfl
theorem Zy {W:WLK} {nv n v:Nat} (h:WOk W nv n v) {deg:Nat} (m:(at' W.1.2.1.2 (v:Int)).length=deg) (L:deg<=24) (S:W.2.2.2.length<=800):
  ∀(e:E) (b:Bool) (c k:Nat) (p:Int) (g d:fS),W.2.2.2=g++(e.ts++d)->g.length=k->e.wf nv b=true->Wv b deg p->e.depth+850<=c->
   bS c W (k:Int) p=some (e.den (Yl W) deg p,(((k+e.ts.length:Nat)):Int)):=by
 obtain⟨Q,ab,h1,h2,h3,h4,h5,_,_⟩:=id h;have i:∀{t:fU} {l g d:fS} {k:Nat},W.2.2.2=g++((t::l)++d)->g.length=k->at' W.2.2.2 (k:Int)=t∧(k:Int)<(W.2.2.2.length:Int):=by
  intro t l g d k j r;refine⟨Tl (rest:=l++d) (by simpa using j) r,?_⟩
  rw[j];simp;omega
 intro e
 induction e with
 |lf o a=>
  intro b c k p g d j r u w B;obtain⟨c,rfl⟩:∃f,c=f+1:=⟨c - 1,by omega⟩
  obtain⟨A,s⟩:=i (l:=[]) j r;show c_ (bS c) c W (k:Int) p=_;unfold c_;rw[cA ⟨by omega,s⟩,A];dsimp only;have X:=u;simp only[E.wf,Bool.and_eq_true,Bool.or_eq_true,decide_eq_true_eq]at X;have hl:=abw h c u (m▸w);rw[if_pos (by omega),bB (show mH c _ (o,a) p=some (Yl W o a p)from hl),fF (by omega)];rfl
 |un o x ih=>
  intro b c k p g d j r u w B;obtain⟨c,rfl⟩:∃f,c=f+1:=⟨c - 1,by omega⟩
  obtain⟨A,s⟩:=i (l:=x.ts) j r;show c_ (bS c) c W (k:Int) p=_;unfold c_;rw[cA ⟨by omega,s⟩,A];dsimp only;simp only[E.wf,Bool.and_eq_true,decide_eq_true_eq]at u;simp only[E.depth]at B;have F:=ih b c (k+1) p (g++[(o,0)]) d (by rw[j];simp[E.ts]) (by simp[r]) u.2 w (by omega);rw[if_neg (by omega),if_pos (by omega),fF (by omega),bB (show bS c _ _ p=_ from F),bB (Zj c _ _)];simp only[E.den,E.ts,List.length_cons];rw[show k+1+x.ts.length=k+(x.ts.length+1) by omega]
 |bi o x y G H=>
  intro b c k p g d j r u w B;obtain⟨c,rfl⟩:∃f,c=f+1:=⟨c - 1,by omega⟩
  obtain⟨A,s⟩:=i (l:=x.ts++y.ts) j r;show c_ (bS c) c W (k:Int) p=_;unfold c_;rw[cA ⟨by omega,s⟩,A];dsimp only;simp only[E.wf,Bool.and_eq_true,decide_eq_true_eq]at u;simp only[E.depth]at B;have F:=G b c (k+1) p (g++[(o,0)]) (y.ts++d) (by rw[j];simp[E.ts]) (by simp[r]) u.1.2 w (by omega);have Y:=H b c (k+1+x.ts.length) p (g++(o,0)::x.ts) d (by rw[j];simp[E.ts]) (by simp[r];omega) u.2 w (by omega);rw[if_neg (by omega),if_neg (by omega),if_neg (by omega),if_pos (by omega),fF (by omega),bB (show bS c _ _ p=_ from F),bB (show bS c _ _ p=_ from Y),bB (UW c _ _ _)];simp only[E.den,E.ts,List.length_cons,List.length_append];rw[show k+1+x.ts.length+y.ts.length=k+(x.ts.length+y.ts.length+1) by omega]
 |ite x y z G H aa=>
  intro b c k p g d j r u w B;obtain⟨c,rfl⟩:∃f,c=f+1:=⟨c - 1,by omega⟩
  obtain⟨A,s⟩:=i (l:=x.ts++(y.ts++z.ts)) j r;show c_ (bS c) c W (k:Int) p=_;unfold c_;rw[cA ⟨by omega,s⟩,A];dsimp only;simp only[E.wf,Bool.and_eq_true]at u;simp only[E.depth]at B;have F:=G b c (k+1) p (g++[(43,0)]) (y.ts++z.ts++d) (by rw[j];simp[E.ts]) (by simp[r]) u.1.1 w (by omega);have Y:=H b c (k+1+x.ts.length) p (g++(43,0)::x.ts) (z.ts++d) (by rw[j];simp[E.ts]) (by simp[r];omega) u.1.2 w (by omega);have hz:=aa b c (k+1+x.ts.length+y.ts.length) p (g++(43,0)::(x.ts++y.ts)) d (by rw[j];simp[E.ts]) (by simp[r];omega) u.2 w (by omega);rw[if_neg (by decide),if_neg (by decide),if_neg (by decide),if_neg (by decide),fF (by omega),bB (show bS c _ _ p=_ from F),bB (show bS c _ _ p=_ from Y),bB (show bS c _ _ p=_ from hz)];simp only[E.den,E.ts,List.length_cons,List.length_append];rw[show k+1+x.ts.length+y.ts.length+z.ts.length=k+(x.ts.length+(y.ts.length+z.ts.length)+1) by omega];split<;>rfl
 | ag o x ih =>
  intro b c k p g d j r u w B;obtain⟨c,rfl⟩:∃f,c=f+1:=⟨c - 1,by omega⟩
  obtain⟨A,s⟩:=i (l:=x.ts) j r;have T:=ZJ u;have R:=u;simp only[E.wf,Bool.and_eq_true,Bool.or_eq_true,decide_eq_true_eq]at R;simp only[E.depth]at B;have P:(E.ag o x).ts.length=x.ts.length+1:=rfl;have M:=congrArg List.length j;simp only[List.length_append]at M;show c_ (bS c) c W (k:Int) p=_;unfold c_;rw[cA ⟨by omega,s⟩,A];dsimp only;rw[if_neg (by omega),if_neg (by omega),if_pos (by omega),cA (by omega)];let D:Nat->Int:=λq=>x.den (Yl W) deg ((q:Nat):Int);let V:Nat->aS:=λq=>(List.range q).map D++List.replicate (24 - q) 0;have J:∀q,q<=24->(V q).length=24:=λq U=>by simp[V];omega
  have O:∀q,q<24->(V q).set q (D q)=V (q+1):=λq U=>by
   show((List.range q).map D++List.replicate (24 - q) 0).set q (D q)=(List.range (q+1)).map D++List.replicate (24 - (q+1)) 0;rw[show 24 - q=(24 - (q+1))+1 by omega,List.replicate_succ,List.set_append_right _ _ (by simp),List.range_succ];simp
  let N:Nat->Int:=λq=>if q=0 then 0 else(((k+1+x.ts.length:Nat)):Int)
  refine Eq.trans (eS (step:=kM c W (k:Int) (bS c)) (K:=some ((E.ag o x).den (Yl W) deg p,(((k+(E.ag o x).ts.length:Nat)):Int))) deg (λq=>(N q,(q:Int),V q)) (λq ag U=> ?_) (λag=> ?_) c (by omega)) Z
  ·unfold kM;dsimp only;have F:=ih true c (k+1) ((q:Nat):Int) (g++[(o,0)]) d (by rw[j];simp[E.ts]) (by simp[r]) R.2 (λ_=>⟨q,rfl,U⟩) (by omega);rw[if_pos (by rw[Q,m];omega),fF (by omega),bB (show bS c _ _ _=_ from F),cA ⟨by omega,J q (by omega)⟩,fF (by omega),Int.toNat_natCast];show ag (_,_,(V q).set q (D q))=_;rw[O q (by omega)];simp only[N];rw[if_neg (by omega)]
  ·unfold kM;dsimp only;rw[if_neg (by rw[Q,m];omega)];have C:List.take deg (V deg)=(List.range deg).map D:=by
    show List.take deg ((List.range deg).map D++_)=_;exact List.take_left' (by simp)
   have I:∀y:Int,y=(((k+1+x.ts.length:Nat)):Int)->kL c W (k:Int) (N deg,V deg) y=some ((E.ag o x).den (Yl W) deg p,(((k+(E.ag o x).ts.length:Nat)):Int)):=by
    rintro y rfl;unfold kL;dsimp only;rw[Q,m,cA ⟨by omega,by omega,by rw[J deg L];omega⟩,A,Int.toNat_natCast,C,bB (abc c o _ (by omega) (by simp;omega) (by omega))];unfold nT;rw[P,show k+1+x.ts.length=k+(x.ts.length+1) by omega];rfl
   unfold rU;dsimp only;by_cases h0:deg=0
   ·rw[if_pos (by rw[Q,m];omega),bB (aee c (E.ag o x) T j r S (by omega))];exact I _ (by rw[P];omega)
   ·rw[if_neg (by rw[Q,m];omega)];exact I _ (by simp only[N];rw[if_neg h0])
end Go.Proofs.YtmdlcmbplnhdnaaGreatDoor
namespace Go.Proofs.YtmdlcmbplnhdnaaGreatDoor
open Go.Sx
def gK (U:Nat) (a:VQ) (b:bG) (c:Int) (d:fS):Option (Int):=
 Option.bind (bS U ((((((a.1.1,a.1.2.1,a.1.2.2)),((a.2.1.1,a.2.1.2)),a.2.2.1,a.2.2.2)),b,c,d)) (0:Int) (-1:Int)) λe=>(some (e.1))
theorem To:aV Tryz.prog 124:=Tryz.call124
theorem yH (U:Nat) {d:VQ} {s:bG} {f:Int} {t:fS} (a:Nat)  (m:Value)  (n:Value)  (o:Value)  (p:Value)  (u:kH)  (q:Value)  (v:sD)  (e:Value)  (y:sD)  (b:Value) (r:Int) (h:gK U d s f t=some r):
  aX Tryz.prog 124 #[vP a,e,vI (f),b] [bV a [vS (d.1.1),m,n,o,p,vI (d.2.2.1),q] 137,Sl aQ m d.1.2.1,Sl aJ n d.1.2.2,Sl bP o d.2.1.1,S2 a_ p u d.2.1.2,S2 bP q v d.2.2.2,S2 bP e y s,Sl a_ b t] (λx:Unit=>vI (r)) (λx l=>l) (λ_ l=>l):=by
 refine aX.of Tryz.func124 Z Tryz.ntmps124 Z λc=>?_;refine aW<|aC Z<|aM<|aW<|aA Z<|aA Z<|aA Z<|aA Z<|cD (Know.one (aE.sl (aE.fact 6 Z))) λg=>cD (Know.one ((aE.fact 7 Z))) λi=>?_;refine aB (acX (r:=Value.agg #[Value.pointer (some ⟨a,0,none⟩),e,vI (f),b]) Z Z Z Z (by intro w;simp[Instr.build,Instr.fill,dL,cT,cM,dM,dN,cU,eQ,fL g,fL i])) Z ?_;refine aG (aN.alloc (cs:=[Value.pointer none,lF,vI (0:Int),lF]) Z Z) Z λz=>cD (Know.one (aE.sl (aE.fact 6 Z))) λj=>cD (Know.one ((aE.fact 7 Z))) λk=>bQ 0 (vs:=[vP a,e,vI (f),b]) Z Z (lH Z (lH j (lH Z (lH k Z)))) Z Z Z<|aM<|aW<|eX h λA B h=>aG (aN.callQ By (Ej U z a m n o p u q v e y b A B) Z (aF.cons (aE.res 0 Z) (n_ [0,1,2,3,4,5,6,7] Z))) Z λC=>aA Z<|jA Z<|jA Z<|aC Z<|aC Z<|aM<|aW<|aA Z<|aC Z<|aM<|aU ?_;cases h;exact sE Z
def kS (U:Nat) (a:VQ) (c:bG) (d:Int) (b:Int):Option (Bool):=
 ck (0<=b∧b<(List.length a.1.2.2:Int)) (Option.bind (gK U ((((a.1.1,a.1.2.1,a.1.2.2)),((a.2.1.1,a.2.1.2)),a.2.2.1,a.2.2.2)) c d ((at' a.1.2.2 b).2.1.2)) λe=>(some (decide (e≠(0:Int)))))
theorem adS:aV Tryz.prog 94:=Tryz.call94
theorem Du (U:Nat) {a:VQ} {n:bG} {o:Int} {e:Int} (b:Nat)  (f:Value)  (g:Value)  (i:Value)  (j:Value)  (p:kH)  (k:Value)  (q:sD)  (m:Value)  (s:sD) (r:Bool) (h:kS U a n o e=some r):
  aX Tryz.prog 94 #[vP b,m,vI (o),vI (e)] [bV b [vS (a.1.1),f,g,i,j,vI (a.2.2.1),k] 137,Sl aQ f a.1.2.1,Sl aJ g a.1.2.2,Sl bP i a.2.1.1,S2 a_ j p a.2.1.2,S2 bP k q a.2.2.2,S2 bP m s n] (λx:Unit=>vB (r)) (λx l=>l) (λ_ l=>l):=by
 refine aX.of Tryz.func94 Z Tryz.ntmps94 Z λc=>?_;refine aW<|aC Z<|aM<|aW<|aA Z<|aA Z<|aA Z<|aA Z<|aB (bW Z) Z<|bU Z<|bU Z<|aB (dQ Z (aE.fact 0 Z) Z Z Z) Z<|aA Z<|dD h λd h=>aB (aZ Z Z (aE.fact 2 Z) Z Z d) Z<|aB (gA Z Z Z Z Z) Z<|aB (jQ Z (aE.fact 2 Z) Z Z Z Aw d) Z<|eX h λt u h=>aG (aN.callQ To (yH U b f g i j p k q m s ((at' a.1.2.2 e).2.1.1) t u) Z (aF.cons (aE.fact 0 Z) (aF.cons (aE.fact 1 Z) (aF.cons (aE.fact 2 Z) (aF.cons (aE.fact 3 Z) (aF.cons (aE.fact 4 Z) (aF.cons (aE.fact 5 Z) (aF.cons (aE.fact 6 Z) (aF.cons (vZ (aE.fact 2 Z) Ay d.1 d.2) .nil))))))))) Z λv=>rF Z<|aC Z<|aM<|aU ?_;cases h;exact kV Z
def nV  (a:Unit):Option (Int):=
 some (-1:Int)
def kO (U:Nat) (a:HZ) (d:bG) (e:Int) (b:Int) (c:(Int)->Option (Int)):Option (Int):=
 if b<(List.length a.1.2.2:Int)then(Option.bind (kS U ((((a.2.1.1.1,a.2.1.1.2.1,a.2.1.1.2.2)),((a.2.1.2.1.1,a.2.1.2.1.2)),a.2.1.2.2.1,a.2.1.2.2.2)) d e b) λf=>(if f=true then(some (b))else(c (wI .i64 (b+(1:Int))))))else(nV  (()))
def eY (U:Nat) (a:HZ) (b:bG) (c:Int):Option (Int):=
 bI (kO U a b c) U (0:Int)
theorem Xa:aV Tryz.prog 70:=Tryz.call70
theorem zX (U:Nat) {a:HZ} {n:bG} {m:Int} (d:Nat)  (z:Value)  (A:Value)  (e:Nat)  (o:Value)  (p:Value)  (q:Value)  (s:Value)  (B:kH)  (t:Value)  (g:sD)  (f:Value)  (v:kH)  (b:Value)  (i:sD) (r:Int) (h:eY U a n m=some r):
  aX Tryz.prog 70 #[vP d,b,vI (m)] [bV d [vS (a.1.1),z,A,vP e,f] 108,Sl aQ z a.1.2.1,Sl aJ A a.1.2.2,bV e [vS (a.2.1.1.1),o,p,q,s,vI (a.2.1.2.2.1),t] 137,Sl aQ o a.2.1.1.2.1,Sl aJ p a.2.1.1.2.2,Sl bP q a.2.1.2.1.1,S2 a_ s B a.2.1.2.1.2,S2 bP t g a.2.1.2.2.2,S2 a_ f v a.2.2,S2 bP b i n] (λx:Unit=>vI (r)) (λx l=>l) (λ_ l=>l):=by
 refine aX.of Tryz.func70 Z Tryz.ntmps70 Z λc=>?_;unfold eY at h;refine aW<|aC Z<|aM<|aK<|eD (λj=>nV  j=some r) (λj w=>[]) (λj w=>[]) ?_ ?_
 ·refine aW<|aA Z<|aB (bW Z) Z<|bU Z<|bU Z<|aB (dQ Z (aE.fact 0 Z) Z Z Z) Z<|jB (aE.fact 2 Z) Z<|aA Z<|aM<|aT<|dZ (kO U a n m) (λk y=>[(0,vP d),(1,b),(2,vI (m)),(13,vI (List.length a.1.2.2:Int)),(14,vI (k))]) (λk y=>[]) (0:Int) () h SF (aY.refl _) ?_;intro E k y h;refine aW<|cO Z<|aM<|aK ?_;refine fE h Z (λh=>?_) λh=>?_
  ·refine cK<|aK<|aT<|aW<|aA Z<|aC Z<|aM<|aW<|aA Z<|aB (bW Z) Z<|bU Z<|aB (dQ Z (aE.fact 0 Z) Z Z Z) Z<|aA Z<|aA Z<|aA Z<|eX h λC u h=>aG (aN.callQ adS (Du U e o p q s B t g b i C u) Z (n_ [3,4,5,6,7,8,10] Z)) Z λD=>aM ?_;refine Ab h Z (λ_ h=>?_) λ_ h=>?_
   ·refine aW<|aA Z<|aC Z<|aM<|aU<|bL<|aI<|aI<|bL<|aI ?_;cases h;exact kV Z
   refine dW<|mQ<|aO<|cI Z<|aA Z<|aM ?_;exact yX (wI .i64 (k+(1:Int))) () h SF Z
  refine fH ?_;exact gM () (()) h SF Z
 intro j w h;unfold nV at h;refine aW<|aC Z<|aM<|aU ?_;cases h;exact kV Z
def uW (d:Int) (a:fU) (b:Int) (c:Bool):Option (Int):=
 if c=true then(some (b))else(if d=(3:Int)then(some (-1:Int))else(if b<a.1 then(some (a.1))else(some (a.2))))
def xJ (U:Nat) (c:Int) (a:fU) (b:Int):Option (Int):=
 if a.1<=b then(uW c a b (decide (b<=a.2)))else(uW c a b (false))
theorem aax:aV Tryz.prog 164:=Tryz.call164
theorem KQ (U:Nat) {e:Int} {a:fU} {d:Int} (r:Int) (h:xJ U e a d=some r):
  aX Tryz.prog 164 #[vI (e),Value.agg #[vI (a.1),vI (a.2)],vI (d)] [] (λx:Unit=>vI (r)) (λx l=>l) (λ_ l=>l):=by
 refine aX.of Tryz.func164 Z Tryz.ntmps164 Z λc=>?_;refine aW<|aG (aN.box (cs:=[vI (a.1),vI (a.2)]) Z Z) Z λf=>aC Z<|aM<|aK<|aT<|aK<|eD (λb=>uW e a d b=some r) (λb g=>[(0,vI (e)),(2,vI (d)),(4,vP f),(7,vB (b))]) (λb g=>[bV f [vI (a.1),vI (a.2)] 141]) ?_ ?_
 ·refine aO<|aA Z ?_;refine aB (o_ (i:=0) Z Z Z Z Z (by decide)) Z ?_;refine dK 0 Z<|aB (B_ Z Z) Z<|aA Z ?_;refine Dy h Z (λ_ h=>?_) λ_ h=>?_
  ·refine cR Z ?_;refine aP Z (o_ (i:=1) Z Z Z Z Z (by decide)) Z ?_;refine aP Z (eG 0 Z Z Z Z Z) Z<|aP Z (Ca Z Z) Z<|dO Z<|aC Z<|aM ?_;exact gM (decide (d<=a.2)) () h SF Z
  refine aH Z<|aH Z<|aH Z<|aH Z<|fI Z<|aC Z<|aM ?_;exact gM (false) () h SF Z
 intro b g h;refine Ab h Z (λ_ h=>?_) λ_ h=>?_
 ·refine aW<|aA Z<|aC Z<|aM<|aU<|bL<|aI ?_;cases h;exact sE Z
 refine aW<|aA Z<|cP Z<|aC Z<|aM ?_;refine fE h Z (λh=>?_) λh=>?_
 ·refine aW<|aC Z<|aM<|aU<|bL<|aI ?_;cases h;exact sE Z
 refine aW<|aA Z ?_;refine aB (o_ (i:=0) Z Z Z Z Z (by decide)) Z ?_;refine dK 0 Z<|cO Z<|aC Z<|aM ?_;refine fE h Z (λh=>?_) λh=>?_
 ·refine aW ?_;refine aB (o_ (i:=0) Z Z Z Z Z (by decide)) Z ?_;refine dK 0 Z<|aC Z<|aM<|aU<|bL<|aI ?_;cases h;exact sE Z
 refine dW<|mQ<|aW ?_;refine aB (o_ (i:=1) Z Z Z Z Z (by decide)) Z ?_;refine dK 0 Z<|aC Z<|aM<|aU ?_;cases h;exact sE Z
def nU  (a:aS):Option aS:=
 some (a)
def kN (U:Nat) (b:HZ) (h:bG) (d:Int) (c:Int) (a:oB) (e:x_->Option aS):Option aS:=
 if a.1<(List.length ((at' b.1.2.2 c).2.2.2):Int)then(ck (0<=a.1∧a.1<(List.length ((at' b.1.2.2 c).2.2.2):Int)) (Option.bind (gK U ((((b.2.1.1.1,b.2.1.1.2.1,b.2.1.1.2.2)),((b.2.1.2.1.1,b.2.1.2.1.2)),b.2.1.2.2.1,b.2.1.2.2.2)) h d ((at' ((at' b.1.2.2 c).2.2.2) a.1).2.2)) λf=>(ck (0<=((at' ((at' b.1.2.2 c).2.2.2) a.1).1)∧((at' ((at' b.1.2.2 c).2.2.2) a.1).1)<(List.length b.1.2.1:Int)) (ck (0<=d∧d<(List.length b.2.2:Int)) (ck (0<=((at' ((at' b.1.2.2 c).2.2.2) a.1).1)∧((at' ((at' b.1.2.2 c).2.2.2) a.1).1)<(List.length (at' b.2.2 d):Int)) (Option.bind (xJ U ((at' b.1.2.1 ((at' ((at' b.1.2.2 c).2.2.2) a.1).1)).2.1) ((((at' (at' b.2.2 d) ((at' ((at' b.1.2.2 c).2.2.2) a.1).1)).1),((at' (at' b.2.2 d) ((at' ((at' b.1.2.2 c).2.2.2) a.1).1)).2))) f) λg=>(ck (0<=((at' ((at' b.1.2.2 c).2.2.2) a.1).1)∧((at' ((at' b.1.2.2 c).2.2.2) a.1).1)<(List.length a.2:Int)) (e ((wI .i64 (a.1+(1:Int))),(List.set a.2 (Int.toNat ((at' ((at' b.1.2.2 c).2.2.2) a.1).1)) g))))))))))else(nU  (a.2))
def lT (U:Nat) (d:HZ) (b:bG) (a:Int) (c:Int):Option aS:=
 ck (0<=a∧a<(List.length b:Int)) (ck ((List.length ([]:aS):Int)+(List.length (at' b a):Int)<=1099511627) (ck (0<=c∧c<(List.length d.1.2.2:Int)) (bI (kN U d b a c) U ((0:Int),(([]:aS)++(at' b a))))))
theorem aat:aV Tryz.prog 145:=Tryz.call145
theorem Ek (U:Nat) {b:HZ} {C:bG} {m:Int} {f:Int} (j:Nat)  (O:Value)  (P:Value)  (k:Nat)  (E:Value)  (F:Value)  (G:Value)  (H:Value)  (Q:kH)  (I:Value)  (y:sD)  (w:Value)  (M:kH)  (i:Value)  (A:sD) (r:aS) (h:lT U b C m f=some r):
  aX Tryz.prog 145 #[vP j,i,vI (m),vI (f)] [bV j [vS (b.1.1),O,P,vP k,w] 108,Sl aQ O b.1.2.1,Sl aJ P b.1.2.2,bV k [vS (b.2.1.1.1),E,F,G,H,vI (b.2.1.2.2.1),I] 137,Sl aQ E b.2.1.1.2.1,Sl aJ F b.2.1.1.2.2,Sl bP G b.2.1.2.1.1,S2 a_ H Q b.2.1.2.1.2,S2 bP I y b.2.1.2.2.2,S2 a_ w M b.2.2,S2 bP i A C] (λx:Value=>x) (λx l=>Ar b_ x r::l) (λ_ l=>l):=by
 refine aX.of Tryz.func145 Z Tryz.ntmps145 Z λc=>?_;refine aW<|aC Z<|aM<|aW<|aA Z<|aA Z<|dD h λB h=>aB (cH Z Z (aE.fact 10 Z) Z Z B) Z<|aB (cG Z (aE.fact 10 Z) Z Z B) Z<|i_ (f_ b_)<|dD h λS h=>aG (eN 0 dY Z Z Z (aE.el (aE.fact 10 Z) B.1 B.2) Z Z Z Z S Z) Z λv=>aC Z<|aM<|aK<|eD (λo=>nU  o=some r) (λo N=>[(9,v)]) (λo N=>[Ar b_ v o]) ?_ ?_
 ·refine aW<|aA Z<|aB (bW Z) Z<|bU Z<|bU Z<|aB (dQ Z (aE.fact 0 Z) Z Z Z) Z<|aA Z<|dD h λg h=>aB (aZ Z Z (aE.fact 2 Z) Z Z g) Z<|aB (gA Z Z Z Z Z) Z<|aB (jQ Z (aE.fact 2 Z) Z Z Z Ax g) Z<|aB (gW Z (vZ (aE.fact 2 Z) gO g.1 g.2) Z) Z<|aA Z<|aM<|aT<|dZ (kN U b C m f) (λa p=>[(0,vP j),(1,i),(2,vI (m)),(9,v),(26,(at' b.1.2.2 f).2.2.1),(27,vI (List.length ((at' b.1.2.2 f).2.2.2):Int)),(28,vI (a.1))]) (λa p=>[Ar b_ v a.2]) ((0:Int),(([]:aS)++(at' C m))) () h SF (aY.refl _) ?_;intro T a p h;refine aW<|cO Z<|aM<|aK ?_;refine fE h Z (λh=>?_) λh=>?_
  ·refine cK<|aK<|aT<|aW<|dD h λd h=>aB (aZ Z Z (vZ (aE.fact 2 Z) gO g.1 g.2) Z Z d) Z<|aB (Rp (cs:=[vI ((at' ((at' b.1.2.2 f).2.2.2) a.1).1),(at' ((at' b.1.2.2 f).2.2.2) a.1).2.1]) Z (vZ (aE.fact 2 Z) gO g.1 g.2) Li Z Z Z Z d) Z<|aG (aN.alloc (cs:=[vI (0:Int),lF]) Z Z) Z λR=>cD (Know.one ((vZ (vZ (aE.fact 2 Z) gO g.1 g.2) De d.1 d.2))) λq=>bQ 0 (vs:=[vI ((at' ((at' b.1.2.2 f).2.2.2) a.1).1),(at' ((at' b.1.2.2 f).2.2.2) a.1).2.1]) Z Z (lH Z (lH q Z)) Z Z Z<|aM<|aK ?_;refine JR.start [0,1,3,7,0,0,0,64,255,511] 8 mixedOrders (by decide +kernel) ?_;refine JR.open (by exact rfl) ?_;refine bF Z<|iW Z (bW Z)<|cY Z<|bK Z .nil (lC 0 Z) (dQ Z (aE.fact 0 Z) Z Z Z) aL.z<|bF Z<|bF Z<|cY Z<|iS 0 Z<|bM 8 Z Z<|eX h λD J h=>aG (aN.callQ To (yH U k E F G H Q I y i A ((at' ((at' b.1.2.2 f).2.2.2) a.1).2.1) D J) Z (aF.cons (aE.fact 3 Z) (aF.cons (aE.fact 4 Z) (aF.cons (aE.fact 5 Z) (aF.cons (aE.fact 6 Z) (aF.cons (aE.fact 7 Z) (aF.cons (aE.fact 8 Z) (aF.cons (aE.fact 10 Z) (aF.cons (vZ (vZ (aE.fact 2 Z) gO g.1 g.2) De d.1 d.2) .nil))))))))) Z λV=>aC Z<|aM ?_;refine JR.start [0,0,2,0,8,24,56,120,0,256,1016,2040,4088,0,8192,24576,57344,0,253952,516096,0,1048576,4186112,8380416,0,33554424,67108863,134217727] 26 mixedOrders (by decide +kernel) ?_;refine JR.open (by exact rfl) ?_;refine bF Z<|cY Z<|iS 0 Z<|bF Z<|iW Z (bW Z)<|cY Z<|cY Z<|bK Z .nil (lC 0 Z) (dQ Z (aE.fact 0 Z) Z Z Z) aL.z<|cY Z<|iS 0 Z<|dD h λs h=>bK Z .nil (lC 1 Z) (aZ Z Z (aE.fact 0 Z) Z Z s) aL.z<|iW Z (gA Z Z Z Z Z)<|bK Z .nil (lC 1 Z) (jQ Z (aE.fact 0 Z) Z Z Z yF s) aL.z<|bF Z<|iW Z (bW Z)<|cY Z<|bK Z .nil (lC 0 Z) (dQ Z (aE.fact 0 Z) Z Z Z) aL.z<|bF Z<|dD h λe h=>bK Z .nil (lC 9 Z) (cH Z Z (aE.fact 0 Z) Z Z e) aL.z<|bK Z .nil (lC 9 Z) (cG Z (aE.fact 0 Z) Z Z e) aL.z<|cY Z<|iS 0 Z<|dD h λt h=>bK Z .nil (lC 9 Z) (aZ Z Z (aE.el (aE.fact 0 Z) e.1 e.2) Z Z t) aL.z<|bK Z .nil (lC 9 Z) (iM (cs:=[vI ((at' (at' b.2.2 m) ((at' ((at' b.1.2.2 f).2.2.2) a.1).1)).1),vI ((at' (at' b.2.2 m) ((at' ((at' b.1.2.2 f).2.2.2) a.1).1)).2)]) Z (aE.el (aE.fact 0 Z) e.1 e.2) bR Z Z Z Z t) aL.z<|bF Z<|eX h λn K h=>JR.loud Z Z Z (aN.callQ aax (KQ U  n K) Z .nil) Z (λL=>(t_ [([0],[])] Z)) λL=>bM 26 Z Z<|dD h λu h=>aB (aZ Z Z (bE (aE.res 1 Z) dY) Z Z u) Z<|AQ 1 n u Z Z Z Z Z Z Z<|eT<|mQ<|aO<|cI Z<|aA Z<|aM ?_;exact lK ((wI .i64 (a.1+(1:Int))),(List.set a.2 (Int.toNat ((at' ((at' b.1.2.2 f).2.2.2) a.1).1)) n)) () h SF (aY.ix [1] Z Z) (aF.refl _ _)
  refine fH ?_;exact gM (a.2) () h SF Z
 intro o N h;unfold nU at h;refine aW<|aA Z<|aC Z<|aM<|aU ?_;cases h;exact fV (v) Z Z (RV.tmp Z) (aY.refl _) aF.nil
def nW  (a:bG):Option bG:=
 some (a)
def kP (b:Int×bG) (a:(Int×bG)->Option bG) (c:bG):Option bG:=
 a ((wI .i64 (b.1+(1:Int))),c)
def iU (U:Nat) (b:HZ) (d:bG) (g:Int) (a:Int×bG) (c:(Int×bG)->Option bG):Option bG:=
 if a.1<(List.length d:Int)then(ck (0<=a.1) (if(eB .u32 (sP .u32 g a.1) (1:Int))=(1:Int)then(Option.bind (eY U ((((b.1.1,b.1.2.1,b.1.2.2)),((((b.2.1.1.1,b.2.1.1.2.1,b.2.1.1.2.2)),((b.2.1.2.1.1,b.2.1.2.1.2)),b.2.1.2.2.1,b.2.1.2.2.2)),b.2.2)) d a.1) λe=>(Option.bind (lT U ((((b.1.1,b.1.2.1,b.1.2.2)),((((b.2.1.1.1,b.2.1.1.2.1,b.2.1.1.2.2)),((b.2.1.2.1.1,b.2.1.2.1.2)),b.2.1.2.2.1,b.2.1.2.2.2)),b.2.2)) d a.1 e) λf=>(ck (0<=a.1∧a.1<(List.length a.2:Int)) (kP a c (List.set a.2 (Int.toNat a.1) f)))))else(kP a c (a.2))))else(nW  (a.2))
def jM (U:Nat) (b:HZ) (a:bG) (c:Int):Option bG:=
 Option.bind (mM U a) λd=>(bI (iU U b a c) U ((0:Int),d))
theorem aaj:aV Tryz.prog 113:=Tryz.call113
theorem El (U:Nat) {e:HZ} {v:bG} {w:Int} (g:Nat)  (D:Value)  (E:Value)  (o:Nat)  (F:Value)  (G:Value)  (H:Value)  (I:Value)  (Q:kH)  (J:Value)  (t:sD)  (p:Value)  (u:kH)  (d:Value)  (q:sD) (r:bG) (h:jM U e v w=some r):
  aX Tryz.prog 113 #[vP g,d,vU (w)] [bV g [vS (e.1.1),D,E,vP o,p] 108,Sl aQ D e.1.2.1,Sl aJ E e.1.2.2,bV o [vS (e.2.1.1.1),F,G,H,I,vI (e.2.1.2.2.1),J] 137,Sl aQ F e.2.1.1.2.1,Sl aJ G e.2.1.1.2.2,Sl bP H e.2.1.2.1.1,S2 a_ I Q e.2.1.2.1.2,S2 bP J t e.2.1.2.2.2,S2 a_ p u e.2.2,S2 bP d q v] (λx:Lc=>x.1) (λx l=>Ar cZ.raw x.1 x.2::lD b_ x.2 r::l) (λ_ l=>l):=by
 refine aX.of Tryz.func113 Z Tryz.ntmps113 Z λc=>?_;refine aW<|aC Z<|aM<|aW<|aA Z<|eX h λR S h=>aG (aN.callQ Nj (zH U d q R S) Z (n_ [10] Z)) Z λs=>aC Z<|aM<|aK<|Ch (B:=fR) (λy=>nW  y=some r) (λy z=>[(7,s.1)]) (λy z=>[Ar cZ.raw s.1 z,lD b_ z y]) ?_ ?_
 ·refine aW<|aA Z<|aB (iY Z (aE.fact 10 Z) Z) Z<|aA Z<|aM<|aT<|dZ (B:=fR) (iU U e v w) (λa b=>[(0,vP g),(1,d),(2,vU (w)),(7,s.1),(12,vI (List.length v:Int)),(13,vI (a.1))]) (λa b=>[Ar cZ.raw s.1 b,lD b_ b a.2]) ((0:Int),R) (s.2) h SF (aY.refl _) ?_;intro L a b h;refine aW<|cO Z<|aM<|aK ?_;refine fE h Z (λh=>?_) λh=>?_
  ·refine cK<|aK<|Ch (B:=fR) (λf=>kP a (bI (iU U e v w) L) f=some r) (λf m=>[(0,vP g),(1,d),(2,vU (w)),(7,s.1),(12,vI (List.length v:Int)),(13,vI (a.1))]) (λf m=>[Ar cZ.raw s.1 m,lD b_ m f]) ?_ ?_
   ·refine aT<|aW<|aA Z<|aC Z<|aM<|aW<|aA Z<|aA Z<|dD h λK h=>aB (LE Z Z K) Z<|Au Z<|cP Z<|aM ?_;refine fE h Z (λh=>?_) λh=>?_
    ·refine aO<|aA Z<|aA Z<|aA Z<|aA Z<|aA Z<|aA Z<|aA Z<|aA Z<|eX h λM N h=>aG (aN.callQ Xa (zX U g D E o F G H I Q J t p u d q M N) Z (n_ [0,1,2,3,4,5,6,7,8,9,10] Z)) Z λT=>eX h λC O h=>aG (aN.callQ aat (Ek U g D E o F G H I Q J t p u d q C O) Z (n_ [0,1,2,3,4,5,6,7,8,9,10] Z)) Z λP=>dD h λn h=>aB (cH Z Z (bT (i:=1) (j:=2) Z Z dY) Z Z n) Z<|cD (Know.one ((bE (aE.res 0 Z) dY))) λA=>i_ (yK (k:=a.1) 2 0 Z Z Z n) ?_;refine oY 0 1 ⟨n.1,by first|exact n.2|simpa using n.2⟩ Z Z Z Z Z (by simp) A Z ?_;refine eT<|mQ ?_;exact gM (List.set a.2 (Int.toNat a.1) C) (List.set b (Int.toNat a.1) P) h SF Z
    refine dW<|mQ ?_;exact gM (a.2) (b) h SF Z
   intro f m h;unfold kP at h;refine aO<|cI Z<|aA Z<|aM ?_;exact yX ((wI .i64 (a.1+(1:Int))),f) (m) h SF Z
  refine fH ?_;exact gM (a.2) (b) h SF Z
 intro y z h;unfold nW at h;refine aW<|aA Z<|aC Z<|aM<|aU ?_;cases h;exact fV (s.1,z) Z Z (RV.tmp Z) (aY.refl _) aF.nil
def zF  (a:Int):Option (Int):=
 some (a)
def uQ (c:fU) (b:jC->Option (Int)) (a:Int):Option (Int):=
 b (a,(wI .i64 (c.2+(1:Int))))
def rR (e:Int) (d:Int->Option Bool) (a:fU) (b:jC->Option (Int)):Option (Int):=
 if a.2<e then(Option.bind (d a.2) λc=>(if c=true then(ck (0<=a.2) (uQ a b (Nf .u32 a.1 (Cv .u32 (1:Int) a.2))))else(uQ a b (a.1))))else(zF  (a.1))
def AF (U:Nat) (b:Int) (a:Int->Option Bool):Option (Int):=
 bI (rR b a) U ((0:Int),(0:Int))
theorem adE:aV Tryz.prog 68:=Tryz.call68
theorem Ob (U:Nat) {j:Int} {n:Int->Option Bool} (m:FuncId) (d:fR) (k:List bA) (f:aV Tryz.prog m) (g:∀(u:Int) (r:Bool),n u=some r->aX Tryz.prog m ([vI (u)]++d).toArray k (λ_:Unit=>vB (r)) (λ_ l=>l) (λ_ l=>l)) (r:Int) (h:AF U j n=some r):
  aX Tryz.prog 68 #[vI (j),Value.func (.func m) #[] (d).toArray] ([]++k) (λx:Unit=>vU (r)) (λx l=>l) (λ_ l=>l):=by
 refine aX.of Tryz.func68 Z Tryz.ntmps68 Z λc=>?_;unfold AF at h;refine aW<|aC Z<|aM<|aW<|aC Z<|aM<|aK<|BH (B:=Unit) (λi=>zF  i=some r) (λi o=>[(5,vU (i))]) (λi o=>[]) (λi o=>([]++k)) ?_ ?_
 ·refine aW<|aA Z<|aA Z<|aM<|aT<|Ge (B:=Unit) (rR j n) (λb p=>[(1,Value.func (.func m) #[] (d).toArray),(5,vU (b.1)),(7,vI (j)),(8,vI (b.2))]) (λb p=>[]) (λb p=>([]++k)) ((0:Int),(0:Int)) () h SF (aY.refl _) (aF.refl _ _) ?_;intro v b p h;refine aW<|cO Z<|aM<|aK ?_;refine fE h Z (λh=>?_) λh=>?_
  ·refine cK<|aK<|BH (B:=Unit) (λa=>uQ b (bI (rR j n) v) a=some r) (λa e=>[(1,Value.func (.func m) #[] (d).toArray),(5,vU (a)),(7,vI (j)),(8,vI (b.2))]) (λa e=>[]) (λa e=>([]++k)) ?_ ?_
   ·refine aT<|aW<|aA Z<|aC Z<|aM<|aW<|aA Z<|aA Z<|eX h λs t h=>aG (v_ (vs:=[vI (b.2)]) (cs:=d) f Z (g b.2 s t) Z (aF.tail _) (λ_ _=>rfl)) Z λw=>aM ?_;refine Ab h Z (λ_ h=>?_) λ_ h=>?_
    ·refine aO<|aA Z<|aA Z<|dD h λq h=>aB (OZ Z Z q) Z<|aB (ZX Z Z) Z<|aC Z<|eT<|mQ ?_;exact gM (Nf .u32 b.1 (Cv .u32 (1:Int) b.2)) () h SF Z
    refine dW<|mQ ?_;exact gM (b.1) () h SF Z
   intro a e h;unfold uQ at h;refine aO<|cI Z<|aA Z<|aM ?_;exact yX (a,(wI .i64 (b.2+(1:Int)))) () h SF Z
  refine fH ?_;exact gM (b.1) () h SF Z
 intro i o h;unfold zF at h;refine aW<|aA Z<|aC Z<|aM<|aU ?_;cases h;exact kV Z
def kK (U:Nat) (b:Int) (a:HZ) (c:bG):Option (Bool):=
 Option.bind (eY U ((((a.1.1,a.1.2.1,a.1.2.2)),((((a.2.1.1.1,a.2.1.1.2.1,a.2.1.1.2.2)),((a.2.1.2.1.1,a.2.1.2.1.2)),a.2.1.2.2.1,a.2.1.2.2.2)),a.2.2)) c b) λd=>(some (decide ((0:Int)<=d)))
theorem adF:aV Tryz.prog 69:=Tryz.call69
theorem Bt (U:Nat) {v:Int} {a:HZ} {w:bG} (j:Nat)  (d:Nat)  (o:Value)  (p:Value)  (e:Nat)  (q:Value)  (s:Value)  (t:Value)  (u:Value)  (y:kH)  (f:Value)  (k:sD)  (g:Value)  (m:kH)  (b:Nat)  (i:Value)  (n:sD) (r:Bool) (h:kK U v a w=some r):
  aX Tryz.prog 69 #[vI (v),vP j,vP b] [bV j [vP d] 84,bV d [vS (a.1.1),o,p,vP e,g] 108,Sl aQ o a.1.2.1,Sl aJ p a.1.2.2,bV e [vS (a.2.1.1.1),q,s,t,u,vI (a.2.1.2.2.1),f] 137,Sl aQ q a.2.1.1.2.1,Sl aJ s a.2.1.1.2.2,Sl bP t a.2.1.2.1.1,S2 a_ u y a.2.1.2.1.2,S2 bP f k a.2.1.2.2.2,S2 a_ g m a.2.2,bV b [i] 37,S2 bP i n w] (λx:Unit=>vB (r)) (λx l=>l) (λ_ l=>l):=by
 refine aX.of Tryz.func69 Z Tryz.ntmps69 Z λc=>?_;refine aW<|aC Z<|aM<|aW<|aB (dQ Z (aE.fact 0 Z) Z Z Z) Z<|aB (dQ Z (aE.fact 11 Z) Z Z Z) Z<|aA Z<|eX h λz A h=>aG (aN.callQ Xa (zX U d o p e q s t u y f k g m i n z A) Z (n_ [1,2,3,4,5,6,7,8,9,10,12] Z)) Z λB=>aB (B_ Z Z) Z<|aC Z<|aM<|aU ?_;cases h;exact kV Z
def dB (U:Nat) (a:HZ) (b:bG):Option (Int):=
 Option.bind (AF U (List.length a.2.2:Int) (λd=>kK U d ((((a.1.1,a.1.2.1,a.1.2.2)),((((a.2.1.1.1,a.2.1.1.2.1,a.2.1.1.2.2)),((a.2.1.2.1.1,a.2.1.2.1.2)),a.2.1.2.2.1,a.2.1.2.2.2)),a.2.2)) b)) λc=>(some (c))
theorem RA:aV Tryz.prog 44:=Tryz.call44
theorem qK (U:Nat) {a:HZ} {w:bG} (b:Nat)  (k:Value)  (m:Value)  (e:Nat)  (n:Value)  (o:Value)  (p:Value)  (q:Value)  (y:kH)  (s:Value)  (g:sD)  (f:Value)  (i:kH)  (d:Value)  (j:sD) (r:Int) (h:dB U a w=some r):
  aX Tryz.prog 44 #[vP b,d] [bV b [vS (a.1.1),k,m,vP e,f] 108,Sl aQ k a.1.2.1,Sl aJ m a.1.2.2,bV e [vS (a.2.1.1.1),n,o,p,q,vI (a.2.1.2.2.1),s] 137,Sl aQ n a.2.1.1.2.1,Sl aJ o a.2.1.1.2.2,Sl bP p a.2.1.2.1.1,S2 a_ q y a.2.1.2.1.2,S2 bP s g a.2.1.2.2.2,S2 a_ f i a.2.2,S2 bP d j w] (λx:Unit=>vU (r)) (λx l=>l) (λ_ l=>l):=by
 refine aX.of Tryz.func44 Z Tryz.ntmps44 Z λc=>?_;refine aW<|aG (aN.box (cs:=[vP b]) Z Z) Z λt=>cD (Know.one (aE.sl (aE.fact 10 Z))) λv=>?_;refine aG (aN.box (cs:=[d]) Z (by rw[fL v])) Z λu=>?_;refine aC Z<|aM<|aW<|dK 1 Z<|aB (bW Z) Z<|bU Z<|aB (dQ Z (aE.fact 0 Z) Z Z Z) Z<|aB (iY Z (aE.fact 9 Z) Z) Z<|aB (yM (cs:=[.tmp 2,.tmp 3]) (vs:=[vP t,vP u]) Z) Z<|eX h λz A h=>aG (aN.callQ adE (Ob U 69 [vP t,vP u] [bV t [vP b] 84,bV b [vS (a.1.1),k,m,vP e,f] 108,Sl aQ k a.1.2.1,Sl aJ m a.1.2.2,bV e [vS (a.2.1.1.1),n,o,p,q,vI (a.2.1.2.2.1),s] 137,Sl aQ n a.2.1.1.2.1,Sl aJ o a.2.1.1.2.2,Sl bP p a.2.1.2.1.1,S2 a_ q y a.2.1.2.1.2,S2 bP s g a.2.1.2.2.2,S2 a_ f i a.2.2,bV u [d] 37,S2 bP d j w] adF (λC r h=>Bt U t b k m e n o p q y s g f i u d j r h) z A) Z (aF.cons (aE.res 1 Z) (aF.cons (aE.fact 0 Z) (aF.cons (aE.fact 1 Z) (aF.cons (aE.fact 2 Z) (aF.cons (aE.fact 3 Z) (aF.cons (aE.fact 4 Z) (aF.cons (aE.fact 5 Z) (aF.cons (aE.fact 6 Z) (aF.cons (aE.fact 7 Z) (aF.cons (aE.fact 8 Z) (aF.cons (aE.fact 9 Z) (aF.cons (aE.res 0 Z) (n_ [10] Z)))))))))))))) Z λB=>aC Z<|aM<|aU ?_;cases h;exact sE Z
end Go.Proofs.YtmdlcmbplnhdnaaGreatDoor
namespace Go.Proofs.YtmdlcmbplnhdnaaGreatDoor
open Go Go.Sx
abbrev RL:=E×List (Nat×E)
abbrev Br:=sB×GR×Int×bG
def Dt (R:List RL):Lb:=R.map λr=>(r.1.ts,r.2.map λs=>((s.1:Int),s.2.ts))
def LV (a:Nat) (e:E):Bool:=e.wf a false&&decide (e.depth<=100)&&decide (e.ts.length<=800)
def xT (a:Nat) (R:List RL):Bool:=decide (R.length<=20)&&R.all λr=>LV a r.1&&decide (r.2.length<=20)&&r.2.all λs=>decide (s.1<a)&&LV a s.2
instance:Inhabited E:=⟨.lf 1 0⟩
def AV (g:GR) (v i:Nat):Int:=Ak (row g (fZ (row g v) i).1.toNat) (v:Int)
def fC (g:GR):bG:=(List.range g.2.length).map λv=>(List.range (row g v).length).map (AV g v)
def gX (S:Br) (c:bG) (v:Nat) (e:E):Int:=e.den (Yl (S,c,(v:Int),[])) (row S.2.1 v).length (-1)
def dU (S:Br) (R:List RL) (c:bG) (v:Nat):Int:=qQ (R.map λr=>gX S c v r.1)
def mX (a:Int) (b:fU) (x:Int):Int:=if b.1<=x∧x<=b.2 then x else if a=3 then -1 else if x<b.1 then b.1 else b.2
def FP (S:Br) (a:List Dr) (c:bG) (v:Nat) (b:aS) (s:Nat×E):aS:=b.set s.1 (mX (at' a (s.1:Int)).2.1 (mL S.2.1 a v s.1) (gX S c v s.2))
def lE (S:Br) (a:List Dr) (R:List RL) (c:bG) (v:Nat) (i:Int):aS:=(at' R i).2.foldl (FP S a c v) (at' c (v:Int))
def ZE (S:Br) (R:List RL) (c:bG):Nat:=BC (λv=>decide (0<=dU S R c v)) S.2.1.2.length
def iJ (S:Br) (vars:List Dr) (R:List RL) (c:bG) (t:Nat):bG:=(List.range c.length).map λv=>if t.testBit v=true then lE S vars R c v (dU S R c v)else at' c (v:Int)
structure As (g:GR) (nv:Nat) (c:bG):Prop where
 len:c.length=g.2.length
 row:∀v:Nat,v<g.2.length->(at' c (v:Int)).length=nv
theorem Dx.shape {g:GR} {c:bG} {a:List Dr} (h:Dx g c a):As g a.length c:=⟨h.len,h.row⟩
section
variable {S:Br} {nv:Nat} {c:List (List Int)} {v:Nat}
theorem wok (b:S.2.2.2=fC S.2.1) (d:VG S.2.1) (e:As S.2.1 nv c) (h:v<S.2.1.2.length) (j:List (Int×Int)):WOk (S,c,(v:Int),j) nv S.2.1.2.length v:=by
 refine⟨rfl,h,rfl,d.len,e.len,e.row,λu a i g=> ?_,by show S.2.2.2.length=_;rw[b];simp[fC],λu a=>by
  show(at' S.2.2.2 (u:Int)).length=_;rw[b,fC,kU _ a,List.length_map,List.length_range]⟩
 obtain⟨w,k,f⟩:=d.to a g;show 0<=(fZ (row S.2.1 u) i).1∧(fZ (row S.2.1 u) i).1<_;rw[f];omega
theorem QJ (i:S.2.2.2=fC S.2.1) (a:VG S.2.1) (j:As S.2.1 nv c) (f:v<S.2.1.2.length) {e:E} (b:LV nv e=true):gK 1000 S c (v:Int) e.ts=some (gX S c v e):=by
 simp only[LV,Bool.and_eq_true,decide_eq_true_eq]at b;have g:=a.n24;have d:=(a.node v f).deg;unfold gK;have:=Zy (wok i a j f e.ts) (deg:=(row S.2.1 v).length) Z (by omega) b.2 e false 1000 0 (-1) [] [] (by simp) Z b.1.1 (λh=>by cases h) (by omega);rw[bB (show bS 1000 _ (0:Int) (-1)=_ from this)];rfl
end
section
variable {p:sB} {g:GR} {gr:Int} {R:List RL} {nv:Nat} {c:List (List Int)} {v:Nat}
theorem GL (a:p.2.2.map yP=Dt R):p.2.2.length=R.length:=by simpa [Dt]using congrArg List.length a
theorem Uf (b:p.2.2.map yP=Dt R) {i:Nat} (a:i<R.length):yP (at' p.2.2 (i:Int))=((at' R (i:Int)).1.ts,(at' R (i:Int)).2.map λs=>((s.1:Int),s.2.ts)):=by
 have d:=GL b;have:=congrArg (λq=>q[i]?) b;simp only[Dt,List.getElem?_map,List.getElem?_eq_getElem a,List.getElem?_eq_getElem (show i<p.2.2.length by omega),Option.map_some,Option.some.injEq]at this;rw[lO a,lO (show i<p.2.2.length by omega)];exact this
theorem Um (a:xT nv R=true) {i:Nat} (b:i<R.length):LV nv (at' R (i:Int)).1=true∧(at' R (i:Int)).2.length<=20∧∀s∈(at' R (i:Int)).2,s.1<nv∧LV nv s.2=true:=by
 simp only[xT,Bool.and_eq_true,List.all_eq_true,decide_eq_true_eq]at a;have:=a.2 (at' R (i:Int)) (by rw[lO b];exact List.getElem_mem b);exact⟨this.1.1,this.1.2,λs d=>this.2 s d⟩
theorem abQ (a:xT nv R=true):R.length<=20:=by
 simp only[xT,Bool.and_eq_true,decide_eq_true_eq]at a;exact a.1
theorem XX (f:VG g) (h:As g nv c) (j:v<g.2.length) (b:p.2.2.map yP=Dt R) (d:xT nv R=true) {i:Nat} (a:i<R.length):kS 1000 (p,g,gr,fC g) c (v:Int) (i:Int)=some (nz (gX (p,g,gr,fC g) c v (at' R (i:Int)).1)):=by
 have k:=GL b;have e:(at' p.2.2 (i:Int)).2.1.2=(at' R (i:Int)).1.ts:=congrArg Prod.fst (Uf b a);unfold kS;dsimp only;rw[cA (by omega),e];rw[bB (show gK 1000 _ c (v:Int) _=_ from QJ (S:=(p,g,gr,fC g)) Z f h j (Um d a).1)];rfl
theorem Un (z:VG g) (A:As g nv c) (C:v<g.2.length) (w:p.2.2.map yP=Dt R) (s:xT nv R=true) (h:List (List (Int×Int))):eY 1000 (p,(p,g,gr,fC g),h) c (v:Int)=some (dU (p,g,gr,fC g) R c v):=by
 have E:=GL w;have y:=abQ s;let l:=R.map λr=>gX (p,g,gr,fC g) c v r.1;have B:l.length=R.length:=by simp[l]
 have o:∀i,i<R.length->at' l (i:Int)=gX (p,g,gr,fC g) c v (at' R (i:Int)).1:=λi t=>by
  rw[lO (by omega),lO t];simp[l]
 have b:∀(k:Nat) a,k<R.length->kO 1000 (p,(p,g,gr,fC g),h) c (v:Int) (k:Int) a=if nz (at' l (k:Int))=true then some (k:Int)else a (((k+1:Nat):Int)):=by
  intro k a d;unfold kO;dsimp only;rw[if_pos (by omega),bB (show kS 1000 _ c (v:Int) (k:Int)=_ from XX z A C w s d),o k d,fF (by omega)]
 unfold eY dU;by_cases f:∃i,i<R.length∧at' l (i:Int)≠0
 ·obtain⟨i,t,x⟩:=f;obtain⟨m,D,q,n⟩:=GD (p:=λi=>at' l (i:Int)≠0) i x;have n:∀j,j<m->at' l (j:Int)=0:=λj u=>Decidable.not_not.1 (n j u);rw[show qQ _=(m:Int)from sR (l:=l) (by omega) q n];exact eS (K:=some (m:Int)) m (λk=>(k:Int)) (λk a d=>by rw[b k a (by omega),if_neg (by simp[nz,n k d])]) (λa=>by rw[b m a (by omega),if_pos (by simpa [nz]using q)]) 1000 (by omega)
 ·have f:∀j,j<l.length->at' l (j:Int)=0:=λj u=>Decidable.not_not.1 λe=>f ⟨j,by omega,e⟩;rw[show qQ _=(-1:Int)from BA (l:=l) f];exact eS (K:=some (-1)) R.length (λk=>(k:Int)) (λk a d=>by rw[b k a d,if_neg (by simp[nz,f k (by omega)])]) (λa=>by
   unfold kO nV;dsimp only;rw[if_neg (by omega)]) 1000 (by omega)
theorem Bb (S:Br) (R:List RL) (c:List (List Int)) (v:Nat):dU S R c v = -1∨∃i:Nat,dU S R c v=(i:Int)∧i<R.length∧gX S c v (at' R (i:Int)).1≠0:=by
 let l:=R.map λr=>gX S c v r.1;by_cases h:∃i,i<l.length∧at' l (i:Int)≠0
 ·obtain⟨i,n,k⟩:=h;obtain⟨m,o,f,a⟩:=GD (p:=λi=>at' l (i:Int)≠0) i k;have a:∀j,j<m->at' l (j:Int)=0:=λj b=>Decidable.not_not.1 (a j b);have d:m<R.length:=by simp[l]at n;omega
  refine .inr ⟨m,sR (l:=l) (by omega) f a,d,?_⟩;have:at' l (m:Int)=gX S c v (at' R (m:Int)).1:=by rw[lO (by simpa [l]using d),lO d];simp[l]
  rw[<-this];exact f
 ·exact .inl (BA (l:=l) λj b=>Decidable.not_not.1 λe=>h ⟨j,b,e⟩)
theorem FN {S:Br} {R:List RL} {c:List (List Int)} {v:Nat}:dU S R c v = -1↔∀i:Nat,i<R.length->gX S c v (at' R (i:Int)).1=0:=by
 let l:=R.map λr=>gX S c v r.1;have a:∀i,i<R.length->at' l (i:Int)=gX S c v (at' R (i:Int)).1:=λi b=>by rw[lO (by simpa [l]using b),lO b];simp[l]
 constructor
 ·intro h i b;refine Decidable.not_not.1 λe=> ?_;obtain⟨m,n,k,f⟩:=GD (p:=λi=>at' l (i:Int)≠0) i (by rw[a i b];exact e);have f:∀j,j<m->at' l (j:Int)=0:=λj d=>Decidable.not_not.1 (f j d);have:dU S R c v=(m:Int):=sR (l:=l) (by simp[l];omega) k f;omega
 ·intro h;exact BA (l:=l) λj d=>by rw[a j (by simpa [l]using d)];exact h j (by simpa [l]using d)
theorem Kb (hV:VG g) (hc:As g nv c) (hz:p.2.2.map yP=Dt R) (hR:xT nv R=true) {tab:List (List (Int×Int))} (ht:tab.length=g.2.length):dB 1000 (p,(p,g,gr,fC g),tab) c=some ((ZE (p,g,gr,fC g) R c:Nat):Int):=by
 have h24:=hV.n24;unfold dB AF;let q:Nat->Bool:=λv=>decide (0<=dU (p,g,gr,fC g) R c v);have:=eS (step:=rR (tab.length:Int) (λy0=>kK 1000 y0 (p,(p,g,gr,fC g),tab) c)) (K:=some ((BC q g.2.length:Nat):Int)) g.2.length (λk=>(((BC q k:Nat):Int),(k:Int))) (λk ag hk=>by
  have hm:=TX q (k:=k) (by omega);unfold rR uQ kK;dsimp only;rw[if_pos (by omega),bB (show Option.bind (eY 1000 _ c (k:Int)) _=some (q k) by rw[bB (show eY 1000 _ c (k:Int)=_ from Un hV hc hk hz hR tab)]),fF (by omega)];cases hq:q k with
  |true=>
   rw[if_pos Z,cA (by omega),Rv hm (by omega)];simp only[BC,hq,if_true]
  |false=>
   rw[if_neg (by decide)];simp only[BC,hq];rfl) (λag=>by
  unfold rR zF;dsimp only;rw[if_neg (by omega)]) 1000 (by omega)
 rw[bB (show bI _ 1000 ((0:Int),(0:Int))=_ from this)];rfl
end
theorem Xf (f:Nat) (k:Int) (b:fU) (x:Int):xJ f k b x=some (mX k b x):=by
 unfold xJ uW mX;by_cases a:b.1<=x
 ·by_cases c:x<=b.2
  ·simp only[a,c,and_self,if_true,decide_true]
  ·simp only[a,c,and_false,if_true,if_false,decide_false,Bool.false_eq_true];split
   ·rfl
   ·split<;>rfl
 ·simp only[a,false_and,if_false,Bool.false_eq_true];split
  ·rfl
  ·split<;>rfl
theorem Qj {S:Br} {a:List Dr} {c:bG} {v:Nat} (l:List (Nat×E)) (b:aS):(l.foldl (FP S a c v) b).length=b.length:=by
 induction l generalizing b with
 |nil=>rfl
 |cons s l d=>rw[List.foldl_cons,d];simp[FP]
theorem VB {S:Br} {a:List Dr} {R:List RL} {c:bG} {v:Nat} {i:Int}:(lE S a R c v i).length=(at' c (v:Int)).length:=Qj _ _
section
variable {p:sB} {g:GR} {gr:Int} {R:List RL} {c:List (List Int)} {v:Nat}
theorem abB (A:VG g) (J:sN g p.2.1) (o:As g p.2.1.length c) (x:v<g.2.length) (E:p.2.2.map yP=Dt R) (H:xT p.2.1.length R=true) {i:Nat} (B:i<R.length):
  lT 1000 (p,(p,g,gr,fC g),BU g p.2.1) c (v:Int) (i:Int)=some (lE (p,g,gr,fC g) p.2.1 R c v (i:Int)):=by
 have G:=A.n24;have I:=o.len;have l:=o.row v x;have N:=J.len;have O:=GL E;have r:=Uf E B;obtain⟨-,m,d⟩:=Um H B;have D:(BU g p.2.1).length=g.2.length:=by simp[BU]
 have w:at' (BU g p.2.1) (v:Int)=Fa g p.2.1 v:=kU _ x;have L:(Fa g p.2.1 v).length=p.2.1.length:=by simp[Fa]
 have y:(at' p.2.2 (i:Int)).2.2.2.map (λs=>(s.1,s.2.2))=(at' R (i:Int)).2.map λs=>((s.1:Int),s.2.ts):=congrArg Prod.snd r;have n:(at' p.2.2 (i:Int)).2.2.2.length=(at' R (i:Int)).2.length:=by simpa using congrArg List.length y
 unfold lT;dsimp only;rw[cA (by omega),cA (by simp;omega),cA (by omega),List.nil_append];unfold lE;let a:=(at' R (i:Int)).2;have:=eS (step:=kN 1000 (p,(p,g,gr,fC g),BU g p.2.1) c (v:Int) (i:Int)) (K:=some (a.foldl (FP (p,g,gr,fC g) p.2.1 c v) (at' c (v:Int)))) a.length (λk=>((k:Int),(a.take k).foldl (FP (p,g,gr,fC g) p.2.1 c v) (at' c (v:Int)))) (λk F e=>by
  have j:k<(at' p.2.2 (i:Int)).2.2.2.length:=by rw[n];exact e
  have z:((at' (at' p.2.2 (i:Int)).2.2.2 (k:Int)).1,(at' (at' p.2.2 (i:Int)).2.2.2 (k:Int)).2.2)=(((at' a (k:Int)).1:Int),(at' a (k:Int)).2.ts):=by
   have:=congrArg (λq=>q[k]?) y;simp only[List.getElem?_map,List.getElem?_eq_getElem j,List.getElem?_eq_getElem (show k<(at' R (i:Int)).2.length from e),Option.map_some,Option.some.injEq]at this;rw[lO j,lO e];exact this
  have f:=congrArg Prod.fst z;have h:=congrArg Prod.snd z;dsimp only at f h;obtain⟨t,u⟩:=d (at' a (k:Int)) (by rw[lO e];exact List.getElem_mem e);have C:((a.take k).foldl (FP (p,g,gr,fC g) p.2.1 c v) (at' c (v:Int))).length=p.2.1.length:=by rw[Qj,l]
  have b:at' (Fa g p.2.1 v) ((at' a (k:Int)).1:Int)=mL g p.2.1 v (at' a (k:Int)).1:=kU _ t;have M:a.length<=20:=m;unfold kN;dsimp only;rw[if_pos (by omega),cA (by omega),f,h,bB (show gK 1000 _ c (v:Int) _=_ from QJ (S:=(p,g,gr,fC g)) Z A o x u),cA (by omega),cA (by omega),w,cA (by omega),b,bB (Xf 1000 _ _ _),cA (by omega),fF (by omega),Int.toNat_natCast,ER e,List.foldl_append];rfl) (λF=>by
  unfold kN nU;dsimp only;rw[if_neg (by show¬(a.length:Int)<_;rw[n];exact Int.lt_irrefl _),List.take_length]) 1000 (by show(at' R (i:Int)).2.length<1000;omega)
 exact this
theorem abV (m:VG g) (s:sN g p.2.1) (l:As g p.2.1.length c) (u:p.2.2.map yP=Dt R) (o:xT p.2.1.length R=true) {t:Nat} (b:t<4294967296) (B:∀v,t.testBit v=true->0<=dU (p,g,gr,fC g) R c v):
  jM 1000 (p,(p,g,gr,fC g),BU g p.2.1) c (t:Int)=some (iJ (p,g,gr,fC g) p.2.1 R c t):=by
 have x:=m.n24;have z:=l.len;have C:=s.len;unfold jM;rw[bB (TC c (by omega) (λv D=>by rw[l.row v (by omega)];omega))];let f:Nat->List Int:=λv=>if t.testBit v=true then lE (p,g,gr,fC g) p.2.1 R c v (dU (p,g,gr,fC g) R c v)else at' c (v:Int);let Q:Nat->List (List Int):=λk=>(List.range k).map f++c.drop k;have y:∀k,k<=c.length->(Q k).length=c.length:=λk a=>by simp[Q];omega
 have j:∀k,k<c.length->(Q k).set k (f k)=Q (k+1):=λk a=>by
  show((List.range k).map f++c.drop k).set k (f k)=(List.range (k+1)).map f++c.drop (k+1);rw[List.set_append_right _ _ (by simp),List.length_map,List.length_range,Nat.sub_self,List.drop_eq_getElem_cons a,List.set_cons_zero,List.range_succ,List.map_append,List.map_singleton,List.append_assoc];rfl
 have d:∀k,k<c.length->f k=at' c (k:Int)->Q k=Q (k+1):=λk a A=>by
  show(List.range k).map f++c.drop k=(List.range (k+1)).map f++c.drop (k+1);rw[List.range_succ,List.drop_eq_getElem_cons a,List.map_append,List.map_singleton,A,lO a];simp
 rw[show c=Q 0 by simp[Q]];refine eS (step:=iU 1000 (p,(p,g,gr,fC g),BU g p.2.1) (Q 0) (t:Int)) (K:=some (iJ (p,g,gr,fC g) p.2.1 R (Q 0) t)) c.length (λk=>((k:Int),Q k)) (λk w a=> ?_) (λw=> ?_) 1000 (by omega)
 ·rw[show Q 0=c by simp[Q]];unfold iU kP;dsimp only;rw[if_pos (by omega),cA (by omega),fF (by omega)];by_cases h:t.testBit k=true
  ·obtain⟨i,r,n,_⟩:=(Bb (p,g,gr,fC g) R c k).resolve_left (λe=>by have:=B k h;omega);rw[if_pos ((XY (by omega) b).2 h),bB (show eY 1000 _ c (k:Int)=_ from Un m l (by omega) u o _),r,bB (show lT 1000 _ c (k:Int) (i:Int)=_ from abB m s l (by omega) u o n),cA (by rw[y k (by omega)];omega),Int.toNat_natCast];have:lE (p,g,gr,fC g) p.2.1 R c k (i:Int)=f k:=by simp only[f];rw[if_pos h,r]
   rw[this,j k a]
  ·rw[if_neg (λq=>h ((XY (by omega) b).1 q)),d k a (by simp only[f];rw[if_neg h])]
 ·rw[show Q 0=c by simp[Q]];unfold iU nW;dsimp only;rw[if_neg (by omega)];simp[Q,iJ,f]
theorem Mq {S:Br} {a:List Dr} {t:Nat}:(iJ S a R c t).length=c.length:=by simp[iJ]
theorem Be {S:Br} {vars:List Dr} {t:Nat} (a:v<c.length):at' (iJ S vars R c t) (v:Int)=if t.testBit v=true then lE S vars R c v (dU S R c v)else at' c (v:Int):=kU _ a
theorem As.step {S:Br} {a:List Dr} {t:Nat} {e:Nat} {g:GR} (b:As g e c):As g e (iJ S a R c t):=⟨by rw[Mq,b.len],λv d=>by
 rw[Be (by rw[b.len];exact d)];split
 ·rw[VB,b.row v d]
 ·exact b.row v d⟩
end
end Go.Proofs.YtmdlcmbplnhdnaaGreatDoor
namespace Go.Proofs.YtmdlcmbplnhdnaaGreatDoor
open Go.Sx
def mG  (a:Unit):Option (Bool):=
 some (true)
def iN (c:aS) (a:Int) (b:(Int)->Option (Bool)):Option (Bool):=
 if a<(List.length c:Int)then(ck (0<=a∧a<(List.length c:Int)) (if(uU .u32 (at' c a) (16777215:Int))≠(0:Int)then(some (false))else(b (wI .i64 (a+(1:Int))))))else(mG  (()))
def iB (U:Nat) (a:aS):Option (Bool):=
 bI (iN a) U (0:Int)
theorem Tp:aV Tryz.prog 147:=Tryz.call147
theorem Bi (U:Nat) {d:aS} (e:Value) (r:Bool) (h:iB U d=some r):
  aX Tryz.prog 147 #[e] [Sl zP e d] (λx:Unit=>vB (r)) (λx l=>l) (λ_ l=>l):=by
 refine aX.of Tryz.func147 Z Tryz.ntmps147 Z λc=>?_;unfold iB at h;refine aW<|aC Z<|aM<|aK<|eD (λa=>mG  a=some r) (λa f=>[]) (λa f=>[]) ?_ ?_
 ·refine aW<|aA Z<|jB (aE.fact 0 Z) Z<|aA Z<|aM<|aT<|dZ (iN d) (λb g=>[(5,e),(6,vI (List.length d:Int)),(7,vI (b))]) (λb g=>[]) (0:Int) () h SF (aY.refl _) ?_;intro j b g h;refine aW<|cO Z<|aM<|aK ?_;refine fE h Z (λh=>?_) λh=>?_
  ·refine cK<|aK<|aT<|aW<|dD h λi h=>aB (aZ Z Z (aE.fact 0 Z) Z Z i) Z<|aB (bX Z (aE.fact 0 Z) Z Z Z Hu i) Z<|aC Z<|aM<|aW<|aA Z<|aB (JG Z Z) Z<|rF Z<|aM ?_;refine fE h Z (λh=>?_) λh=>?_
   ·refine aW<|aC Z<|aM<|aU<|bL<|aI<|aI<|bL<|aI ?_;cases h;exact kV Z
   refine dW<|mQ<|aO<|cI Z<|aA Z<|aM ?_;exact yX (wI .i64 (b+(1:Int))) () h SF Z
  refine fH ?_;exact gM () (()) h SF Z
 intro a f h;unfold mG at h;refine aW<|aC Z<|aM<|aU ?_;cases h;exact kV Z
def kW  (a:Bool):Option (Bool):=
 some (a)
def iH (U:Nat) (a:Iz) (c:Bool):Option (Bool):=
 if c=true then(some (false))else(if(wI .i64 (a.2.2.1+(1:Int)))<a.2.2.2.1 then(some (false))else(if a.1<=a.2.1 then(if a.2.1<=(wI .i64 ((24:Int)*a.1))then(Option.bind (iB U ([a.2.2.2.2])) λb=>(kW  (b)))else(kW  (false)))else(kW  (false))))
def kC (U:Nat) (a:Iz):Option (Bool):=
 if a.1<(0:Int)then(iH U a (true))else(if(4096:Int)<a.1 then(iH U a (true))else(if a.2.2.1<(0:Int)then(iH U a (true))else(if a.2.2.2.1<a.2.2.1 then(iH U a (true))else(iH U a (decide (a.1<a.2.2.2.1))))))
theorem aau:aV Tryz.prog 146:=Tryz.call146
theorem IE (U:Nat) {a:Iz} (r:Bool) (h:kC U a=some r):
  aX Tryz.prog 146 #[Value.agg #[vI (a.1),vI (a.2.1),vI (a.2.2.1),vI (a.2.2.2.1),vU (a.2.2.2.2)]] [] (λx:Unit=>vB (r)) (λx l=>l) (λ_ l=>l):=by
 refine aX.of Tryz.func146 Z Tryz.ntmps146 Z λc=>?_;refine aW<|aG (aN.box (cs:=[vI (a.1),vI (a.2.1),vI (a.2.2.1),vI (a.2.2.2.1),vU (a.2.2.2.2)]) Z Z) Z λj=>aC Z<|aM<|aK<|aK<|eD (λb=>iH U a b=some r) (λb k=>[(1,vP j),(29,vB (b))]) (λb k=>[bV j [vI (a.1),vI (a.2.1),vI (a.2.2.1),vI (a.2.2.2.1),vU (a.2.2.2.2)] 49]) ?_ ?_
 ·refine aO<|bU Z<|dK 0 Z<|cO Z<|aA Z ?_;refine Dy h Z (λ_ h=>?_) λ_ h=>?_
  ·refine aH Z<|aH Z<|aH Z<|dO Z<|aA Z<|aH Z<|aH Z<|aH Z<|dO Z<|aA Z<|aH Z<|aH Z<|aH Z<|aH Z<|aH Z<|dO Z<|aA Z<|aH Z<|aH Z<|aH Z<|aH Z<|aH Z<|dO Z<|aM ?_;exact gM (true) () h SF Z
  refine aP Z (dC Z Z Z Z Z) Z<|aP Z (eG 0 Z Z Z Z Z) Z<|aP Z (wS Z Z) Z<|fI Z<|aA Z ?_;refine Dy h Z (λ_ h=>?_) λ_ h=>?_
  ·refine aH Z<|aH Z<|aH Z<|dO Z<|aA Z<|aH Z<|aH Z<|aH Z<|aH Z<|aH Z<|dO Z<|aA Z<|aH Z<|aH Z<|aH Z<|aH Z<|aH Z<|dO Z<|aM ?_;exact gM (true) () h SF Z
  refine aP Z (dC Z Z Z Z Z) Z<|aP Z (eG 0 Z Z Z Z Z) Z<|aP Z (Gq Z Z) Z<|fI Z<|aA Z ?_;refine Dy h Z (λ_ h=>?_) λ_ h=>?_
  ·refine aH Z<|aH Z<|aH Z<|aH Z<|aH Z<|dO Z<|aA Z<|aH Z<|aH Z<|aH Z<|aH Z<|aH Z<|dO Z<|aM ?_;exact gM (true) () h SF Z
  refine aP Z (dC Z Z Z Z Z) Z<|aP Z (eG 0 Z Z Z Z Z) Z<|aP Z (dC Z Z Z Z Z) Z<|aP Z (eG 0 Z Z Z Z Z) Z<|aP Z (wS Z Z) Z<|fI Z<|aA Z ?_;refine Dy h Z (λ_ h=>?_) λ_ h=>?_
  ·refine aH Z<|aH Z<|aH Z<|aH Z<|aH Z<|dO Z<|aM ?_;exact gM (true) () h SF Z
  refine aP Z (dC Z Z Z Z Z) Z<|aP Z (eG 0 Z Z Z Z Z) Z<|aP Z (dC Z Z Z Z Z) Z<|aP Z (eG 0 Z Z Z Z Z) Z<|aP Z (wS Z Z) Z<|fI Z<|aM ?_;exact gM (decide (a.1<a.2.2.2.1)) () h SF Z
 intro b k h;refine Ab h Z (λ_ h=>?_) λ_ h=>?_
 ·refine aW<|aC Z<|aM<|aU<|aI ?_;cases h;exact sE Z
 refine cK<|aK<|aW<|bU Z<|dK 0 Z<|bU Z<|dK 0 Z<|cI Z<|aB (wS Z Z) Z<|aM ?_;refine fE h Z (λh=>?_) λh=>?_
 ·refine aW<|aC Z<|aM<|aU<|aI ?_;cases h;exact sE Z
 refine cK<|aK<|eD (λd=>kW  d=some r) (λd m=>[(2,vB (d))]) (λd m=>[]) ?_ ?_
 ·refine aO<|bU Z<|dK 0 Z<|bU Z<|dK 0 Z<|aB (Ca Z Z) Z<|aA Z ?_;refine Dy h Z (λ_ h=>?_) λ_ h=>?_
  ·refine aP Z (dC Z Z Z Z Z) Z<|aP Z (eG 0 Z Z Z Z Z) Z<|aP Z (dC Z Z Z Z Z) Z<|aP Z (eG 0 Z Z Z Z Z) Z<|aP Z (AT Z Z) Z<|aP Z (Ca Z Z) Z<|dO Z<|aA Z ?_;refine Dy h Z (λ_ h=>?_) λ_ h=>?_
   ·refine aP Z (dC Z Z Z Z Z) Z<|aP Z (eG 0 Z Z Z Z Z) Z<|oP Z (bY (e:=pP) ([a.2.2.2.2]) [(0,vU (a.2.2.2.2))] Z Z Z Z (lR (vU (a.2.2.2.2)) Z) Z Z Z) Z λg=>eX h λf i h=>oP Z (aN.callQ Tp (Bi U g f i) Z (aF.cons (bE (aE.res 0 Z) vT) .nil)) Z λn=>dO Z<|aC Z<|aM ?_;exact cL (f) () h SF .nil (aF.refl _ _)
   refine aH Z<|aH Z<|aH Z<|aH Z<|fI Z<|aC Z<|aM ?_;exact cL (false) () h SF .nil (aF.refl _ _)
  refine aH Z<|aH Z<|aH Z<|aH Z<|aH Z<|aH Z<|fI Z<|aA Z<|aH Z<|aH Z<|aH Z<|aH Z<|fI Z<|aC Z<|aM ?_;exact cL (false) () h SF .nil (aF.refl _ _)
 intro d m h;unfold kW at h;refine aU ?_;cases h;exact kV Z
def k_ (U:Nat) (a:Int):Option (Int):=
 ck (0<=(24:Int)) (ck (0<=(sP .u32 a (24:Int))∧(sP .u32 a (24:Int))<(List.length IW:Int)) (ck (0<=(16:Int)) (ck (0<=(eB .u32 (sP .u32 a (16:Int)) (255:Int))∧(eB .u32 (sP .u32 a (16:Int)) (255:Int))<(List.length IW:Int)) (ck (0<=(8:Int)) (ck (0<=(eB .u32 (sP .u32 a (8:Int)) (255:Int))∧(eB .u32 (sP .u32 a (8:Int)) (255:Int))<(List.length IW:Int)) (ck (0<=(eB .u32 a (255:Int))∧(eB .u32 a (255:Int))<(List.length IW:Int)) (some (wI .i64 (wI .u8 ((wI .u8 ((wI .u8 ((at' IW (sP .u32 a (24:Int)))+(at' IW (eB .u32 (sP .u32 a (16:Int)) (255:Int)))))+(at' IW (eB .u32 (sP .u32 a (8:Int)) (255:Int)))))+(at' IW (eB .u32 a (255:Int)))))))))))))
theorem aav:aV Tryz.prog 148:=Tryz.call148
theorem FV (U:Nat) {a:Int} (r:Int) (h:k_ U a=some r):
  aX Tryz.prog 148 #[vU (a)] [] (λx:Unit=>vI (r)) (λx l=>l) (λ_ l=>l):=by
 refine aX.of Tryz.func148 Z Tryz.ntmps148 Z λc=>?_;refine aW<|aC Z<|aM<|aK ?_;refine JR.start [0,1,3,0,8,24,56,127,0,256,768,1792,4095,0,8192,24576,65535,131071,262143] 16 mixedOrders (by decide +kernel) ?_;refine JR.open (by exact rfl) ?_;refine bF Z<|dD h λb h=>iW Z (LE Z Z b)<|dD h λd h=>iW Z (Cu Z Z Z Nm d)<|bF Z<|dD h λe h=>iW Z (LE Z Z e)<|iW Z (Td Z Z)<|dD h λf h=>iW Z (Cu Z Z Z Nm f)<|iW Z (Aa Z Z)<|bF Z<|dD h λg h=>iW Z (LE Z Z g)<|iW Z (Td Z Z)<|dD h λi h=>iW Z (Cu Z Z Z Nm i)<|iW Z (Aa Z Z)<|bF Z<|iW Z (Td Z Z)<|dD h λj h=>iW Z (Cu Z Z Z Nm j)<|bM 16 Z Z<|cI Z<|aB (Ro Z Z Z) Z<|aC Z<|aM<|aU ?_;cases h;exact kV Z
def pV (b:Iz) (c:Int) (a:fU):Option ((Int×Int×Int×Int×Int)×Int):=
 some ((((wI .i64 (b.1+(1:Int))),(wI .i64 (b.2.1+c)),a.1,(wI .i64 (b.2.2.1+(1:Int))),a.2)),(0:Int))
def pU (U:Nat) (a:Iz) (c:Int) (d:Int) (e:Bool):Option ((Int×Int×Int×Int×Int)×Int):=
 if e=true then(some ((((0:Int),(0:Int),(0:Int),(0:Int),(0:Int))),(11:Int)))else(if a.1=(4096:Int)then(some ((((0:Int),(0:Int),(0:Int),(0:Int),(0:Int))),(3:Int)))else(Option.bind (k_ U c) λb=>(if(eB .u32 (uU .u32 a.2.2.2.2 c) d)=(0:Int)then(pV a b ((wI .i64 (a.2.2.1+(1:Int))),d))else(pV a b (a.2.2.1,(eB .u32 (uU .u32 a.2.2.2.2 c) d))))))
def gC (U:Nat) (a:Iz) (b:Int) (c:Int):Option ((Int×Int×Int×Int×Int)×Int):=
 Option.bind (kC U ((a.1,a.2.1,a.2.2.1,a.2.2.2.1,a.2.2.2.2))) λe=>(if(!e)=true then(some ((((0:Int),(0:Int),(0:Int),(0:Int),(0:Int))),(7:Int)))else(if b=(0:Int)then(pU U a b c (true))else(Option.bind (iB U ([b,c])) λd=>(pU U a b c ((!d))))))
theorem aak:aV Tryz.prog 114:=Tryz.call114
theorem Ln (U:Nat) {a:Iz} {g:Int} {d:Int} (r:(Int×Int×Int×Int×Int)×Int) (h:gC U a g d=some r):
  aX Tryz.prog 114 #[Value.agg #[vI (a.1),vI (a.2.1),vI (a.2.2.1),vI (a.2.2.2.1),vU (a.2.2.2.2)],vU (g),vU (d)] [] (λx:Unit=>Value.tuple #[Value.agg #[vI (r.1.1),vI (r.1.2.1),vI (r.1.2.2.1),vI (r.1.2.2.2.1),vU (r.1.2.2.2.2)],vI (r.2)]) (λx l=>l) (λ_ l=>l):=by
 refine aX.of Tryz.func114 Z Tryz.ntmps114 Z λc=>?_;refine aW<|aG (aN.box (cs:=[vI (a.1),vI (a.2.1),vI (a.2.2.1),vI (a.2.2.2.1),vU (a.2.2.2.2)]) Z Z) Z λm=>aG (aN.alloc (cs:=vD2) Z Z) Z λn=>aC Z<|aM<|aK<|aW<|dV 1 Z<|eX h λu v h=>aG (aN.callQ aau (IE U  u v) Z .nil) Z λz=>aB (mE Z) Z<|aM ?_;refine Ab h Z (λ_ h=>?_) λ_ h=>?_
 ·refine aW ?_;refine aB (Hw (r:=Value.agg #[vI (0:Int),vI (0:Int),vI (0:Int),vI (0:Int),vU (0:Int)]) (by intro w;simp[Instr.build,Instr.fill,dL,cT,cM,dM,dN,cU,eQ])) Z ?_;refine bQ 0 (vs:=vD2) Z Z Z Z Z Z<|aC Z<|aM<|aU<|aI ?_;cases h;exact nS () Z Z (RV.cell 0 Z Z Z Z) (RV.tmp Z) .nil aF.nil
 refine cK<|aK<|aK<|eD (λi=>pU U a g d i=some r) (λi t=>[(1,vU (g)),(2,vU (d)),(3,vP m),(6,vP n),(20,vB (i))]) (λi t=>[bV n vD2 49,bV m [vI (a.1),vI (a.2.1),vI (a.2.2.1),vI (a.2.2.2.1),vU (a.2.2.2.2)] 49]) ?_ ?_
 ·refine aO<|aA Z<|cP Z<|aA Z ?_;refine Dy h Z (λ_ h=>?_) λ_ h=>?_
  ·refine aH Z<|aH Z<|aH Z<|aH Z<|aH Z<|dO Z<|aM ?_;exact gM (true) () h SF Z
  refine cR Z<|cR Z<|oP Z (bY (e:=pP) ([g,d]) [(0,vU (g)),(1,vU (d))] Z Z Z Z (Kg (vU (g)) (vU (d)) Z Z) Z Z Z) Z λo=>eX h λk q h=>oP Z (aN.callQ Tp (Bi U o k q) Z (aF.cons (bE (aE.res 0 Z) vT) .nil)) Z λy=>aP Z (mE Z) Z<|fI Z<|aM ?_;exact cL ((!k)) () h SF (aY.ix [1,2] Z Z) (aF.refl _ _)
 intro i t h;refine Ab h Z (λ_ h=>?_) λ_ h=>?_
 ·refine aW ?_;refine aB (Hw (r:=Value.agg #[vI (0:Int),vI (0:Int),vI (0:Int),vI (0:Int),vU (0:Int)]) (by intro w;simp[Instr.build,Instr.fill,dL,cT,cM,dM,dN,cU,eQ])) Z ?_;refine bQ 0 (vs:=vD2) Z Z Z Z Z Z<|aC Z<|aM<|aU<|aI ?_;cases h;exact nS () Z Z (RV.cell 0 Z Z Z Z) (RV.tmp Z) .nil aF.nil
 refine cK<|aK<|aW<|bU Z<|dK 1 Z<|cP Z<|aM ?_;refine fE h Z (λh=>?_) λh=>?_
 ·refine aW ?_;refine aB (Hw (r:=Value.agg #[vI (0:Int),vI (0:Int),vI (0:Int),vI (0:Int),vU (0:Int)]) (by intro w;simp[Instr.build,Instr.fill,dL,cT,cM,dM,dN,cU,eQ])) Z ?_;refine bQ 0 (vs:=vD2) Z Z Z Z Z Z<|aC Z<|aM<|aU<|aI ?_;cases h;exact nS () Z Z (RV.cell 0 Z Z Z Z) (RV.tmp Z) .nil aF.nil
 refine cK<|aW<|bU Z<|dK 1 Z<|cI Z<|bU Z<|gZ 1 Z Z Z Z Z Z<|aM<|aK ?_;refine JR.start [0,1,0,4,15,31,63] 4 mixedOrders (by decide +kernel) ?_;refine JR.open (by exact rfl) ?_;refine cY Z<|iS 1 Z<|bF Z<|eX h λf p h=>JR.loud Z Z Z (aN.callQ aav (FV U  f p) Z .nil) Z (λs=>(t_ [([1],[])] Z)) λs=>bM 4 Z Z<|cI Z<|bU Z<|gZ 1 Z Z Z Z Z Z<|aM<|aW<|bU Z<|dK 1 Z<|cI Z<|bU Z<|gZ 1 Z Z Z Z Z Z<|aM<|aW<|bU Z<|dK 1 Z<|aA Z<|aB (JG Z Z) Z<|aA Z<|Au Z<|bU Z<|gZ 1 Z Z Z Z Z Z<|aM<|aK<|eD (λb=>pV a f b=some r) (λb j=>[(3,vP m),(6,vP n)]) (λb j=>[bV n vD2 49,bV m [vI (wI .i64 (a.1+(1:Int))),vI (wI .i64 (a.2.1+f)),vI (b.1),vI (wI .i64 (a.2.2.1+(1:Int))),vU (b.2)] 49]) ?_ ?_
 ·refine aW<|bU Z<|dK 1 Z<|cP Z<|aM ?_;refine fE h Z (λh=>?_) λh=>?_
  ·refine aW<|bU Z<|dK 1 Z<|bU Z<|gZ 1 Z Z Z Z Z Z<|aM<|aO<|aA Z<|bU Z<|gZ 1 Z Z Z Z Z Z<|aM ?_;exact gM ((wI .i64 (a.2.2.1+(1:Int))),d) () h SF Z
  refine cK ?_;exact gM (a.2.2.1,(eB .u32 (uU .u32 a.2.2.2.2 g) d)) () h SF Z
 intro b j h;unfold pV at h;refine aW<|dV 1 Z<|bQ 0 (vs:=[vI (wI .i64 (a.1+(1:Int))),vI (wI .i64 (a.2.1+f)),vI (b.1),vI (wI .i64 (a.2.2.1+(1:Int))),vU (b.2)]) Z Z Z Z Z Z<|aC Z<|aM<|aU ?_;cases h;exact nS () Z Z (RV.cell 0 Z Z Z Z) (RV.tmp Z) .nil aF.nil
end Go.Proofs.YtmdlcmbplnhdnaaGreatDoor
namespace Go.Proofs.YtmdlcmbplnhdnaaGreatDoor
open Go Go.Sx
abbrev CT:=Iz
theorem Fo (l:aS) (h:l.length<=900):∃b,iB 1000 l=some b:=by
 unfold iB;have:=xD (step:=iN l) (Q:=λ_:Bool=>True) (λi:Int=>∃k:Nat,i=(k:Int)∧k<=l.length) (λi=>l.length - i.toNat) (λi f c a=>by
  obtain⟨k,rfl,g⟩:=c;unfold iN mG;by_cases e:k<l.length
  ·rw[if_pos (by omega),cA (by omega)];split
   ·exact⟨_,rfl,trivial⟩
   ·rw[fF (by omega)];exact a _ ⟨k+1,rfl,by omega⟩ (by omega)
  ·rw[if_neg (by omega)];exact⟨_,rfl,trivial⟩) 1000 0 ⟨0,rfl,by omega⟩ (by omega)
 obtain⟨b,d,_⟩:=this;exact⟨b,d⟩
theorem Na (k:CT):∃b,kC 1000 k=some b:=by
 obtain⟨q,d⟩:=Fo [k.2.2.2.2] (by simp);have c:∀a,∃b,iH 1000 k a=some b:=by
  intro a;unfold iH kW;split
  ·exact⟨_,rfl⟩
  ·split
   ·exact⟨_,rfl⟩
   ·split
    ·split
     ·rw[bB d];exact⟨_,rfl⟩
     ·exact⟨_,rfl⟩
    ·exact⟨_,rfl⟩
 unfold kC
 repeat' split
 all_goals exact c _
theorem VF {t:Nat} (i:t<4294967296):∃n,k_ 1000 (t:Int)=some n:=by
 have g:(List.length IW:Int)=256:=by decide +kernel
 have b:∀a:Nat,a<4294967296->0<=eB .u32 (a:Int) 255∧eB .u32 (a:Int) 255<256:=λa f=>by
  rw[show(255:Int)=((255:Nat):Int)from rfl,DL f (by omega)];have:a &&& 255<=255:=Nat.and_le_right;omega
 have c:∀k:Nat,k<32->sP .u32 (t:Int) (k:Int)=((t / 2^k:Nat):Int):=λk h=>Ng h;have e:sP .u32 (t:Int) 24=((t / 2^24:Nat):Int):=c 24 (by omega);have d:sP .u32 (t:Int) 16=((t / 2^16:Nat):Int):=c 16 (by omega);have j:sP .u32 (t:Int) 8=((t / 2^8:Nat):Int):=c 8 (by omega);unfold k_;rw[g,e,d,j,cA (by decide),cA (by omega),cA (by decide),cA (b _ (by omega)),cA (by decide),cA (b _ (by omega)),cA (b _ i)];exact⟨_,rfl⟩
theorem WI (k:CT) {t:Nat} (h:t<4294967296) (e:Int):∃r,gC 1000 k (t:Int) e=some r:=by
 obtain⟨b,d⟩:=Na k;obtain⟨q,g⟩:=Fo [(t:Int),e] (by simp);obtain⟨n,f⟩:=VF h;have c:∀a,∃r,pU 1000 k (t:Int) e a=some r:=by
  intro a;unfold pU pV;split
  ·exact⟨_,rfl⟩
  ·split
   ·exact⟨_,rfl⟩
   ·rw[bB f];split<;>exact⟨_,rfl⟩
 unfold gC;rw[bB (show kC 1000 _=some b from d)];split
 ·exact⟨_,rfl⟩
 ·split
  ·exact c _
  ·rw[bB g];exact c _
def aR (p:sB) (g:GR):Br:=(p,g,iR g g.2.length,fC g)
def pB (S:Br) (R:List RL) (a:Nat) (c:bG):Nat:=ZE S R c &&& a
theorem TF (S:Br) (R:List RL) (c:bG) (v:Nat):(ZE S R c).testBit v=(decide (v<S.2.1.2.length)&&decide (0<=dU S R c v)):=Md _ v _
theorem Nr (S:Br) (R:List RL) (a:Nat) (c:bG) (v:Nat):(pB S R a c).testBit v=true↔v<S.2.1.2.length∧0<=dU S R c v∧a.testBit v=true:=by
 unfold pB;rw[Nat.testBit_and,TF,Bool.and_eq_true,Bool.and_eq_true,decide_eq_true_eq,decide_eq_true_eq,and_assoc]
theorem aed {S:Br} (a:VG S.2.1) (R:List RL) (c:bG):ZE S R c<4294967296:=TX _ (by have:=a.n24;omega)
theorem Ka (S:Br) (R:List RL) (a:Nat) (c:bG):QT S.2.1 (pB S R a c):=λi b=>((Nr S R a c i).1 b).1
def abp (a:qL):aS:=a.map λt=>((t:Nat):Int)
end Go.Proofs.YtmdlcmbplnhdnaaGreatDoor
namespace Go.Proofs.YtmdlcmbplnhdnaaGreatDoor
open Go.Sx
def vO  (a:aS):Option aS:=
 some (a)
def rK (c:aS×Int) (b:(aS×Int)->Option aS) (a:aS):Option aS:=
 b (a,(wI .i64 (c.2+(1:Int))))
def oO (b:aS) (d:Int) (a:aS×Int) (c:(aS×Int)->Option aS):Option aS:=
 if a.2<d then(if(List.length b:Int)=(0:Int)then(ck ((List.length a.1:Int)+(List.length ([(4294967295:Int)]):Int)<=1099511627) (rK a c (a.1++([(4294967295:Int)]))))else(ck ((List.length b:Int)≠0) (ck (0<=(Int.tmod a.2 (List.length b:Int))∧(Int.tmod a.2 (List.length b:Int))<(List.length b:Int)) (ck ((List.length b:Int)≠0) (ck ((24:Int)≠0) (ck (0<=(wI .u64 (Int.tmod (wI .i64 (Int.tdiv a.2 (List.length b:Int))) (24:Int)))) (ck (0<=(wI .u64 ((24:Int) - (wI .u64 (Int.tmod (wI .i64 (Int.tdiv a.2 (List.length b:Int))) (24:Int)))))) (ck ((List.length a.1:Int)+(List.length ([(eB .u32 (Nf .u32 (Cv .u32 (eB .u32 (at' b (Int.tmod a.2 (List.length b:Int))) (16777215:Int)) (wI .u64 (Int.tmod (wI .i64 (Int.tdiv a.2 (List.length b:Int))) (24:Int)))) (sP .u32 (eB .u32 (at' b (Int.tmod a.2 (List.length b:Int))) (16777215:Int)) (wI .u64 ((24:Int) - (wI .u64 (Int.tmod (wI .i64 (Int.tdiv a.2 (List.length b:Int))) (24:Int))))))) (16777215:Int))]):Int)<=1099511627) (rK a c (a.1++([(eB .u32 (Nf .u32 (Cv .u32 (eB .u32 (at' b (Int.tmod a.2 (List.length b:Int))) (16777215:Int)) (wI .u64 (Int.tmod (wI .i64 (Int.tdiv a.2 (List.length b:Int))) (24:Int)))) (sP .u32 (eB .u32 (at' b (Int.tmod a.2 (List.length b:Int))) (16777215:Int)) (wI .u64 ((24:Int) - (wI .u64 (Int.tmod (wI .i64 (Int.tdiv a.2 (List.length b:Int))) (24:Int))))))) (16777215:Int))])))))))))))else(vO  (a.1))
def qG (U:Nat) (a:aS) (b:Int):Option aS:=
 bI (oO a b) U (([]:aS),(0:Int))
theorem adi:aV Tryz.prog 13:=Tryz.call13
theorem KY (U:Nat) {a:aS} {i:Int} (n:Value) (r:aS) (h:qG U a i=some r):
  aX Tryz.prog 13 #[n,vI (i)] [Sl zP n a] (λx:Value=>x) (λx l=>Ar pP x r::l) (λ_ l=>l):=by
 refine aX.of Tryz.func13 Z Tryz.ntmps13 Z λc=>?_;unfold qG at h;refine aW<|aC Z<|aM<|aW<|aC Z<|aM<|aK<|Ch (B:=Value) (λj=>vO  j=some r) (λj k=>[(5,k)]) (λj k=>[Ar pP k j]) ?_ ?_
 ·refine aW<|aC Z<|aM<|aT<|i_ (f_ pP)<|dZ (B:=Value) (oO a i) (λb f=>[(0,n),(1,vI (i)),(5,f),(6,vI (b.2))]) (λb f=>[Ar pP f b.1]) (([]:aS),(0:Int)) (lF) h SF (aY.refl _) ?_;intro w b f h;refine aK<|aW<|aA Z<|aA Z<|cO Z<|aM ?_;refine fE h Z (λh=>?_) λh=>?_
  ·refine cK<|aK<|Ch (B:=Value) (λd=>rK b (bI (oO a i) w) d=some r) (λd g=>[(0,n),(1,vI (i)),(5,g),(6,vI (b.2))]) (λd g=>[Ar pP g d]) ?_ ?_
   ·refine aT<|aK<|aW<|aA Z<|jB (aE.fact 0 Z) Z<|cP Z<|aM ?_;refine fE h Z (λh=>?_) λh=>?_
    ·refine aW<|aA Z<|aG (bY (e:=pP) ([(4294967295:Int)]) [(0,vU (4294967295:Int))] Z Z Z Z (lR (vU (4294967295:Int)) Z) Z Z Z) Z λC=>dD h λo h=>aG (eN 1 vT Z Z Z (bE (aE.res 0 Z) vT) Z Z Z Z o Z) Z λy=>aC Z<|aM<|qO<|eM<|wQ<|Bw ?_;exact cL (b.1++([(4294967295:Int)])) (y) h SF (aY.ix [1] Z Z) (aF.refl _ _)
    refine cK<|aK ?_;refine JR.start [0,0,0,4,14,31,63,0,0,256,896,1920,3968,127,16383] 14 mixedOrders (by decide +kernel) ?_;refine JR.open (by exact rfl) ?_;refine bF Z<|bF Z<|bF Z<|bK Z .nil (lC 0 Z) (gW Z (aE.fact 0 Z) Z) aL.z<|dD h λp h=>iW Z (OY Z Z p)<|dD h λm h=>bK Z .nil (lC 0 Z) (aZ Z Z (aE.fact 0 Z) Z Z m) aL.z<|bK Z .nil (lC 0 Z) (bX Z (aE.fact 0 Z) Z Z Z Hu m) aL.z<|bF Z<|bF Z<|bK Z .nil (lC 0 Z) (gW Z (aE.fact 0 Z) Z) aL.z<|dD h λq h=>iW Z (WG Z Z q)<|dD h λs h=>iW Z (OY Z Z s)<|iW Z (Ro Z Z Z)<|iW Z (oQ Z)<|bM 14 Z Z<|aC Z<|aM<|aW<|aA Z<|Au Z<|aC Z<|aM<|aO<|aA Z<|aA Z<|aA Z<|dD h λt h=>aB (OZ Z Z t) Z<|aA Z<|aA Z<|aB (oC Z Z) Z<|dD h λu h=>aB (LE Z Z u) Z<|aB (ZX Z Z) Z<|Au Z<|aG (bY (e:=pP) ([(eB .u32 (Nf .u32 (Cv .u32 (eB .u32 (at' a (Int.tmod b.2 (List.length a:Int))) (16777215:Int)) (wI .u64 (Int.tmod (wI .i64 (Int.tdiv b.2 (List.length a:Int))) (24:Int)))) (sP .u32 (eB .u32 (at' a (Int.tmod b.2 (List.length a:Int))) (16777215:Int)) (wI .u64 ((24:Int) - (wI .u64 (Int.tmod (wI .i64 (Int.tdiv b.2 (List.length a:Int))) (24:Int))))))) (16777215:Int))]) [(0,vU (eB .u32 (Nf .u32 (Cv .u32 (eB .u32 (at' a (Int.tmod b.2 (List.length a:Int))) (16777215:Int)) (wI .u64 (Int.tmod (wI .i64 (Int.tdiv b.2 (List.length a:Int))) (24:Int)))) (sP .u32 (eB .u32 (at' a (Int.tmod b.2 (List.length a:Int))) (16777215:Int)) (wI .u64 ((24:Int) - (wI .u64 (Int.tmod (wI .i64 (Int.tdiv b.2 (List.length a:Int))) (24:Int))))))) (16777215:Int)))] Z Z Z Z (lR (vU (eB .u32 (Nf .u32 (Cv .u32 (eB .u32 (at' a (Int.tmod b.2 (List.length a:Int))) (16777215:Int)) (wI .u64 (Int.tmod (wI .i64 (Int.tdiv b.2 (List.length a:Int))) (24:Int)))) (sP .u32 (eB .u32 (at' a (Int.tmod b.2 (List.length a:Int))) (16777215:Int)) (wI .u64 ((24:Int) - (wI .u64 (Int.tmod (wI .i64 (Int.tdiv b.2 (List.length a:Int))) (24:Int))))))) (16777215:Int))) Z) Z Z Z) Z λD=>dD h λv h=>aG (eN 1 vT Z Z Z (bE (aE.res 0 Z) vT) Z Z Z Z v Z) Z λA=>aC Z<|eT<|mQ ?_;exact cL (b.1++([(eB .u32 (Nf .u32 (Cv .u32 (eB .u32 (at' a (Int.tmod b.2 (List.length a:Int))) (16777215:Int)) (wI .u64 (Int.tmod (wI .i64 (Int.tdiv b.2 (List.length a:Int))) (24:Int)))) (sP .u32 (eB .u32 (at' a (Int.tmod b.2 (List.length a:Int))) (16777215:Int)) (wI .u64 ((24:Int) - (wI .u64 (Int.tmod (wI .i64 (Int.tdiv b.2 (List.length a:Int))) (24:Int))))))) (16777215:Int))])) (A) h SF (aY.ix [1] Z Z) (aF.refl _ _)
   intro d g h;unfold rK at h;refine aO<|aA Z<|cI Z<|aC Z<|aM ?_;exact yX (d,(wI .i64 (b.2+(1:Int)))) (g) h SF Z
  refine fH ?_;exact gM (b.1) (f) h SF Z
 intro j k h;unfold vO at h;refine aW<|aA Z<|aC Z<|aM<|aU ?_;cases h;exact fV (k) Z Z (RV.tmp Z) (aY.refl _) aF.nil
end Go.Proofs.YtmdlcmbplnhdnaaGreatDoor
namespace Go.Proofs.YtmdlcmbplnhdnaaGreatDoor
open Go Go.Sx
theorem QM (x:Int):0<=wI .u64 x:=by
 rw[Ew];have:IntKind.u64.wrap x=x%18446744073709551616:=rfl;rw[this];omega
theorem VS (l:aS) {n:Nat} (y:n<=900):∃ws,qG 1000 l (n:Int)=some ws∧ws.length=n∧∀k:Nat,k<ws.length->∃m:Nat,at' ws (k:Int)=(m:Int)∧m<4294967296:=by
 unfold qG;obtain⟨⟨ws,i⟩,⟨c,b,d⟩,t⟩:=D_ (step:=oO l (n:Int)) (K:=λz=>some z.1) n
  (λk z=>z.2=(k:Int)∧z.1.length=k∧∀j:Nat,j<k->∃m:Nat,at' z.1 (j:Int)=(m:Int)∧m<4294967296) (λk z q v h=>by
  obtain⟨ws,i⟩:=z;obtain⟨c,b,d⟩:=h;dsimp only at c b d;subst c;have a:∀m:Nat,m<4294967296->∀j:Nat,j<k+1->∃p:Nat,at' (ws++[(m:Int)]) (j:Int)=(p:Int)∧p<4294967296:=λm o j u=>by
   rw[NV ws _ (by omega)];by_cases e:j<ws.length
   ·rw[if_pos e];exact d j (by omega)
   ·rw[if_neg e];exact⟨m,rfl,o⟩
  have f:∀m:Nat,(List.length ws:Int)+(List.length [(m:Int)]:Int)<=1099511627:=λm=>by simp;omega
  unfold oO rK;dsimp only;rw[if_pos (by omega),fF (by omega)];by_cases x:l.length=0
  ·rw[if_pos (by omega),cA (show(List.length ws:Int)+(List.length [(4294967295:Int)]:Int)<=1099511627 from f 4294967295)];exact⟨_,⟨rfl,by simp[b],a 4294967295 (by omega)⟩,rfl⟩
  ·have r:Int.tmod (k:Int) (l.length:Int)=((k%l.length:Nat):Int):=rfl;have w:k%l.length<l.length:=Nat.mod_lt _ (by omega);rw[if_neg (by omega),cA (by omega),cA (by rw[r];omega),cA (by omega),cA (by decide),cA (QM _),cA (QM _)];have s:∀X:Int,∃m:Nat,eB .u32 X (16777215:Int)=(m:Int)∧m<4294967296:=λX=>⟨_,Nc _ _,Nat.lt_of_le_of_lt Nat.and_le_left (Jz _)⟩
   obtain⟨m,o,g⟩:=s (Nf .u32 (Cv .u32 (eB .u32 (at' l (Int.tmod (k:Int) (l.length:Int))) (16777215:Int)) (wI .u64 (Int.tmod (wI .i64 (Int.tdiv (k:Int) (l.length:Int))) (24:Int)))) (sP .u32 (eB .u32 (at' l (Int.tmod (k:Int) (l.length:Int))) (16777215:Int)) (wI .u64 ((24:Int) - (wI .u64 (Int.tmod (wI .i64 (Int.tdiv (k:Int) (l.length:Int))) (24:Int)))))));rw[o,cA (f m)];exact⟨_,⟨rfl,by simp[b],a m g⟩,rfl⟩) (λz q h=>by
  obtain⟨ws,i⟩:=z;obtain⟨c,b,d⟩:=h;dsimp only at c;subst c;unfold oO vO;dsimp only;rw[if_neg (by omega)]) 1000 (([]:aS),(0:Int)) ⟨rfl,rfl,λj u=>by omega⟩ (by omega)
 exact⟨ws,t,b,λk v=>d k (by dsimp only at b;omega)⟩
def EG (c:bG) (v:Nat):Int:=at' (at' c (v:Int)) 0
def Aj (g:GR) (c:bG) (v i:Nat):Int:=at' (at' c (fZ (row g v) i).1) 0
theorem EM {g:GR} {c:bG} {v i u:Nat} (h:(fZ (row g v) i).1=(u:Int)):Aj g c v i=EG c u:=by unfold Aj EG;rw[h]
theorem RG:∀i,i<256->0<=at' IW ((i:Nat):Int)∧at' IW ((i:Nat):Int)<=8∧(i≠0->1<=at' IW ((i:Nat):Int)):=by
 have h:((List.range 256).all λi=>decide (0<=at' IW ((i:Nat):Int)∧at' IW ((i:Nat):Int)<=8∧(i≠0->1<=at' IW ((i:Nat):Int))))=true:=by decide +kernel
 intro i a;exact of_decide_eq_true (List.all_eq_true.1 h i (List.mem_range.2 a))
theorem abE {t:Nat} (I:t<16777216) (F:t≠0):∃n:Nat,k_ 1000 (t:Int)=some (n:Int)∧1<=n∧n<=24:=by
 have q:(List.length IW:Int)=256:=by decide +kernel
 have b:∀a:Nat,a<4294967296->eB .u32 (a:Int) 255=((a%256:Nat):Int):=λa p=>by
  rw[show(255:Int)=((255:Nat):Int)from rfl,DL p (by omega),show(255:Nat)=2^8 - 1 from rfl,Nat.and_two_pow_sub_one_eq_mod]
 have c:∀k:Nat,k<32->sP .u32 (t:Int) (k:Int)=((t / 2^k:Nat):Int):=λk r=>Ng r;have e:sP .u32 (t:Int) 24=((t / 2^24:Nat):Int):=c 24 (by omega);have d:sP .u32 (t:Int) 16=((t / 2^16:Nat):Int):=c 16 (by omega);have s:sP .u32 (t:Int) 8=((t / 2^8:Nat):Int):=c 8 (by omega);have g:t / 2^24=0:=Nat.div_eq_of_lt (by omega);unfold k_;rw[q,e,d,s,b _ (by omega),b _ (by omega),b _ (by omega),g,cA (by decide),cA (by omega),cA (by decide),cA (by omega),cA (by decide),cA (by omega),cA (by omega)];obtain⟨v,w,i⟩:=RG (t / 2^16%256) (by omega);obtain⟨y,z,j⟩:=RG (t / 2^8%256) (by omega);obtain⟨D,E,l⟩:=RG (t%256) (by omega);have u:at' IW ((0:Nat):Int)=0:=rfl;have h:1<=at' IW ((t / 2^16%256:Nat):Int)+at' IW ((t / 2^8%256:Nat):Int)+at' IW ((t%256:Nat):Int):=by
  by_cases m:t / 2^16%256=0
  ·by_cases o:t / 2^8%256=0
   ·have:=l (by omega);omega
   ·have:=j o;omega
  ·have:=i m;omega
 have f:∀x:Int,0<=x->x<=100->wI .u8 x=x:=λx G H=>by
  rw[Ew];have:IntKind.u8.wrap x=x%256:=rfl;rw[this];omega
 generalize at' IW ((t / 2^16%256:Nat):Int)=A at *
 generalize at' IW ((t / 2^8%256:Nat):Int)=B at *
 generalize at' IW ((t%256:Nat):Int)=C at *
 rw[u,f (0+A) (by omega) (by omega),f (0+A+B) (by omega) (by omega),f (0+A+B+C) (by omega) (by omega),wr (by omega) (by omega)];exact⟨(0+A+B+C).toNat,by congr 1;omega,by omega,by omega⟩
theorem Is (l:aS) (j:l.length<=900) (h:∀x∈l,∃a:Nat,x=(a:Int)∧a<16777216):iB 1000 l=some true:=by
 unfold iB;refine eS (step:=iN l) (K:=some true) l.length (λk=>(k:Int)) (λk f d=> ?_) (λf=> ?_) 1000 (by omega)
 ·obtain⟨a,g,b⟩:=h (at' l (k:Int)) (by rw[lO d];exact List.getElem_mem d);unfold iN;rw[if_pos (by omega),cA (by omega),g,fF (by omega)];have:uU .u32 (a:Int) (16777215:Int)=0:=(WN _ _).2 λi c=>by
   rw[yW (by omega)]at c;have e:OB 16777215=2^24 - 1:=yW (a:=16777215) (by omega);rw[e,Nat.testBit_two_pow_sub_one,decide_eq_true_eq];by_cases h:i<24
   ·exact h
   ·have:=Nat.testBit_lt_two_pow (x:=a) (i:=i) (Nat.lt_of_lt_of_le b (Nat.pow_le_pow_right (n:=2) (by omega) (show 24<=i by omega)));rw[this]at c;cases c
  rw[this,if_neg (by simp)]
 ·unfold iN mG;rw[if_neg (by omega)]
structure Dd (k:Nat) (cnt:CT) (R B pe:Nat):Prop where
 steps:cnt.1=(k:Int)
 moves:(k:Int)<=cnt.2.1∧cnt.2.1<=24*(k:Int)
 rounds:cnt.2.2.1=(R:Int)
 begun:cnt.2.2.2.1=(B:Int)
 pend:cnt.2.2.2.2=(pe:Int)
 le:R<=B∧B<=k∧B<=R+1
 p24:pe<16777216
theorem Dd.valid {k:Nat} {i:CT} {R B j:Nat} (h:Dd k i R B j) (n:k<=1000):kC 1000 i=some true:=by
 obtain⟨a,b,c,d,e,f,g⟩:=h;have m:=Is [(j:Int)] (by simp) λx l=>by
  have l:x=(j:Int):=by simpa using l
  exact⟨j,l,g⟩
 unfold kC;rw[a,c,d,if_neg (by omega),if_neg (by omega),if_neg (by omega),if_neg (by omega),decide_eq_false (by omega)];unfold iH kW;rw[a,c,d,e,if_neg (by decide),fF (by omega),if_neg (by omega),if_pos b.1,wr (by omega) (by omega),if_pos b.2,bB m]
theorem Dd.add {k:Nat} {r:CT} {R B o:Nat} (h:Dd k r R B o) (I:k<900) {t l:Nat} (A:t<16777216) (C:t≠0) (q:l<16777216) {m:CT} {u:Int} (j:gC 1000 r (t:Int) (l:Int)=some (m,u)):
  ∃p:Nat,(∀i,p.testBit i=(o.testBit i && !t.testBit i&&l.testBit i))∧((p=0∧Dd (k+1) m (R+1) (R+1) l)∨(p≠0∧Dd (k+1) m R (R+1) p)):=by
 have H:=h.valid (by omega);obtain⟨a,b,c,d,e,f,g⟩:=h;obtain⟨n,D,E,F⟩:=abE A C;have G:=Is [(t:Int),(l:Int)] (by simp) λx y=>by
  have y:x=(t:Int)∨x=(l:Int):=by simpa using y
  rcases y with rfl|rfl
  ·exact⟨t,rfl,A⟩
  ·exact⟨l,rfl,q⟩
 have v:Fh o t<4294967296:=Pp o t;have w:∀i,(Fh o t &&& l).testBit i=(o.testBit i && !t.testBit i&&l.testBit i):=λi=>by
  rw[Nat.testBit_and,LP (by omega) (by omega)]
 have s:Fh o t &&& l<16777216:=Nat.lt_of_le_of_lt Nat.and_le_right q;unfold gC at j;rw[bB (show kC 1000 _=some true from H),if_neg (by decide),if_neg (by omega),bB G]at j;unfold pU pV at j;dsimp only at j;rw[a,c,e,if_neg (by decide),if_neg (by omega),bB D,Pa,DL v (by omega),fF (by omega),fF (by omega),wr (by omega) (by omega)]at j;refine⟨Fh o t &&& l,w,?_⟩
 by_cases z:Fh o t &&& l=0
 ·rw[if_pos (by rw[z];rfl)]at j;have:=Option.some.inj j;obtain⟨rfl,_⟩:=Prod.mk.inj this;exact .inl ⟨z,rfl,⟨by dsimp only;omega,by dsimp only;omega⟩,rfl,rfl,rfl,by omega,q⟩
 ·rw[if_neg (by omega)]at j;have:=Option.some.inj j;obtain⟨rfl,_⟩:=Prod.mk.inj this;exact .inr ⟨z,rfl,⟨by dsimp only;omega,by dsimp only;omega⟩,rfl,rfl,rfl,by omega,s⟩
def exX:E:= .ite (.bi 37 (.ag 24 (.lf 12 0)) (.lf 6 0)) (.bi 33 (.ag 24 (.lf 12 0)) (.lf 1 1)) (.lf 6 0)
def exY:E:= .ag 23 (.bi 35 (.lf 12 0) (.ag 24 (.lf 12 0)))
def guT:E:= .bi 41 (.lf 10 0) (.bi 42 (.bi 36 (.lf 5 0) (.lf 1 0)) (.bi 36 (.lf 5 1) (.lf 4 0)))
def guB:E:= .bi 41 (.un 19 (.lf 10 0)) (.bi 42 (.bi 36 (.lf 5 0) exX) (.bi 36 (.lf 5 1) exY))
def RB:List RL:=[(guT,[(0,.lf 1 0),(1,.lf 4 0)]),(guB,[(0,exX),(1,exY)])]
theorem Ym (g:GR) (v:Nat):lo g (at' tE ((0:Nat):Int)) v=0:=rfl
theorem aev (g:GR) (v:Nat):lo g (at' tE ((1:Nat):Int)) v = -1:=rfl
theorem XZ (g:GR) (v:Nat):hi g (at' tE ((0:Nat):Int)) v=(g.2.length:Int):=by
 show(0:Int)+1*(g.2.length:Int)+0*iR g g.1.length=_;omega
theorem aen (g:GR) (v:Nat):hi g (at' tE ((1:Nat):Int)) v=((row g v).length:Int) - 1:=rfl
def HR (c:bG) (v:Nat):Int:=at' (at' c (v:Int)) 1
def IC (g:GR) (c:bG) (v:Nat):aS:=(List.range (row g v).length).map λq=>Aj g c v q
def XB (g:GR) (c:bG) (v:Nat):Int:=if Ai (IC g c v)<(g.1.length:Int)then VW (wI .i64 (Ai (IC g c v)+1))else(g.1.length:Int)
def YB (g:GR) (c:bG) (v:Nat):Int:=qQ ((List.range (row g v).length).map λq=>AU (decide (Aj g c v q=Ai (IC g c v))))
def TB (g:GR) (c:bG) (v:Nat):fU:=if v=0 then(0,-1)else(XB g c v,YB g c v)
def FL (g:GR) (c:bG) (v:Nat):Prop:=EG c v=(TB g c v).1∧HR c v=(TB g c v).2
theorem uG (b:Bool):AU b≠0↔b=true:=by cases b<;>simp[AU]
theorem agw (b:Bool):AU b=0↔b=false:=by cases b<;>simp[AU]
section
variable {p:sB} {g:GR} {c:List (List Int)} {v:Nat}
theorem XD:gX (aR p g) c v exX=XB g c v:=by
 show(if AU (decide (Ai (IC g c v)<(g.1.length:Int)))≠0 then VW (wI .i64 (Ai (IC g c v)+1))else(g.1.length:Int))=_;unfold XB;by_cases h:Ai (IC g c v)<(g.1.length:Int)
 ·rw[if_pos h,if_pos (by rw[uG];exact decide_eq_true h)]
 ·rw[if_neg h,if_neg (by rw[uG];simpa using h)]
theorem XE:gX (aR p g) c v exY=YB g c v:=rfl
theorem aem:gX (aR p g) c v guT=AU (decide (AU (decide ((v:Int)=0))≠0)&&decide (AU (decide (AU (decide (EG c v≠0))≠0)||decide (AU (decide (HR c v ≠ -1))≠0))≠0)):=rfl
theorem ael:gX (aR p g) c v guB=AU (decide (AU (decide (AU (decide ((v:Int)=0))=0))≠0)&&decide (AU (decide (AU (decide (EG c v≠gX (aR p g) c v exX))≠0)||decide (AU (decide (HR c v≠gX (aR p g) c v exY))≠0))≠0)):=rfl
theorem TN:gX (aR p g) c v guT≠0↔v=0∧(EG c v≠0∨HR c v ≠ -1):=by
 rw[aem,uG,Bool.and_eq_true,decide_eq_true_eq,decide_eq_true_eq,uG,uG,Bool.or_eq_true,decide_eq_true_eq,decide_eq_true_eq,decide_eq_true_eq,uG,uG,decide_eq_true_eq,decide_eq_true_eq];constructor
 ·rintro⟨a,b⟩;exact⟨by omega,b⟩
 ·rintro⟨a,b⟩;exact⟨by omega,b⟩
theorem TM:gX (aR p g) c v guB≠0↔v≠0∧(EG c v≠XB g c v∨HR c v≠YB g c v):=by
 rw[ael,XD,XE,uG,Bool.and_eq_true,decide_eq_true_eq,decide_eq_true_eq,uG,uG,Bool.or_eq_true,decide_eq_true_eq,decide_eq_true_eq,decide_eq_true_eq,agw,uG,uG,decide_eq_true_eq,decide_eq_true_eq,decide_eq_false_iff_not];constructor
 ·rintro⟨a,b⟩;exact⟨by omega,b⟩
 ·rintro⟨a,b⟩;exact⟨by omega,b⟩
theorem Qb (h:0<=dU (aR p g) RB c v):(dU (aR p g) RB c v=0∧v=0∧¬FL g c v)∨(dU (aR p g) RB c v=1∧v≠0∧¬FL g c v):=by
 obtain⟨i,k,j,l⟩:=(Bb (aR p g) RB c v).resolve_left (λe=>by omega);have j:i<2:=j
 match i,j with
 |0,_=>
  obtain⟨a,b⟩:=TN.1 l;refine .inl ⟨k,a,?_⟩;unfold FL TB;rw[if_pos a];rintro⟨d,f⟩;rcases b with b|b
  ·exact b d
  ·exact b f
 |1,_=>
  obtain⟨a,b⟩:=TM.1 l;refine .inr ⟨k,a,?_⟩;unfold FL TB;rw[if_neg a];rintro⟨d,f⟩;rcases b with b|b
  ·exact b d
  ·exact b f
theorem VL (h:¬0<=dU (aR p g) RB c v):FL g c v:=by
 have e:dU (aR p g) RB c v = -1:=by
  rcases Bb (aR p g) RB c v with e|⟨i,f,_⟩
  ·exact e
  ·omega
 have b:¬gX (aR p g) c v guT≠0:=λq=>q (FN.1 e 0 (by decide));have d:¬gX (aR p g) c v guB≠0:=λq=>q (FN.1 e 1 (by decide));rw[TN]at b;rw[TM]at d;unfold FL TB;by_cases a:v=0
 ·rw[if_pos a];exact⟨Decidable.not_not.1 λq=>b ⟨a,.inl q⟩,Decidable.not_not.1 λq=>b ⟨a,.inr q⟩⟩
 ·rw[if_neg a];exact⟨Decidable.not_not.1 λq=>d ⟨a,.inl q⟩,Decidable.not_not.1 λq=>d ⟨a,.inr q⟩⟩
theorem Mn:¬0<=dU (aR p g) RB c v↔FL g c v:=by
 refine⟨VL,λh q=> ?_⟩
 rcases Qb q with⟨_,_,e⟩|⟨_,_,e⟩<;>exact e h
theorem abC (b:VG g) (d:Dx g c tE) (h:v<g.2.length) {i:Nat} (e:i<(row g v).length):0<=Aj g c v i∧Aj g c v i<=(g.2.length:Int):=by
 obtain⟨u,f,a,_⟩:=b.port h e;rw[EM a];have:=d.ok u f 0 (by decide);rw[Ym,XZ]at this;exact this
theorem So {x:Int} (h:x∈IC g c v):∃i,i<(row g v).length∧Aj g c v i=x:=by
 obtain⟨i,b,a⟩:=List.mem_map.1 h;exact⟨i,List.mem_range.1 b,a⟩
theorem agu (d:VG g) (m:Dx g c tE) (o:v<g.2.length):0<=XB g c v∧XB g c v<=(g.2.length:Int)∧(∀i,i<(row g v).length->XB g c v<=Aj g c v i+1)∧(XB g c v=(g.2.length:Int)∨∃i,i<(row g v).length∧XB g c v=Aj g c v i+1):=by
 have l:=d.n24;have k:=d.len;have a:∀i,i<(row g v).length->Ai (IC g c v)<=Aj g c v i:=λi b=>NI (List.mem_map.2 ⟨i,List.mem_range.2 b,rfl⟩);unfold XB;by_cases h:Ai (IC g c v)<(g.1.length:Int)
 ·rw[if_pos h];rcases Kx (IC g c v)with e|e
  ·omega
  ·obtain⟨i,b,r⟩:=So e;have q:=abC d m o b;have n:VW (wI .i64 (Ai (IC g c v)+1))=Ai (IC g c v)+1:=by
    rw[wr (by omega) (by omega)];unfold VW;omega
   rw[n];refine⟨by omega,by omega,λj f=> ?_,.inr ⟨i,b,by omega⟩⟩
   have:=a j f;omega
 ·rw[if_neg h];refine⟨by omega,by omega,λj f=> ?_,.inl (by omega)⟩
  have:=a j f;omega
theorem Vl (l:List Int) : -1<=qQ l∧qQ l<=(l.length:Int) - 1:=by
 unfold qQ;cases h:l.findIdx? nz with
 |none=>dsimp only;omega
 |some i=>
  obtain⟨a,_⟩:=List.findIdx?_eq_some_iff_getElem.1 h;dsimp only;omega
theorem agv : -1<=YB g c v∧YB g c v<=((row g v).length:Int) - 1:=by
 have:=Vl ((List.range (row g v).length).map λq=>AU (decide (Aj g c v q=Ai (IC g c v))));rw[List.length_map,List.length_range]at this;exact this
theorem agr (d:VG g) (e:Dx g c tE) (f:v<g.2.length):(0<=(TB g c v).1∧(TB g c v).1<=(g.2.length:Int)) ∧ -1<=(TB g c v).2∧(TB g c v).2<=((row g v).length:Int) - 1:=by
 unfold TB;split
 ·dsimp only;omega
 ·obtain⟨a,b,_⟩:=agu d e f;exact⟨⟨a,b⟩,agv⟩
theorem DO {k a b x:Int} (d:a<=x) (e:x<=b):mX k (a,b) x=x:=by unfold mX;rw[if_pos ⟨d,e⟩]
theorem ZV {a:List (List Int)} (j:VG g) (l:v<g.2.length) (h:∀u,u<g.2.length->EG a u=EG c u):TB g a v=TB g c v:=by
 have f:∀i,i<(row g v).length->Aj g a v i=Aj g c v i:=λi b=>by
  obtain⟨u,k,d,_⟩:=j.port l b;rw[EM d,EM d,h u k]
 have e:IC g a v=IC g c v:=List.map_congr_left λi b=>f i (List.mem_range.1 b);have m:YB g a v=YB g c v:=by
  unfold YB;rw[e];congr 1;exact List.map_congr_left λi b=>by rw[f i (List.mem_range.1 b)]
 unfold TB;rw[m];unfold XB;rw[e]
end
def Cl (k:Nat) (x y:Int):Prop:=(y<(k:Int)->x=y)∧((k:Int)<=y->(k:Int)<=x)
def pQ (g:GR) (d:aS) (v:Nat) (p:Int):Prop:=(∃i:Nat,i<(row g v).length∧p=i∧at' d (fZ (row g v) i).1=D d v - 1∧∀k,k<i->¬at' d (fZ (row g v) k).1=D d v - 1)∨(p = -1∧∀k,k<(row g v).length->¬at' d (fZ (row g v) k).1=D d v - 1)
theorem pQ.uniq {g:GR} {d:aS} {v:Nat} {p l:Int} (h:pQ g d v p) (m:pQ g d v l):p=l:=by
 rcases h with⟨i,a,b,c,n⟩|⟨a,b⟩<;>rcases m with⟨j,e,f,k,o⟩|⟨e,f⟩
 ·have:i=j:=by
   rcases Nat.lt_trichotomy i j with q|q|q
   ·exact absurd c (o i q)
   ·exact q
   ·exact absurd k (n j q)
  omega
 ·exact absurd c (f i a)
 ·exact absurd k (b j e)
 ·omega
section
variable {g:GR} {d:List Int} {c:List (List Int)} (hV:VG g) (hD:qZ g 0 d) (h0:∀v,v<g.2.length->0<=D d v)
 include hV hD h0
theorem ahq (s:∀u,u<g.2.length->EG c u=D d u) {v:Nat} (l:v<g.2.length):(TB g c v).1=D d v∧pQ g d v (TB g c v).2:=by
 have J:=hV.n24;have O:=hV.n1;have I:=hV.len;have b:∀i u:Nat,(fZ (row g v) i).1=(u:Int)->u<g.2.length->Aj g c v i=D d u∧at' d (fZ (row g v) i).1=D d u:=λi u a f=>⟨by rw[EM a];exact s u f,by rw[a]⟩
 unfold TB;by_cases q:v=0
 ·subst q;rw[if_pos Z];have Q:=(hD.zero 0 l).2 Z;refine⟨Q.symm,.inr ⟨rfl,λk G e=> ?_⟩⟩
  obtain⟨u,f,a,_⟩:=hV.port l G;rw[(b k u a f).2]at e;have:=h0 u f;omega
 ·rw[if_neg q];have z:0<D d v:=by
   have:=h0 v l;have P:D d v≠0:=λe=>q ((hD.zero v l).1 e);omega
  obtain⟨R,H,⟨B,t,A⟩,C⟩:=hD.near v l z;have n:Aj g c v B=D d v - 1:=by rw[(b B R A H).1,C]
  have E:∀i,i<(row g v).length->D d v - 1<=Aj g c v i:=λi F=>by
   obtain⟨u,f,a,r⟩:=hV.port l F;rw[(b i u a f).1];have:=(hD.next u f (h0 u f) v l (hV.back l r)).2;omega
  have o:Ai (IC g c v)=D d v - 1:=by
   have S:Ai (IC g c v)<=D d v - 1:=n▸NI (List.mem_map.2 ⟨B,List.mem_range.2 t,rfl⟩);rcases Kx (IC g c v)with e|e
   ·have:=hD.hi v l;omega
   ·obtain⟨i,F,T⟩:=So e;have:=E i F;omega
  have M:=hD.hi v l;have K:XB g c v=D d v:=by
   unfold XB;rw[o,if_pos (by omega),wr (by omega) (by omega)];unfold VW;omega
  refine⟨K,?_⟩
  show pQ g d v (YB g c v);obtain⟨m,U,h,y⟩:=GD (p:=λi=>i<(row g v).length∧Aj g c v i=D d v - 1) B ⟨t,n⟩;have L:YB g c v=(m:Int):=by
   unfold YB;rw[o];refine sR (by simpa using h.1) ?_ λj N=> ?_
   ·rw[kU _ h.1,decide_eq_true h.2];simp[AU]
   ·have w:j<(row g v).length:=by omega
    rw[kU _ w,decide_eq_false λe=>y j N ⟨w,e⟩];simp[AU]
  refine .inl ⟨m,h.1,L,?_,λk G e=> ?_⟩
  ·obtain⟨u,f,a,_⟩:=hV.port l h.1;rw[(b m u a f).2,<-(b m u a f).1];exact h.2
  ·have x:k<(row g v).length:=by omega
   obtain⟨u,f,a,_⟩:=hV.port l x;rw[(b k u a f).2,<-(b k u a f).1]at e;exact y k G ⟨x,e⟩
end
structure ZD (g:GR) (d:aS) (k:Nat) (c:bG):Prop where
 near:∀v,v<g.2.length->D d v<(k:Int)->EG c v=D d v∧pQ g d v (HR c v)
 far:∀v,v<g.2.length->(k:Int)<=D d v->(k:Int)<=EG c v
def TrT (g:GR) (d:aS) (k:Nat) (c:bG) (v:Nat):Prop:=v<g.2.length∧((D d v<=(k:Int)∧¬(EG c v=D d v∧pQ g d v (HR c v)))∨((k:Int)<D d v∧EG c v<=(k:Int)))
structure TrS (g:GR) (c:bG) (t:Nat) (c':bG):Prop where
 stay:∀v,v<g.2.length->t.testBit v=false->EG c' v=EG c v∧HR c' v=HR c v
 move:∀v,v<g.2.length->t.testBit v=true->EG c' v=(TB g c v).1∧HR c' v=(TB g c v).2
section
variable {g:GR} {d:List Int} {c c':List (List Int)} {k t:Nat} (hV:VG g) (hD:qZ g 0 d) (h0:∀v,v<g.2.length->0<=D d v)
 include hV hD h0
theorem Zb (h:ZD g d k c) {v:Nat} (w:v<g.2.length):(D d v<=(k:Int)->(TB g c v).1=D d v∧pQ g d v (TB g c v).2)∧((k:Int)<D d v->(k:Int)<(TB g c v).1):=by
 have P:=hV.n24;have W:=hV.n1;have O:=hV.len;have T:=hD.hi v w;have x:∀i,i<(row g v).length->∃u,u<g.2.length∧at' d (fZ (row g v) i).1=D d u∧D d v - 1<=D d u∧(D d u<(k:Int)->Aj g c v i=D d u)∧((k:Int)<=D d u->(k:Int)<=Aj g c v i):=λi b=>by
  obtain⟨u,n,y,A⟩:=hV.port w b;have:=(hD.next u n (h0 u n) v w (hV.back w A)).2;rw[EM y,y];exact⟨u,n,rfl,by omega,λq=>(h.near u n q).1,λq=>h.far u n q⟩
 unfold TB;by_cases z:v=0
 ·subst z;rw[if_pos Z];have Y:=(hD.zero 0 w).2 Z;refine⟨λ_=>⟨Y.symm,.inr ⟨rfl,λi b e=> ?_⟩⟩,λq=>by omega⟩
  obtain⟨u,n,y,_⟩:=x i b;have:=h0 u n;omega
 rw[if_neg z];have E:0<D d v:=by
  have:=h0 v w;have X:D d v≠0:=λe=>z ((hD.zero v w).1 e);omega
 have r:Ai (IC g c v)=1073741824∨∃i,i<(row g v).length∧Aj g c v i=Ai (IC g c v):=by
  rcases Kx (IC g c v)with e|e
  ·exact .inl e
  ·exact .inr (So e)
 refine⟨λU=> ?_,λU=> ?_⟩
 ·obtain⟨u0,K,⟨L,B,F⟩,H⟩:=hD.near v w E;have o:Aj g c v L=D d v - 1:=by
   rw[EM F,(h.near u0 K (by omega)).1,H]
  have f:∀i,i<(row g v).length->D d v - 1<=Aj g c v i∧(Aj g c v i=D d v - 1↔at' d (fZ (row g v) i).1=D d v - 1):=λi b=>by
   obtain⟨u,n,e,M,N,G⟩:=x i b;by_cases q:D d u<(k:Int)
   ·have:=N q;omega
   ·have:=G (by omega);omega
  have s:Ai (IC g c v)=D d v - 1:=by
   have M:Ai (IC g c v)<=D d v - 1:=o▸NI (List.mem_map.2 ⟨L,List.mem_range.2 B,rfl⟩);rcases r with e|⟨i,b,S⟩
   ·omega
   ·have:=(f i b).1;omega
  have Q:XB g c v=D d v:=by
   unfold XB;rw[s,if_pos (by omega),wr (by omega) (by omega)];unfold VW;omega
  refine⟨Q,?_⟩
  show pQ g d v (YB g c v);obtain⟨m,V,a,C⟩:=GD (p:=λi=>i<(row g v).length∧Aj g c v i=D d v - 1) L ⟨B,o⟩;have R:YB g c v=(m:Int):=by
   unfold YB;rw[s];refine sR (by simpa using a.1) ?_ λj J=> ?_
   ·rw[kU _ a.1,decide_eq_true a.2];simp[AU]
   ·have l:j<(row g v).length:=by omega
    rw[kU _ l,decide_eq_false λe=>C j J ⟨l,e⟩];simp[AU]
  refine .inl ⟨m,a.1,R,((f m a.1).2).1 a.2,λj J e=> ?_⟩;have l:j<(row g v).length:=by omega
  exact C j J ⟨l,((f j l).2).2 e⟩
 ·have I:∀i,i<(row g v).length->(k:Int)<=Aj g c v i:=λi b=>by
   obtain⟨u,n,e,M,N,G⟩:=x i b;exact G (by omega)
  have V:(k:Int)<=Ai (IC g c v):=by
   rcases r with e|⟨i,b,S⟩
   ·omega
   ·have:=I i b;omega
  show(k:Int)<XB g c v;unfold XB;by_cases q:Ai (IC g c v)<(g.1.length:Int)
  ·rw[if_pos q,wr (by omega) (by omega)];unfold VW;omega
  ·rw[if_neg q];omega
theorem Ur (h:ZD g d k c) {v:Nat} (f:TrT g d k c v):¬FL g c v:=by
 obtain⟨m,f⟩:=f;obtain⟨a,b⟩:=Zb hV hD h0 h m;rintro⟨n,o⟩;rcases f with⟨e,i⟩|⟨e,i⟩
 ·obtain⟨j,l⟩:=a e;exact i ⟨by rw[n,j],by rw[o];exact l⟩
 ·have:=b e;omega
theorem Zc (h:ZD g d k c) (l:TrS g c t c'):ZD g d k c'∧∀v,TrT g d k c' v->TrT g d k c v∧t.testBit v=false:=by
 refine⟨⟨λv e n=> ?_,λv e n=> ?_⟩,λv ⟨e,m⟩=> ?_⟩
 all_goals obtain⟨a,b⟩:=Zb hV hD h0 h e
 ·cases f:t.testBit v with
  |true=>obtain⟨i,j⟩:=l.move v e f;rw[i,j];exact a (by omega)
  |false=>obtain⟨i,j⟩:=l.stay v e f;rw[i,j];exact h.near v e n
 ·cases f:t.testBit v with
  |true=>
   rw[(l.move v e f).1];by_cases q:D d v<=(k:Int)
   ·rw[(a q).1];exact n
   ·have:=b (by omega);omega
  |false=>rw[(l.stay v e f).1];exact h.far v e n
 ·cases f:t.testBit v with
  |true=>
   exfalso;obtain⟨i,j⟩:=l.move v e f;rw[i,j]at m;rcases m with⟨o,p⟩|⟨o,p⟩
   ·exact p (a o)
   ·have:=b o;omega
  |false=>
   obtain⟨i,j⟩:=l.stay v e f;rw[i,j]at m;exact⟨⟨e,m⟩,rfl⟩
 omit hV hD in
theorem Mv (b:∀v,v<g.2.length->0<=EG c v):ZD g d 0 c:=⟨λv a q=>by have:=h0 v a;omega,λv a _=>b v a⟩
 omit hV hD h0 in
theorem Qw (h:ZD g d k c) (e:∀v,¬TrT g d k c v):ZD g d (k+1) c:=by
  have b:∀v,v<g.2.length->(D d v<=(k:Int)->EG c v=D d v∧pQ g d v (HR c v))∧((k:Int)<D d v->(k:Int)<EG c v):=λv a=>
   ⟨λq=>Classical.not_not.1 λr=>e v ⟨a,.inl ⟨q,r⟩⟩,λq=>Decidable.not_not.1 λf=>e v ⟨a,.inr ⟨q,by omega⟩⟩⟩
  exact⟨λv a q=>(b v a).1 (by omega),λv a q=>by have:=(b v a).2 (by omega);omega⟩
end
theorem ahe {g:GR} {a:List Dr} (b:sN g a) {x:Nat} (c:x<a.length) (v:Nat):lo g (at' a (x:Int)) v<=hi g (at' a (x:Int)) v:=by
 rcases b.kind x c with k|k|k
 ·have h:=(b.range x c k).2.1;unfold lo hi at h ⊢;rw[k]at h ⊢;simpa using h
 ·unfold lo hi;rw[k];simp
 ·unfold lo hi;rw[k];simp;omega
theorem UY {g:GR} {a:List Dr} (b:sN g a) {x:Nat} (c:x<a.length) (v:Nat) (y:Int):lo g (at' a (x:Int)) v<=mX (at' a (x:Int)).2.1 (mL g a v x) y∧mX (at' a (x:Int)).2.1 (mL g a v x) y<=hi g (at' a (x:Int)) v:=by
 have h:=ahe b c v;unfold mX mL;dsimp only;split
 ·assumption
 ·split
  ·rename_i k;unfold lo hi;rw[k];simp;omega
  ·split<;>omega
section
variable {S:Br} {vars:List Dr} {R:List RL} {c:List (List Int)} {t v:Nat}
theorem YW (f:sN S.2.1 vars) {a:List Int} (d:a.length=vars.length) (h:∀x,x<vars.length->lo S.2.1 (at' vars (x:Int)) v<=at' a (x:Int)∧at' a (x:Int)<=hi S.2.1 (at' vars (x:Int)) v) (s:Nat×E):
  (FP S vars c v a s).length=vars.length∧∀x,x<vars.length->lo S.2.1 (at' vars (x:Int)) v<=at' (FP S vars c v a s) (x:Int)∧at' (FP S vars c v a s) (x:Int)<=hi S.2.1 (at' vars (x:Int)) v:=by
 unfold FP;refine⟨by rw[List.length_set,d],λx b=> ?_⟩
 by_cases g:s.1<a.length
 ·rw[vV a s.1 x _ g];split
  ·rename_i e;rw[<-e];exact UY f b v _
  ·exact h x b
 ·rw[List.set_eq_of_length_le (by omega)];exact h x b
theorem Me (k:sN S.2.1 vars) (h:Dx S.2.1 c vars) (j:v<S.2.1.2.length) (i:Int):(lE S vars R c v i).length=vars.length∧∀x,x<vars.length->lo S.2.1 (at' vars (x:Int)) v<=at' (lE S vars R c v i) (x:Int)∧at' (lE S vars R c v i) (x:Int)<=hi S.2.1 (at' vars (x:Int)) v:=by
 have g:∀(l:List (Nat×E)) (d:List Int),d.length=vars.length->(∀x,x<vars.length->lo S.2.1 (at' vars (x:Int)) v<=at' d (x:Int)∧at' d (x:Int)<=hi S.2.1 (at' vars (x:Int)) v)->
   (l.foldl (FP S vars c v) d).length=vars.length∧∀x,x<vars.length->lo S.2.1 (at' vars (x:Int)) v<=at' (l.foldl (FP S vars c v) d) (x:Int)∧at' (l.foldl (FP S vars c v) d) (x:Int)<=hi S.2.1 (at' vars (x:Int)) v:=by
  intro l
  induction l with
  |nil=>intro d e f;exact⟨e,f⟩
  |cons s l m=>
   intro d e f;obtain⟨a,b⟩:=YW (c:=c) k e f s;exact m _ a b
 exact g _ _ (h.row v j) (h.ok v j)
theorem Ms (e:sN S.2.1 vars) (a:Dx S.2.1 c vars):Dx S.2.1 (iJ S vars R c t) vars:=by
 have d:=a.len;refine⟨by rw[Mq,d],λv b=> ?_,λv b x f=> ?_⟩
 ·rw[Be (by omega)];split
  ·exact(Me e a b _).1
  ·exact a.row v b
 ·unfold val;rw[Be (by omega)];split
  ·exact(Me e a b _).2 x f
  ·exact a.ok v b x f
end
theorem RY (a b:aS):qQ (a++b)=if 0<=qQ a then qQ a else if 0<=qQ b then(a.length:Int)+qQ b else -1:=by
 unfold qQ;rw[List.findIdx?_append];cases c:a.findIdx? nz with
 |some i=>simp
 |none=>
  cases d:b.findIdx? nz with
  |some i=>simp;omega
  |none=>simp
theorem aad {c:Type} [Inhabited c] (a b:List c) {i:Nat} (h:i<a.length):at' (a++b) (i:Int)=at' a (i:Int):=by
 rw[gR,gR,List.getD_eq_getElem?_getD,List.getD_eq_getElem?_getD,List.getElem?_append_left h]
theorem aae {c:Type} [Inhabited c] (a b:List c) (i:Nat):at' (a++b) ((a.length+i:Nat):Int)=at' b (i:Int):=by
 rw[gR,gR,List.getD_eq_getElem?_getD,List.getD_eq_getElem?_getD,List.getElem?_append_right (by omega),Nat.add_sub_cancel_left]
section
variable {S:Br} {A B R:List RL} {vars:List Dr} {c:List (List Int)} {v:Nat}
theorem Mo:dU S (A++B) c v=if 0<=dU S A c v then dU S A c v else if 0<=dU S B c v then(A.length:Int)+dU S B c v else -1:=by
 unfold dU;rw[List.map_append,RY,List.length_map]
theorem Ss {i:Nat} (h:i<A.length):lE S vars (A++B) c v (i:Int)=lE S vars A c v (i:Int):=by
 unfold lE;rw[aad _ _ h]
theorem Su (i:Nat):lE S vars (A++B) c v ((A.length+i:Nat):Int)=lE S vars B c v (i:Int):=by
 unfold lE;rw[aae]
theorem Ef {i:Nat} (b:i<R.length) (d:gX S c v (at' R (i:Int)).1≠0) (f:∀j:Nat,j<i->gX S c v (at' R (j:Int)).1=0):dU S R c v=(i:Int):=by
 have e:∀j:Nat,j<R.length->at' (R.map λr=>gX S c v r.1) (j:Int)=gX S c v (at' R (j:Int)).1:=λj a=>by
  rw[lO (by simpa using a),lO a];simp
 exact sR (by simpa using b) (by rw[e i b];exact d) λj a=>by rw[e j (by omega)];exact f j a
theorem Ky {x:Nat} (j:∀r∈R,∀s∈r.2,s.1≠x) (i:Int):at' (lE S vars R c v i) (x:Int)=at' (at' c (v:Int)) (x:Int):=by
 have f:∀(l:List (Nat×E)) (b:List Int),(∀s∈l,s.1≠x)->at' (l.foldl (FP S vars c v) b) (x:Int)=at' b (x:Int):=by
  intro l
  induction l with
  |nil=>intro b _;rfl
  |cons s l k=>
   intro b h;refine(k _ λm d=>h m (List.mem_cons_of_mem _ d)).trans ?_;unfold FP;by_cases a:s.1<b.length
   ·rw[vV b s.1 x _ a,if_neg (λe=>h s List.mem_cons_self e.symm)]
   ·rw[List.set_eq_of_length_le (by omega)]
 refine f _ _ λs a=> ?_;unfold at' at a;by_cases g:i.toNat<R.length
 ·rw[List.getD_eq_getElem?_getD,List.getElem?_eq_getElem g,Option.getD_some]at a;exact j _ (List.getElem_mem g) s a
 ·rw[List.getD_eq_getElem?_getD,List.getElem?_eq_none (by omega),Option.getD_none]at a;cases a
end
def HQ (g:GR) (c:List (List Int)):List (List Int):=(List.range g.2.length).map λv=>[EG c v,HR c v]
section
variable {p:sB} {g:GR} {W:List Dr} {R':List RL} {c:List (List Int)} {v t:Nat}
theorem Ue (a:v<g.2.length):EG (HQ g c) v=EG c v:=by
 show at' (at' (HQ g c) (v:Int)) 0=_;rw[show at' (HQ g c) (v:Int)=[EG c v,HR c v]from kU _ a];rfl
theorem abH (a:v<g.2.length):HR (HQ g c) v=HR c v:=by
 show at' (at' (HQ g c) (v:Int)) 1=_;rw[show at' (HQ g c) (v:Int)=[EG c v,HR c v]from kU _ a];rfl
theorem Nn (d:Dx g c (tE++W)) (e:v<g.2.length):(0<=EG c v∧EG c v<=(g.2.length:Int)) ∧ -1<=HR c v∧HR c v<=((row g v).length:Int) - 1:=by
 have a:=d.ok v e 0 (by show 0<W.length+2;omega);have b:=d.ok v e 1 (by show 1<W.length+2;omega);have f:lo g (at' (tE++W) ((0:Nat):Int)) v=0:=Ym g v;have h:hi g (at' (tE++W) ((0:Nat):Int)) v=(g.2.length:Int):=XZ g v;have i:lo g (at' (tE++W) ((1:Nat):Int)) v = -1:=aev g v;have j:hi g (at' (tE++W) ((1:Nat):Int)) v=((row g v).length:Int) - 1:=aen g v;rw[f,h]at a;rw[i,j]at b;exact⟨a,b⟩
theorem abI (f:Dx g c (tE++W)):Dx g (HQ g c) tE:=by
 refine⟨by simp[HQ],λu d=>by rw[show at' (HQ g c) (u:Int)=[EG c u,HR c u]from kU _ d];rfl,λu d x e=> ?_⟩
 obtain⟨a,b⟩:=Nn f d;have e:x<2:=e
 match x,e with
 |0,_=>rw[Ym,XZ];show 0<=EG (HQ g c) u∧EG (HQ g c) u<=_;rw[Ue d];exact a
 |1,_=>rw[aev,aen];show -1<=HR (HQ g c) u∧HR (HQ g c) u<=_;rw[abH d];exact b
theorem acU (a:VG g) (d:Dx g c (tE++W)) (b:v<g.2.length):(0<=(TB g c v).1∧(TB g c v).1<=(g.2.length:Int)) ∧ -1<=(TB g c v).2∧(TB g c v).2<=((row g v).length:Int) - 1:=by
 rw[<-ZV a b λu e=>Ue (c:=c) e];exact agr a (abI d) b
theorem acB (l:List Int) (h:2<=l.length) (x y:Int):at' ((l.set 0 x).set 1 y) 0=x∧at' ((l.set 0 x).set 1 y) 1=y:=by
 match l,h with
 |a::b::l,_=>exact⟨rfl,rfl⟩
theorem aeB (r:VG g) (l:Dx g c (tE++W)) (n:v<g.2.length) (h:0<=dU (aR p g) RB c v):at' (lE (aR p g) (tE++W) RB c v (dU (aR p g) RB c v)) 0=(TB g c v).1∧at' (lE (aR p g) (tE++W) RB c v (dU (aR p g) RB c v)) 1=(TB g c v).2:=by
 have m:2<=(at' c (v:Int)).length:=by
  have e:(at' c (v:Int)).length=W.length+2:=l.row v n;omega
 have j:mL g tE v 0=(0,(g.2.length:Int)):=by unfold mL;rw[Ym,XZ]
 have k:mL g tE v 1=(-1,((row g v).length:Int) - 1):=by unfold mL;rw[aev,aen]
 obtain⟨⟨o,b⟩,q,d⟩:=acU r l n;rcases Qb h with⟨e,a,_⟩|⟨e,a,_⟩
 ·have f:lE (aR p g) (tE++W) RB c v 0=((at' c (v:Int)).set 0 (mX 1 (mL g tE v 0) 0)).set 1 (mX 3 (mL g tE v 1) (-1)):=rfl;have i:TB g c v=(0,-1):=by unfold TB;rw[if_pos a]
  rw[i]at d b ⊢;dsimp only at d b;rw[e,f,j,k,DO (by omega) (by omega),DO (by omega) (by omega)];exact acB _ m _ _
 ·have f:lE (aR p g) (tE++W) RB c v 1=((at' c (v:Int)).set 0 (mX 1 (mL g tE v 0) (gX (aR p g) c v exX))).set 1 (mX 3 (mL g tE v 1) (gX (aR p g) c v exY)):=rfl;have i:TB g c v=(XB g c v,YB g c v):=by unfold TB;rw[if_neg a]
  rw[i]at o b q d ⊢;dsimp only at o b q d;rw[e,f,j,k,XD,XE,DO (by omega) (by omega),DO (by omega) (by omega)];exact acB _ m _ _
theorem GJ (h:FL g c v):dU (aR p g) (RB++R') c v=if 0<=dU (aR p g) R' c v then 2+dU (aR p g) R' c v else -1:=by
 rw[Mo,if_neg (Mn.2 h)];rfl
theorem KB (h:¬FL g c v):dU (aR p g) (RB++R') c v=dU (aR p g) RB c v∧0<=dU (aR p g) RB c v:=by
 have:0<=dU (aR p g) RB c v:=Decidable.not_not.1 λq=>h (Mn.1 q);exact⟨by rw[Mo,if_pos this],this⟩
theorem PK (h:FL g c v) (a:0<=dU (aR p g) (RB++R') c v):0<=dU (aR p g) R' c v∧lE (aR p g) (tE++W) (RB++R') c v (dU (aR p g) (RB++R') c v)=lE (aR p g) (tE++W) R' c v (dU (aR p g) R' c v):=by
 rw[GJ h]at a;by_cases q:0<=dU (aR p g) R' c v
 ·refine⟨q,?_⟩
  rw[GJ h,if_pos q];obtain⟨i,b⟩:∃i:Nat,dU (aR p g) R' c v=(i:Int):=⟨_,(Int.toNat_of_nonneg q).symm⟩
  rw[b,show(2:Int)+(i:Int)=((RB.length+i:Nat):Int) by simp[RB]];exact Su i
 ·rw[if_neg q]at a;omega
theorem ae_ (u:VG g) (m:Dx g c (tE++W)) (l:∀r∈R',∀s∈r.2,2<=s.1) (j:∀v,t.testBit v=true->v<g.2.length∧0<=dU (aR p g) (RB++R') c v):TrS g c t (iJ (aR p g) (tE++W) (RB++R') c t):=by
 have a:=m.len;refine⟨λv f b=> ?_,λv f b=> ?_⟩
 ·unfold EG HR;rw[Be (by rw[a];exact f),if_neg (by rw[b];decide)];exact⟨rfl,rfl⟩
 ·obtain⟨_,y⟩:=j v b;unfold EG HR;rw[Be (by rw[a];exact f),if_pos b];by_cases d:FL g c v
  ·obtain⟨_,e⟩:=PK (W:=W) d y;rw[e];have z:=Ky (S:=aR p g) (R:=R') (vars:=tE++W) (c:=c) (v:=v) (x:=0) (λr h s k=>by have:=l r h s k;omega) (dU (aR p g) R' c v);have A:=Ky (S:=aR p g) (R:=R') (vars:=tE++W) (c:=c) (v:=v) (x:=1) (λr h s k=>by have:=l r h s k;omega) (dU (aR p g) R' c v);exact⟨z.trans d.1,A.trans d.2⟩
  ·obtain⟨e,o⟩:=KB (p:=p) (R':=R') d;rw[e];obtain⟨i,n,w⟩:∃i:Nat,dU (aR p g) RB c v=(i:Int)∧i<RB.length:=by
    rcases Bb (aR p g) RB c v with q|⟨i,B,C,_⟩
    ·omega
    ·exact⟨i,B,C⟩
   rw[n,Ss w,<-n];exact aeB u m f o
end
section
variable {L:Int->Int->Int->Int} {deg:Nat} {x y:E} {q:Int}
theorem wY:(E.bi 41 x y).den L deg q≠0↔x.den L deg q≠0∧y.den L deg q≠0:=by
 show AU (decide (x.den L deg q≠0)&&decide (y.den L deg q≠0))≠0↔_;rw[uG,Bool.and_eq_true,decide_eq_true_eq,decide_eq_true_eq]
theorem RR:(E.bi 42 x y).den L deg q≠0↔x.den L deg q≠0∨y.den L deg q≠0:=by
 show AU (decide (x.den L deg q≠0)||decide (y.den L deg q≠0))≠0↔_;rw[uG,Bool.or_eq_true,decide_eq_true_eq,decide_eq_true_eq]
theorem CC:(E.un 19 x).den L deg q≠0↔x.den L deg q=0:=by
 show AU (decide (x.den L deg q=0))≠0↔_;rw[uG,decide_eq_true_eq]
theorem JX:(E.bi 35 x y).den L deg q≠0↔x.den L deg q=y.den L deg q:=by
 show AU (decide (x.den L deg q=y.den L deg q))≠0↔_;rw[uG,decide_eq_true_eq]
theorem RQ:(E.bi 36 x y).den L deg q≠0↔x.den L deg q≠y.den L deg q:=by
 show AU (decide (x.den L deg q≠y.den L deg q))≠0↔_;rw[uG,decide_eq_true_eq]
theorem JY:(E.ag 21 x).den L deg q≠0↔∃i:Nat,i<deg∧x.den L deg (i:Int)≠0:=by
 show AU (((List.range deg).map λi=>x.den L deg ((i:Nat):Int)).any nz)≠0↔_;rw[uG,List.any_eq_true];constructor
 ·rintro⟨z,c,b⟩;obtain⟨i,a,rfl⟩:=List.mem_map.1 c;exact⟨i,List.mem_range.1 a,by simpa [nz]using b⟩
 ·rintro⟨i,a,b⟩;exact⟨_,List.mem_map.2 ⟨i,List.mem_range.2 a,rfl⟩,by simpa [nz]using b⟩
theorem aaR:(E.ag 20 x).den L deg q≠0↔∀i:Nat,i<deg->x.den L deg (i:Int)≠0:=by
 show AU (((List.range deg).map λi=>x.den L deg ((i:Nat):Int)).all nz)≠0↔_;rw[uG,List.all_eq_true];constructor
 ·intro h i a;have:=h _ (List.mem_map.2 ⟨i,List.mem_range.2 a,rfl⟩);simpa [nz]using this
 ·intro h z b;obtain⟨i,a,rfl⟩:=List.mem_map.1 b;simpa [nz]using h i (List.mem_range.1 a)
end
def mD (c:List (List Int)) (v:Nat) (x:Int):Int:=at' (at' c (v:Int)) x
def NK (g:GR) (c:List (List Int)) (v i:Nat) (x:Int):Int:=at' (at' c (fZ (row g v) i).1) x
theorem xQ {g:GR} {c:List (List Int)} {v i u:Nat} {x:Int} (h:(fZ (row g v) i).1=(u:Int)):NK g c v i x=mD c u x:=by unfold NK mD;rw[h]
def Se:E:= .bi 35 (.lf 11 0) (.lf 5 1)
def XR:E:= .bi 41 (.bi 41 (.lf 10 0) (.un 19 (.lf 5 2))) (.lf 5 5)
def abg:E:= .bi 41 (.un 19 (.lf 10 0)) (.ag 21 (.bi 41 Se (.bi 42 (.bi 36 (.lf 12 3) (.lf 5 3)) (.bi 41 (.lf 5 2) (.un 19 (.lf 12 2))))))
def abh:E:= .bi 41 (.lf 5 2) (.ag 20 (.bi 42 (.bi 36 (.lf 12 1) (.lf 17 0)) (.bi 41 (.un 19 (.lf 12 2)) (.bi 35 (.lf 12 3) (.lf 5 3)))))
def XV:E:= .bi 41 (.bi 41 (.un 19 (.lf 5 2)) (.un 19 (.lf 5 5))) (.ag 21 (.bi 41 (.bi 41 (.bi 35 (.lf 12 1) (.lf 17 0)) (.lf 12 5)) (.un 19 (.lf 12 2))))
def RS:List RL:=[(guT,[(0,.lf 1 0),(1,.lf 4 0)]),(guB,[(0,exX),(1,exY)]),(XR,[(2,.lf 2 0),(3,.un 19 (.lf 5 3)),(4,.lf 1 0),(5,.lf 3 0)]),
 (abg,[(2,.ag 21 (.bi 41 Se (.lf 12 2))),(3,.ag 21 (.bi 41 Se (.lf 12 3))),(4,.lf 1 0),(5,.lf 3 0)]),(abh,[(2,.lf 3 0)]),(XV,[(5,.lf 2 0)])]
theorem abR:xT 6 RS=true:=by decide +kernel
section
variable {p:sB} {g:GR} {c:List (List Int)} {v:Nat}
theorem aeO {a:Nat} {q:Int}:(E.lf 10 0).den (Yl (aR p g,c,(v:Int),[])) a q≠0↔v=0:=by
 show AU (decide ((v:Int)=0))≠0↔_;rw[uG,decide_eq_true_eq];omega
theorem ahl {a:Nat} {q:Int}:(E.lf 10 0).den (Yl (aR p g,c,(v:Int),[])) a q=0↔v≠0:=by
 show AU (decide ((v:Int)=0))=0↔_;rw[agw,decide_eq_false_iff_not];omega
theorem Nh (d:v<g.2.length) {a i:Nat} (b:i<(row g v).length):(E.lf 17 0).den (Yl (aR p g,c,(v:Int),[])) a (i:Int)=AV g v i:=by
 show at' (at' (fC g) (v:Int)) (i:Int)=_;unfold fC;rw[kU _ d,kU _ b]
theorem XS:gX (aR p g) c v XR≠0↔(v=0∧mD c v 2=0)∧mD c v 5≠0:=by
 unfold gX XR;rw[wY,wY,CC,aeO];exact Iff.rfl
theorem XT:gX (aR p g) c v abg≠0↔v≠0∧∃i:Nat,i<(row g v).length∧(i:Int)=mD c v 1∧(NK g c v i 3≠mD c v 3∨(mD c v 2≠0∧NK g c v i 2=0)):=by
 unfold gX abg Se;rw[wY,CC,ahl,JY];simp only[wY,RR,CC,JX,RQ];exact Iff.rfl
theorem XU (b:v<g.2.length):gX (aR p g) c v abh≠0↔mD c v 2≠0∧∀i:Nat,i<(row g v).length->NK g c v i 1≠AV g v i∨(NK g c v i 2=0∧NK g c v i 3=mD c v 3):=by
 unfold gX abh;rw[wY,aaR];simp only[wY,RR,CC,JX,RQ];refine and_congr Iff.rfl ⟨λh i a=> ?_,λh i a=> ?_⟩
 ·have:=h i a;rw[Nh b a]at this;exact this
 ·rw[Nh b a];exact h i a
theorem XW (b:v<g.2.length):gX (aR p g) c v XV≠0↔(mD c v 2=0∧mD c v 5=0)∧∃i:Nat,i<(row g v).length∧(NK g c v i 1=AV g v i∧NK g c v i 5≠0)∧NK g c v i 2=0:=by
 unfold gX XV;rw[wY,wY,CC,CC,JY];simp only[wY,RR,CC,JX,RQ];refine and_congr Iff.rfl ⟨fun⟨i,a,h⟩=>⟨i,a,?_⟩,fun⟨i,a,h⟩=>⟨i,a,?_⟩⟩
 ·rw[Nh b a]at h;exact h
 ·rw[Nh b a];exact h
end
end Go.Proofs.YtmdlcmbplnhdnaaGreatDoor
namespace Go.Proofs.YtmdlcmbplnhdnaaGreatDoor
structure RT (n E:Nat) (par dp:Nat->Nat):Prop where
 n1:0<n
 d0:dp 0=0
 up:∀v,v<n->v≠0->par v<n∧dp v=dp (par v)+1
 le:∀v,v<n->dp v<=E
def IS (a:Nat->Nat) (s b:Nat->Int) (v:Nat):Prop:=v≠0∧(b (a v)≠b v∨(s v≠0∧s (a v)=0))
def Oi (n:Nat) (a:Nat->Nat) (s b:Nat->Int) (v:Nat):Prop:=s v≠0∧∀w,w<n->w≠0->a w=v->s w=0∧b w=b v
structure WS (n:Nat) (par:Nat->Nat) (m:Nat->Prop) (s b s' b':Nat->Int):Prop where
 stay:∀v,v<n->¬m v->s' v=s v∧b' v=b v
 take:∀v,v<n->m v->IS par s b v->s' v=s (par v)∧b' v=b (par v)
 fin:∀v,v<n->m v->¬IS par s b v->Oi n par s b v->s' v=0∧b' v=b v
 oth:∀v,v<n->m v->¬IS par s b v->¬Oi n par s b v->(s' v=s v∧b' v=b v)∨(v=0∧s 0=0∧s' 0≠0∧b' 0≠b 0)
def gd (a:Nat->Nat) (s b:Nat->Int) (v:Nat):Prop:=s (a v)≠0∨(s v=0∧b v=b (a v))
def AG (n:Nat) (a:Nat->Nat) (s b:Nat->Int):Prop:=∀v,v<n->v≠0->gd a s b v
def Qt (n:Nat) (s b:Nat->Int):Prop:=∀v,v<n->s v=0∧b v=b 0
def Wp (n:Nat) (a:Nat->Nat) (b:Nat->Int) (j:Nat):Prop:=∀v,v<n->a v<=j->b v=b 0
def UL (n E:Nat) (a:Nat->Nat) (s:Nat->Int) (i:Nat):Prop:=∀v,v<n->E<a v+i->s v=0
def CI (n:Nat) (a:Nat->Nat) (s b:Nat->Int):Prop:=∀v,v<n->(b v=b 0->s v=0->∀w,w<n->w≠0->a w=v->s w=0∧b w=b 0)∧(b v≠b 0->s v=0∧∀w,w<n->w≠0->a w=v->b w≠b 0)
section
variable {n E:Nat} {par dp:Nat->Nat} {m:Nat->Prop} {s b s' b':Nat->Int} (hT:RT n E par dp) (hW:WS n par m s b s' b')
theorem WS.cases (hW:WS n par m s b s' b') {v:Nat} (d:v<n):(s' v=s v∧b' v=b v)∨(m v∧IS par s b v∧s' v=s (par v)∧b' v=b (par v))∨(m v∧¬IS par s b v∧Oi n par s b v∧s' v=0∧b' v=b v)∨(m v∧v=0∧s 0=0∧s' 0≠0∧b' 0≠b 0):=by
 by_cases a:m v
 ·by_cases c:IS par s b v
  ·exact .inr (.inl ⟨a,c,hW.take v d a c⟩)
  ·by_cases e:Oi n par s b v
   ·exact .inr (.inr (.inl ⟨a,c,e,hW.fin v d a c e⟩))
   ·rcases hW.oth v d a c e with h|h
    ·exact .inl h
    ·exact .inr (.inr (.inr ⟨a,h⟩))
 ·exact .inl (hW.stay v d a)
theorem WS.rest (hW:WS n par m s b s' b') {v:Nat} (e:v<n) (c:v≠0) (a:s v=0) (d:b v=b (par v)):s' v=s v∧b' v=b v:=by
 rcases hW.cases e with h|⟨_,h,_⟩|⟨_,_,h,_⟩|⟨_,h,_⟩
 ·exact h
 ·rcases h.2 with q|q
  ·exact absurd d.symm q
  ·exact absurd a q.1
 ·exact absurd a h.1
 ·exact absurd h c
theorem Sv {v:Nat} (c:v≠0) (h:¬gd par s b v):IS par s b v:=by
 refine⟨c,?_⟩
 by_cases a:b (par v)=b v
 ·refine .inr ⟨λq=>h (.inr ⟨q,a.symm⟩),Decidable.not_not.1 λq=>h (.inl q)⟩
 ·exact .inl a
 include hT hW
theorem Ja {v:Nat} (i:v<n) (g:v≠0) (x:par v=0∨gd par s b (par v)) (h:gd par s b v∨m v):gd par s' b' v:=by
 obtain⟨o,_⟩:=hT.up v i g;rcases hW.cases o with⟨d,k⟩|⟨_,t,d,_⟩|⟨_,_,w,d,k⟩|⟨_,u,_,d,_⟩
 ·unfold gd;rw[d,k];by_cases l:s (par v)=0
  ·right;have j:gd par s b v->s' v=0∧b' v=b (par v):=λh=>by
    rcases h with q|⟨a,c⟩
    ·exact absurd l q
    ·obtain⟨e,f⟩:=hW.rest i g a c;rw[e,f];exact⟨a,c⟩
   rcases h with h|h
   ·exact j h
   ·by_cases p:gd par s b v
    ·exact j p
    ·obtain⟨e,f⟩:=hW.take v i h (Sv g p);rw[e,f];exact⟨l,rfl⟩
  ·exact .inl l
 ·left;rw[d];rcases x with q|q|⟨a,c⟩
  ·exact absurd q t.1
  ·exact q
  ·rcases t.2 with r|r
   ·exact absurd c.symm r
   ·exact absurd a r.1
 ·obtain⟨a,c⟩:=w.2 v i g Z;obtain⟨e,f⟩:=hW.rest i g a c;exact .inr ⟨by rw[e,a],by rw[f,k,c]⟩
 ·left;rw[u];exact d
theorem IU (h:AG n par s b):AG n par s' b':=λv c a=>by
 refine Ja hT hW c a ?_ (.inl (h v c a));by_cases e:par v=0
 ·exact .inl e
 ·exact .inr (h _ (hT.up v c a).1 e)
 omit hW
theorem YN (h:AG n par s b) (g:s 0=0):Qt n s b:=by
 have c:∀k v,v<n->dp v=k->s v=0∧b v=b 0:=by
  intro k
  induction k with
  |zero=>
   intro v a i;by_cases e:v=0
   ·subst e;exact⟨g,rfl⟩
   ·have:=(hT.up v a e).2;omega
  |succ k o=>
   intro v a i;have e:v≠0:=λe=>by subst e;have:=hT.d0;omega
   obtain⟨l,j⟩:=hT.up v a e;obtain⟨d,f⟩:=o _ l (by omega);rcases h v a e with q|⟨p,r⟩
   ·exact absurd d q
   ·exact⟨p,by rw[r,f]⟩
 exact λv a=>c _ v a Z
 omit hT in
theorem Qt.ag (h:Qt n s b) (hT:RT n E par dp):AG n par s b:=λv a c=> .inr ⟨(h v a).1,by rw[(h v a).2,(h _ (hT.up v a c).1).2]⟩
 include hW
theorem Ml (h:AG n par s b) (d:s 0≠0):(s' 0=s 0∧b' 0=b 0)∨(m 0∧Oi n par s b 0∧s' 0=0∧b' 0=b 0∧Qt n s' b'):=by
 rcases hW.cases hT.n1 with e|⟨_,e,_⟩|⟨g,_,f,a,c⟩|⟨_,_,e,_⟩
 ·exact .inl e
 ·exact absurd Z e.1
 ·exact .inr ⟨g,f,a,c,YN hT (IU hT hW h) a⟩
 ·exact absurd e d
theorem Py {j:Nat} (h:Wp n dp b j) (f:b' 0=b 0):Wp n dp b' j:=λv c d=>by
 rw[f];rcases hW.cases c with e|⟨_,g,_,e⟩|⟨_,_,_,_,e⟩|⟨_,e,_⟩
 ·rw[e.2];exact h v c d
 ·rw[e];obtain⟨a,i⟩:=hT.up v c g.1;exact h _ a (by omega)
 ·rw[e];exact h v c d
 ·rw[e,f]
theorem Yk {j v:Nat} (h:Wp n dp b j) (k:b' 0=b 0) (f:v<n) (r:dp v<=j+1):(b v≠b 0->IS par s b v)∧(b' v≠b' 0->b v≠b 0∧¬m v):=by
 have g:b v≠b 0->IS par s b v:=λd=>by
  have e:v≠0:=λe=>d (by rw[e]);obtain⟨a,o⟩:=hT.up v f e;exact⟨e,.inl λq=>d (by rw[<-q];exact h _ a (by omega))⟩
 refine⟨g,λd=> ?_⟩
 rw[k]at d;have l:IS par s b v->b (par v)=b 0:=λi=>by
  obtain⟨a,o⟩:=hT.up v f i.1;exact h _ a (by omega)
 have c:b v≠b 0:=λq=>d (by
  rcases hW.cases f with e|⟨_,i,_,e⟩|⟨_,_,_,_,e⟩|⟨_,e,_⟩
  ·rw[e.2,q]
  ·rw[e,l i]
  ·rw[e,q]
  ·rw[e,k])
 exact⟨c,λp=>d (by rw[(hW.take v f p (g c)).2,l (g c)])⟩
theorem Yp {i:Nat} (f:Wp n dp b E) (h:UL n E dp s i) (g:s 0≠0):UL n E dp s' i:=λv c j=>by
 have d:=h v c j;have e:v≠0:=λe=>g (by rw[<-e];exact d);obtain⟨a,_⟩:=hT.up v c e;rw[(hW.rest c e d (by rw[f v c (hT.le v c),f _ a (hT.le _ a)])).1,d]
theorem Yo {i v:Nat} (t:AG n par s b) (u:Wp n dp b E) (h:UL n E dp s i) (d:v<n) (y:E<dp v+(i+1)):(s v≠0->Oi n par s b v)∧(s 0≠0->s' v≠0->s v≠0∧¬m v):=by
 have c:∀w,w<n->b w=b 0:=λw f=>u w f (hT.le w f);have o:s v≠0->Oi n par s b v:=λj=>⟨j,λw f l e=>by
  obtain⟨_,p⟩:=hT.up w f l;rw[e]at p;exact⟨h w f (by omega),by rw[c w f,c v d]⟩⟩
 refine⟨o,λl j=> ?_⟩
 have g:s v≠0:=λq=>j (by
  have e:v≠0:=λe=>l (by rw[<-e];exact q);obtain⟨a,_⟩:=hT.up v d e;rw[(hW.rest d e q (by rw[c v d,c _ a])).1,q])
 refine⟨g,λx=>j ?_⟩
 by_cases k:IS par s b v
 ·obtain⟨a,_⟩:=hT.up v d k.1;rcases k.2 with q|q
  ·exact absurd (by rw[c v d,c _ a]) q
  ·rcases t v d k.1 with r|r
   ·exact absurd q.2 r
   ·exact absurd r.1 q.1
 ·exact(hW.fin v d x k (o g)).1
theorem aaM (I:AG n par s b) (h:CI n par s b) (G:b' 0=b 0):CI n par s' b':=λv j=>by
 rw[G]
 -- a child of a finished node stays as it is
 have y:∀w,w<n->w≠0->∀x,par w=x->b x=b 0->s w=0->b w=b 0->s' w=0∧b' w=b 0:=λw f d x e C D t=>by
  obtain⟨o,p⟩:=hW.rest f d D (by rw[e,t,C]);rw[o,p];exact⟨D,t⟩
 have k:∀w,w<n->w≠0->b (par w)≠b 0->b w≠b 0->b' w≠b 0:=λw f d C t=>by
  rcases hW.cases f with e|⟨_,_,_,e⟩|⟨_,_,_,_,e⟩|⟨_,e,_⟩
  ·rw[e.2];exact t
  ·rw[e];exact C
  ·rw[e];exact t
  ·exact absurd e d
 rcases hW.cases j with⟨l,i⟩|⟨_,u,l,i⟩|⟨_,_,F,l,i⟩|⟨_,e,J,l,i⟩
 ·refine⟨λc z w f d e=> ?_,λc=>⟨?_,λw f d e=> ?_⟩⟩
  ·rw[l]at z;rw[i]at c;obtain⟨o,p⟩:=(h v j).1 c z w f d e;exact y w f d v e c o p
  ·rw[l];rw[i]at c;exact((h v j).2 c).1
  ·rw[i]at c;exact k w f d (by rw[e];exact c) (((h v j).2 c).2 w f d e)
 ·obtain⟨H,_⟩:=hT.up v j u.1;have A:b (par v)≠b v:=u.2.resolve_right λq=>by
   rcases I v j u.1 with r|r
   ·exact r q.2
   ·exact q.1 r.1
  by_cases g:b (par v)=b 0
  ·have B:s (par v)≠0:=λq=>A (by rw[((h _ H).1 g q v j u.1 Z).2,g]);exact⟨λ_ z=>absurd (by rw[<-l];exact z) B,λc=>absurd (by rw[i];exact g) c⟩
  ·obtain⟨o,p⟩:=(h _ H).2 g;refine⟨λc=>absurd (by rw[<-i];exact c) g,λ_=>⟨by rw[l];exact o,λw f d e=> ?_⟩⟩
   have c:=p v j u.1 Z;exact k w f d (by rw[e];exact c) (((h v j).2 c).2 w f d e)
 ·have c:b v=b 0:=Decidable.not_not.1 λq=>F.1 ((h v j).2 q).1;refine⟨λ_ _ w f d e=> ?_,λq=>absurd (by rw[i];exact c) q⟩
  obtain⟨o,p⟩:=F.2 w f d e;exact y w f d v e c o (by rw[p,c])
 ·exact absurd G i
 omit hW
theorem aaL (h:CI n par s b) (o:Oi n par s b 0):∀v,v<n->v≠0->s v=0∧b v=b 0:=by
 have d:∀k v,v<n->v≠0->dp v=k->s v=0∧b v=b 0:=by
  intro k
  induction k with
  |zero=>intro v c a j;have:=(hT.up v c a).2;omega
  | succ k ih =>
   intro v c a j;obtain⟨f,l⟩:=hT.up v c a;by_cases e:par v=0
   ·exact o.2 v c a e
   ·obtain⟨g,i⟩:=ih _ f e (by omega);exact(h _ f).1 i g v c a Z
 exact λv c a=>d _ v c a Z
 include hW
theorem Xj (h:Qt n s b) (k:s' 0≠0) (i:b' 0≠b 0):CI n par s' b'∧Wp n dp b' 0∧AG n par s' b':=by
 have j:∀v,v<n->v≠0->s' v=0∧b' v=b 0:=λv c d=>by
  obtain⟨a,_⟩:=hT.up v c d;obtain⟨f,g⟩:=hW.rest c d (h v c).1 (by rw[(h v c).2,(h _ a).2]);rw[f,g];exact h v c
 refine⟨λv c=> ?_,λv c o=> ?_,IU hT hW (h.ag hT)⟩
 ·by_cases e:v=0
  ·subst e;exact⟨λ_ q=>absurd q k,λq=>absurd Z q⟩
  ·obtain⟨f,g⟩:=j v c e;refine⟨λq=>absurd (by rw[<-q,g]) i,λ_=>⟨f,λw l d _ q=>i ?_⟩⟩
   rw[<-q,(j w l d).2]
 ·by_cases e:v=0
  ·rw[e]
  ·have:=(hT.up v c e).2;omega
theorem abJ (h:Qt n s b) (f:s' 0=s 0) (d:b' 0=b 0):Qt n s' b':=λv c=>by
 by_cases e:v=0
 ·subst e;exact⟨by rw[f];exact(h 0 c).1,rfl⟩
 ·obtain⟨a,_⟩:=hT.up v c e;obtain⟨g,i⟩:=hW.rest c e (h v c).1 (by rw[(h v c).2,(h _ a).2]);rw[g,i,d];exact h v c
end
end Go.Proofs.YtmdlcmbplnhdnaaGreatDoor
namespace Go.Proofs.YtmdlcmbplnhdnaaGreatDoor
open Go Go.Sx
structure TP (g:GR) (d:aS) (par fp:Nat->Nat):Prop where
 at_:∀v,v<g.2.length->v≠0->fp v<(row g v).length∧pQ g d v (fp v:Int)∧(fZ (row g v) (fp v)).1=(par v:Int)∧par v<g.2.length∧D d (par v)=D d v - 1
def Hv (g:GR) (d:aS) (c:bG):Prop:=∀v,v<g.2.length->EG c v=D d v∧pQ g d v (HR c v)
def sC (c:bG) (v:Nat):Int:=mD c v 2
def bC (c:bG) (v:Nat):Int:=mD c v 3
section
variable {g:GR} {d:List Int} {c:List (List Int)} (hV:VG g) (hD:qZ g 0 d) (h0:∀v,v<g.2.length->0<=D d v)
 include hV
theorem HP {v i u:Nat} (f:v<g.2.length) (a:i<(row g v).length) (b:(fZ (row g v) i).1=(u:Int)):Ak (row g v) (u:Int)=(i:Int):=
 Ir i a b λk e=>by
  have:=((hV.node v f).links i a).2.2.2 k e;rwa[b]at this
 include hD h0
theorem ahu:∃x y:Nat->Nat,TP g d x y:=by
 have n:∀v,∃u f:Nat,v<g.2.length->v≠0->f<(row g v).length∧pQ g d v (f:Int)∧(fZ (row g v) f).1=(u:Int)∧u<g.2.length∧D d u=D d v - 1:=λv=>by
  by_cases j:v<g.2.length∧v≠0
  ·obtain⟨j,l⟩:=j;have o:0<D d v:=by
    have:=h0 v j;have A:D d v≠0:=λe=>l ((hD.zero v j).1 e);omega
   obtain⟨G,C,⟨E,t,r⟩,s⟩:=hD.near v j o;obtain⟨m,F,h,w⟩:=GD (p:=λi=>i<(row g v).length∧at' d (fZ (row g v) i).1=D d v - 1) E ⟨t,by rw[r];exact s⟩;obtain⟨u,B,q,_⟩:=hV.port j h.1;refine⟨u,m,λ_ _=>⟨h.1,.inl ⟨m,h.1,rfl,h.2,λk z e=>w k z ⟨by omega,e⟩⟩,q,B,?_⟩⟩
   have:=h.2;rw[q]at this;exact this
  ·exact⟨0,0,λa b=>absurd ⟨a,b⟩ j⟩
 refine⟨λv=>(n v).choose,λv=>(n v).choose_spec.choose,⟨λv j l=>(n v).choose_spec.choose_spec j l⟩⟩
 omit hV hD h0 in
theorem Mu {k:Nat} (h:ZD g d k c) (b:∀v,v<g.2.length->D d v<(k:Int)):Hv g d c:=λv a=>h.near v a (b v a)
theorem Jn (h:Hv g d c) {v:Nat} (e:v<g.2.length):FL g c v:=by
 obtain⟨a,b⟩:=ahq hV hD h0 (λu f=>(h u f).1) e;exact⟨by rw[a];exact(h v e).1,(h v e).2.uniq b⟩
 omit h0 in
theorem VE (h0:∀v,v<g.2.length->0<=D d v) (h:∀v,v<g.2.length->0<=EG c v) (i:∀v,v<g.2.length->FL g c v):Hv g d c:=by
  have f:=hV.n24;have a:∀k:Nat,ZD g d k c:=by
   intro k
   induction k with
   |zero=>exact Mv h0 h
   |succ k e=>exact Qw e λv b=>Ur hV hD h0 e b (i v b.1)
  exact Mu (a (g.2.length+1)) λv j=>by have:=hD.hi v j;omega
 omit h0 in
theorem YL (h0:∀v,v<g.2.length->0<=D d v) (h:Hv g d c):HR c 0 = -1:=by
  have k:=hV.n1;rcases(h 0 (by omega)).2 with⟨i,e,_,a,_⟩|⟨a,_⟩
  ·obtain⟨u,f,b,_⟩:=hV.port (v:=0) (by omega) e;rw[b]at a;have j:D d u=D d 0 - 1:=a;have:=(hD.zero 0 (by omega)).2 Z;have:=h0 u f;omega
  ·exact a
variable {par fp:Nat->Nat} (hP:TP g d par fp)
 include hP
theorem acz {E:Nat} (h:∀v,v<g.2.length->D d v<=(E:Int)):RT g.2.length E par (λv=>(D d v).toNat):=by
 have i:=hV.n1;refine⟨by omega,?_,λv e f=> ?_,λv e=> ?_⟩
 ·rw[(hD.zero 0 (by omega)).2 Z];rfl
 ·obtain⟨_,_,_,a,b⟩:=hP.at_ v e f;have:=h0 _ a;exact⟨a,by rw[b];omega⟩
 ·have:=h v e;omega
 omit hV hD h0 in
theorem KF (h:Hv g d c) {v:Nat} (b:v<g.2.length) (a:v≠0):HR c v=(fp v:Int):=(h v b).2.uniq (hP.at_ v b a).2.1
theorem Je (h:Hv g d c) {v i u:Nat} (r:v<g.2.length) (t:i<(row g v).length) (n:(fZ (row g v) i).1=(u:Int)):NK g c v i 1=AV g v i↔u≠0∧par u=v:=by
 obtain⟨w,j,p,l⟩:=hV.port r t;obtain rfl:u=w:=by omega
 obtain⟨k,o,m⟩:=hV.back r l;have s:AV g v i=(k:Int):=by
  unfold AV;rw[n,Int.toNat_natCast];exact HP hV j o m
 rw[xQ n,s,show mD c u 1=HR c u from rfl];constructor
 ·intro e;have f:u≠0:=λq=>by
   subst q;rw[YL hV hD h0 h]at e;omega
  rw[KF hP h j f]at e;have:fp u=k:=by omega
  subst this;have:=(hP.at_ u j f).2.2.1;exact⟨f,by omega⟩
 ·rintro⟨f,e⟩;rw[KF hP h j f];obtain⟨a,_,b,_⟩:=hP.at_ u j f;rw[e]at b;have x:=HP hV j a b;have y:=HP hV j o m;omega
 omit hV hD h0 in
theorem Za (h:Hv g d c) {v:Nat} (f:v<g.2.length):(v≠0∧∃i:Nat,i<(row g v).length∧(i:Int)=mD c v 1∧(NK g c v i 3≠mD c v 3∨(mD c v 2≠0∧NK g c v i 2=0)))↔IS par (sC c) (bC c) v:=by
  constructor
  ·rintro⟨e,i,k,l,j⟩;have:mD c v 1=(fp v:Int):=KF hP h f e;obtain rfl:i=fp v:=by omega
   have b:=(hP.at_ v f e).2.2.1;rw[xQ b,xQ b]at j;exact⟨e,j⟩
  ·rintro⟨e,j⟩;obtain⟨a,_,b,_⟩:=hP.at_ v f e;refine⟨e,fp v,a,(KF hP h f e).symm,?_⟩
   rw[xQ b,xQ b];exact j
theorem aa_ (h:Hv g d c) {v:Nat} (o:v<g.2.length):(mD c v 2≠0∧∀i:Nat,i<(row g v).length->NK g c v i 1≠AV g v i∨(NK g c v i 2=0∧NK g c v i 3=mD c v 3))↔Oi g.2.length par (sC c) (bC c) v:=by
 constructor
 ·rintro⟨n,p⟩;refine⟨n,λw r m e=> ?_⟩
  obtain⟨a,_,f,_⟩:=hP.at_ w r m;rw[e]at f;obtain⟨i,l,j⟩:=hV.back r ⟨fp w,a,f⟩;have s:=(Je hV hD h0 hP h o l j).2 ⟨m,e⟩;have:=(p i l).resolve_left λq=>q s;rw[xQ j,xQ j]at this;exact this
 ·rintro⟨n,p⟩;refine⟨n,λi l=> ?_⟩
  obtain⟨u,t,k,_⟩:=hV.port o l;by_cases q:NK g c v i 1=AV g v i
  ·obtain⟨a,b⟩:=(Je hV hD h0 hP h o l k).1 q;refine .inr ?_;rw[xQ k,xQ k];exact p u t a b
  ·exact .inl q
 omit hV hD h0 in
theorem Qk (h:Hv g d c) {v:Nat} (q:v<g.2.length) (l:v≠0) (p:sB) (x:Nat) (s:mD c (par v) x=0∨mD c (par v) x=1):gX (aR p g) c v (.ag 21 (.bi 41 Se (.lf 12 x)))=mD c (par v) x:=by
  obtain⟨a,_,f,_⟩:=hP.at_ v q l;have r:mD c v 1=(fp v:Int):=KF hP h q l;have j:∀b:Bool,(b=true↔mD c (par v) x≠0)->AU b=mD c (par v) x:=λb j=>by
   rcases s with e|e
   ·rw[e]at j ⊢;have:b=false:=by cases b with|true=>exact absurd Z (j.1 Z)|false=>rfl
    rw[this];rfl
   ·rw[e]at j ⊢;rw[j.2 (by decide)];rfl
  have m:gX (aR p g) c v (.ag 21 (.bi 41 Se (.lf 12 x)))≠0↔mD c (par v) x≠0:=by
   unfold gX;rw[JY];constructor
   ·rintro⟨i,t,k⟩;unfold Se at k;rw[wY,JX]at k;have e:(i:Int)=mD c v 1:=k.1;obtain rfl:i=fp v:=by omega
    have o:NK g c v (fp v) x≠0:=k.2;rw[xQ f]at o;exact o
   ·intro k;refine⟨fp v,a,?_⟩
    unfold Se;rw[wY,JX];refine⟨r.symm,?_⟩
    show NK g c v (fp v) x≠0;rw[xQ f];exact k
  have n:∃b:Bool,gX (aR p g) c v (.ag 21 (.bi 41 Se (.lf 12 x)))=AU b:=⟨_,rfl⟩
  obtain⟨b,e⟩:=n;rw[e];rw[e,uG]at m;exact j b m
end
def QK:List Dr:=[(ByteArray.mk #[115],2,0,0,0,0),(ByteArray.mk #[98],2,0,0,0,0),(ByteArray.mk #[121],1,0,3,0,0),(ByteArray.mk #[114],2,0,0,0,0)]
def fO:List Dr:=tE++QK
def RW:List RL:=[(XR,[(2,.lf 2 0),(3,.un 19 (.lf 5 3)),(4,.lf 1 0),(5,.lf 3 0)]),
 (abg,[(2,.ag 21 (.bi 41 Se (.lf 12 2))),(3,.ag 21 (.bi 41 Se (.lf 12 3))),(4,.lf 1 0),(5,.lf 3 0)]),(abh,[(2,.lf 3 0)]),(XV,[(5,.lf 2 0)])]
theorem JB:RS=RB++RW:=rfl
theorem agl:∀r∈RW,∀s∈r.2,2<=s.1:=by decide
theorem akf {l:aS} (h:l.length=6):l=[at' l 0,at' l 1,at' l 2,at' l 3,at' l 4,at' l 5]:=by
 match l,h with
 | [a,b,c,d,e,f],_=>rfl
theorem uH {k a b x:Int} (h:a<=x∧x<=b):mX k (a,b) x=x:=DO h.1 h.2
section
variable {p:sB} {g:GR} {c:List (List Int)} {v t:Nat}
theorem aeN (a:Dx g c fO) (b:v<g.2.length):(mD c v 2=0∨mD c v 2=1)∧(mD c v 3=0∨mD c v 3=1)∧(0<=mD c v 4∧mD c v 4<=3)∧(mD c v 5=0∨mD c v 5=1):=by
 have f:=a.ok v b 2 (by decide);have h:=a.ok v b 3 (by decide);have i:=a.ok v b 4 (by decide);have j:=a.ok v b 5 (by decide);have k:0<=mD c v 2∧mD c v 2<=1:=f;have l:0<=mD c v 3∧mD c v 3<=1:=h;have d:0<=mD c v 4∧mD c v 4<=hi g (at' fO ((4:Nat):Int)) v:=i;have e:hi g (at' fO ((4:Nat):Int)) v=3:=by
  show(3:Int)+0*(g.2.length:Int)+0*iR g g.1.length=3;omega
 rw[e]at d;have m:0<=mD c v 5∧mD c v 5<=1:=j;omega
theorem agG (g:GR) (v:Nat):mL g fO v 2=(0,1)∧mL g fO v 3=(0,1)∧mL g fO v 4=(0,3)∧mL g fO v 5=(0,1):=by
 refine⟨rfl,rfl,?_,rfl⟩
 show((0:Int),(3:Int)+0*(g.2.length:Int)+0*iR g g.1.length)=(0,3)
 congr 1;omega
theorem ahh (o:Dx g c fO) (q:v<g.2.length):
  lE (aR p g) fO RW c v 0=[mD c v 0,mD c v 1,1,AU (decide (mD c v 3=0)),0,0]∧
  (∀s b,gX (aR p g) c v (.ag 21 (.bi 41 Se (.lf 12 2)))=s->gX (aR p g) c v (.ag 21 (.bi 41 Se (.lf 12 3)))=b->0<=s∧s<=1->0<=b∧b<=1->lE (aR p g) fO RW c v 1=[mD c v 0,mD c v 1,s,b,0,0])∧
  lE (aR p g) fO RW c v 2=[mD c v 0,mD c v 1,0,mD c v 3,mD c v 4,mD c v 5]∧
  lE (aR p g) fO RW c v 3=[mD c v 0,mD c v 1,mD c v 2,mD c v 3,mD c v 4,1]:=by
 have a:(at' c (v:Int)).length=6:=o.row v q;have d:=akf a;obtain⟨e,h,i,f⟩:=agG g v;have r:lE (aR p g) fO RW c v 0=((((at' c (v:Int)).set 2 (mX 2 (mL g fO v 2) 1)).set 3 (mX 2 (mL g fO v 3) (AU (decide (mD c v 3=0))))).set 4 (mX 1 (mL g fO v 4) 0)).set 5 (mX 2 (mL g fO v 5) 0):=rfl;have u:lE (aR p g) fO RW c v 1=((((at' c (v:Int)).set 2 (mX 2 (mL g fO v 2) (gX (aR p g) c v (.ag 21 (.bi 41 Se (.lf 12 2)))))).set 3 (mX 2 (mL g fO v 3) (gX (aR p g) c v (.ag 21 (.bi 41 Se (.lf 12 3)))))).set 4 (mX 1 (mL g fO v 4) 0)).set 5 (mX 2 (mL g fO v 5) 0):=rfl;have w:lE (aR p g) fO RW c v 2=(at' c (v:Int)).set 2 (mX 2 (mL g fO v 2) 0):=rfl;have x:lE (aR p g) fO RW c v 3=(at' c (v:Int)).set 5 (mX 2 (mL g fO v 5) 1):=rfl;have n:∀b:Bool,0<=AU b∧AU b<=1:=λb=>by cases b<;>decide
 refine⟨?_,λs b j k l m=> ?_,?_,?_⟩
 ·rw[r,e,h,i,f,uH (by omega),uH (n _),uH (by omega),uH (by omega),d];rfl
 ·rw[u,e,h,i,f,j,k,uH l,uH m,uH (by omega),uH (by omega),d];rfl
 ·rw[w,e,uH (by omega),d];rfl
 ·rw[x,f,uH (by omega),d];rfl
variable {d:List Int} (hV:VG g) (hD:qZ g 0 d) (h0:∀v,v<g.2.length->0<=D d v) {par fp:Nat->Nat} (hP:TP g d par fp)
 include hV hD h0 hP
theorem enS (G:Hv g d c) (o:v<g.2.length):(0<=dU (aR p g) RW c v↔(v=0∧mD c v 2=0∧mD c v 5≠0)∨IS par (sC c) (bC c) v∨Oi g.2.length par (sC c) (bC c) v∨(mD c v 2=0∧mD c v 5=0∧∃w,w<g.2.length∧w≠0∧par w=v∧mD c w 5≠0∧mD c w 2=0))∧
  ((v=0∧mD c v 2=0∧mD c v 5≠0)->dU (aR p g) RW c v=0)∧(IS par (sC c) (bC c) v->dU (aR p g) RW c v=1)∧(¬IS par (sC c) (bC c) v->Oi g.2.length par (sC c) (bC c) v->dU (aR p g) RW c v=2)∧
  (¬(v=0∧mD c v 2=0∧mD c v 5≠0)->¬IS par (sC c) (bC c) v->¬Oi g.2.length par (sC c) (bC c) v->0<=dU (aR p g) RW c v->dU (aR p g) RW c v=3):=by
 have C:=XS (p:=p) (g:=g) (c:=c) (v:=v);have F:=(XT (p:=p) (g:=g) (c:=c) (v:=v)).trans (Za hP G o);have H:=(XU (p:=p) (g:=g) (c:=c) o).trans (aa_ hV hD h0 hP G o);have M:gX (aR p g) c v XV≠0↔(mD c v 2=0∧mD c v 5=0∧∃w,w<g.2.length∧w≠0∧par w=v∧mD c w 5≠0∧mD c w 2=0):=by
  rw[XW o];constructor
  ·rintro⟨⟨x,f⟩,i,k,⟨b,y⟩,l⟩;obtain⟨u,Q,z,_⟩:=hV.port o k;obtain⟨r,s⟩:=(Je hV hD h0 hP G o k z).1 b;rw[xQ z]at y l;exact⟨x,f,u,Q,r,s,y,l⟩
  ·rintro⟨x,f,w,N,A,e,y,l⟩;obtain⟨a,_,m,_⟩:=hP.at_ w N A;rw[e]at m;obtain⟨i,k,n⟩:=hV.back N ⟨fp w,a,m⟩;exact⟨⟨x,f⟩,i,k,⟨(Je hV hD h0 hP G o k n).2 ⟨A,e⟩,by rw[xQ n];exact y⟩,by rw[xQ n];exact l⟩
 have P:∀{e:E},¬gX (aR p g) c v e≠0->gX (aR p g) c v e=0:=λh=>Decidable.not_not.1 h;have J:(v=0∧mD c v 2=0∧mD c v 5≠0)->dU (aR p g) RW c v=0:=λh=>Ef (i:=0) (by decide) (C.2 ⟨⟨h.1,h.2.1⟩,h.2.2⟩) λj I=>by omega
 have O:¬(v=0∧mD c v 2=0∧mD c v 5≠0)->gX (aR p g) c v XR=0:=λh=>P λq=>h (by obtain⟨⟨r,s⟩,B⟩:=C.1 q;exact⟨r,s,B⟩);have K:IS par (sC c) (bC c) v->dU (aR p g) RW c v=1:=λh=>Ef (i:=1) (by decide) (F.2 h) λj I=>by
  obtain rfl:j=0:=by omega
  exact O λq=>h.1 q.1
 have L:¬IS par (sC c) (bC c) v->Oi g.2.length par (sC c) (bC c) v->dU (aR p g) RW c v=2:=λb h=>Ef (i:=2) (by decide) (H.2 h) λj I=>by
  match j,I with
  |0,_=>exact O λq=>h.1 q.2.1
  |1,_=>exact P λq=>b (F.1 q)
 refine⟨⟨λh=> ?_,λh=> ?_⟩,J,K,L,λf b y h=> ?_⟩
 ·obtain⟨i,x,f,b⟩:=(Bb (aR p g) RW c v).resolve_left (λe=>by omega);have f:i<4:=f
  match i,f with
  |0,_=>obtain⟨⟨r,s⟩,B⟩:=C.1 b;exact .inl ⟨r,s,B⟩
  |1,_=>exact .inr (.inl (F.1 b))
  |2,_=>exact .inr (.inr (.inl (H.1 b)))
  |3,_=>exact .inr (.inr (.inr (M.1 b)))
 ·by_cases b:IS par (sC c) (bC c) v
  ·rw[K b];decide
  ·rcases h with h|h|h|h
   ·rw[J h];decide
   ·exact absurd h b
   ·rw[L b h];decide
   ·refine Decidable.not_not.1 λq=> ?_;rcases Bb (aR p g) RW c v with e|⟨i,e,_⟩
    ·exact M.2 h (FN.1 e 3 (by decide))
    ·omega
 ·obtain⟨i,x,k,l⟩:=(Bb (aR p g) RW c v).resolve_left (λe=>by omega);have k:i<4:=k
  match i,k with
  |0,_=>obtain⟨⟨r,s⟩,B⟩:=C.1 l;exact absurd ⟨r,s,B⟩ f
  |1,_=>exact absurd (F.1 l) b
  |2,_=>exact absurd (H.1 l) y
  |3,_=>exact x
end
def yC (c:bG) (v:Nat):Int:=mD c v 4
def rC (c:bG) (v:Nat):Int:=mD c v 5
def MvS (n:Nat) (a:Nat->Nat) (c b:bG) (v:Nat):Prop:=
 (v=0∧sC c 0=0∧rC c 0≠0∧sC b v≠0∧bC b v≠bC c v∧yC b v=0∧rC b v=0)∨
 (IS a (sC c) (bC c) v∧sC b v=sC c (a v)∧bC b v=bC c (a v)∧yC b v=0∧rC b v=0)∨
 (¬IS a (sC c) (bC c) v∧Oi n a (sC c) (bC c) v∧sC b v=0∧bC b v=bC c v∧yC b v=yC c v∧rC b v=rC c v)∨
 (¬IS a (sC c) (bC c) v∧¬Oi n a (sC c) (bC c) v∧¬(v=0∧sC c 0=0∧rC c 0≠0)∧(sC c v=0∧rC c v=0∧∃w,w<n∧w≠0∧a w=v∧rC c w≠0∧sC c w=0)∧sC b v=sC c v∧bC b v=bC c v∧yC b v=yC c v∧rC b v≠0)
structure StS (n:Nat) (par:Nat->Nat) (c:bG) (t:Nat) (c':bG):Prop where
 stay:∀v,v<n->t.testBit v=false->sC c' v=sC c v∧bC c' v=bC c v∧yC c' v=yC c v∧rC c' v=rC c v
 move:∀v,v<n->t.testBit v=true->MvS n par c c' v
def CL (n:Nat) (a:Nat->Nat) (c:bG):Prop:=CI n a (sC c) (bC c)∧∀v,v<n->bC c v=bC c 0->rC c v=0∧yC c v=0
section
variable {n E:Nat} {par dp:Nat->Nat} {c c':List (List Int)} {t:Nat}
theorem StS.ws (h:StS n par c t c'):WS n par (λv=>t.testBit v=true) (sC c) (bC c) (sC c') (bC c'):=by
 refine⟨λv g d=> ?_,λv g d f=> ?_,λv g d f i=> ?_,λv g d f i=> ?_⟩
 ·obtain⟨a,b,_⟩:=h.stay v g (by simpa using d);exact⟨a,b⟩
 ·rcases h.move v g d with q|q|q|q
  ·exact absurd q.1 f.1
  ·exact⟨q.2.1,q.2.2.1⟩
  ·exact absurd f q.1
  ·exact absurd f q.1
 ·rcases h.move v g d with q|q|q|q
  ·have:=q.2.1;rw[<-q.1]at this;exact absurd this i.1
  ·exact absurd q.1 f
  ·exact⟨q.2.2.1,q.2.2.2.1⟩
  ·exact absurd i q.2.1
 ·rcases h.move v g d with q|q|q|q
  ·obtain⟨rfl,a,_,b,e,_⟩:=q;exact .inr ⟨rfl,a,b,e⟩
  ·exact absurd q.1 f
  ·exact absurd q.2.1 i
  ·exact .inl ⟨q.2.2.2.2.1,q.2.2.2.2.2.1⟩
variable (hT:RT n E par dp) (h:StS n par c t c')
 include hT h
theorem TA (m:AG n par (sC c) (bC c)) (p:sC c 0≠0) (f:CL n par c) (j:bC c' 0=bC c 0):CL n par c':=by
 have o:=h.ws;refine⟨aaM hT o m f.1 j,λv g d=> ?_⟩
 rw[j]at d;cases k:t.testBit v with
 |false=>
  obtain⟨_,a,b,e⟩:=h.stay v g k;rw[b,e];rw[a]at d;exact f.2 v g d
 | true =>
  rcases h.move v g k with q|q|q|q
  ·exact absurd q.2.1 p
  ·exact⟨q.2.2.2.2,q.2.2.2.1⟩
  ·obtain⟨_,_,_,a,b,e⟩:=q;rw[b,e];rw[a]at d;exact f.2 v g d
  ·obtain⟨_,_,_,⟨r,u,w,l,i,e,s,_⟩,_,a,_⟩:=q;rw[a]at d;have:=((f.1 v g).1 d r w l i e).2;exact absurd (f.2 w l this).1 s
theorem Tz (d:CL n par c) (o:Oi n par (sC c) (bC c) 0) (r:t.testBit 0=true):∀v,v<n->rC c' v=0∧yC c' v=0:=by
 have k:=aaL hT d.1 o;intro v a;have f:bC c v=bC c 0:=by
  by_cases e:v=0
  ·rw[e]
  ·exact(k v a e).2
 obtain⟨i,j⟩:=d.2 v a f;cases l:t.testBit v with
 |false=>
  obtain⟨_,_,b,e⟩:=h.stay v a l;rw[b,e];exact⟨i,j⟩
 | true =>
  rcases h.move v a l with q|q|q|q
  ·exact⟨q.2.2.2.2.2.2,q.2.2.2.2.2.1⟩
  ·exact⟨q.2.2.2.2,q.2.2.2.1⟩
  ·obtain⟨_,_,_,_,b,e⟩:=q;rw[b,e];exact⟨i,j⟩
  ·obtain⟨_,s,_,⟨u,x,w,m,g,e,p,_⟩,_⟩:=q;exact absurd (d.2 w m (k w m g).2).1 p
theorem Ui (f:Qt n (sC c) (bC c)):(t.testBit 0=true∧rC c 0≠0∧sC c' 0≠0∧bC c' 0≠bC c 0∧CL n par c'∧Wp n dp (bC c') 0∧AG n par (sC c') (bC c'))∨
  (Qt n (sC c') (bC c')∧(t.testBit 0=true->rC c 0=0)∧∀v,v<n->(rC c v≠0->rC c' v≠0)∧(t.testBit v=true->rC c' v≠0)):=by
 have m:=h.ws;have j:=hT.n1;have u:∀v,v<n->¬IS par (sC c) (bC c) v:=λv d q=>by
  obtain⟨a,_⟩:=hT.up v d q.1;rcases q.2 with r|r
  ·exact r (by rw[(f v d).2,(f _ a).2])
  ·exact r.1 (f v d).1
 have s:∀v,v<n->¬Oi n par (sC c) (bC c) v:=λv d q=>q.1 (f v d).1;by_cases i:t.testBit 0=true∧rC c 0≠0
 ·left;obtain⟨k,p⟩:=i;rcases h.move 0 j k with q|q|q|q
  ·obtain⟨_,_,_,w,o,x,y⟩:=q;obtain⟨a,b,e⟩:=Xj hT m f w o;refine⟨k,p,w,o,⟨a,λv d i=> ?_⟩,b,e⟩
   by_cases l:v=0
   ·subst l;exact⟨y,x⟩
   ·obtain⟨a,_⟩:=hT.up v d l;have:=(m.rest d l (f v d).1 (by rw[(f v d).2,(f _ a).2])).2;rw[this,(f v d).2]at i;exact absurd i.symm o
  ·exact absurd q.1 (u 0 j)
  ·exact absurd q.2.1 (s 0 j)
  ·exact absurd ⟨rfl,(f 0 j).1,p⟩ q.2.2.1
 ·right;have g:∀v,v<n->sC c' v=sC c v∧bC c' v=bC c v∧(rC c v≠0->rC c' v≠0)∧(t.testBit v=true->rC c' v≠0):=λv d=>by
   cases k:t.testBit v with
   |false=>
    obtain⟨a,b,_,e⟩:=h.stay v d k;exact⟨a,b,λq=>by rw[e];exact q,λq=>by cases q⟩
   | true =>
    rcases h.move v d k with q|q|q|q
    ·obtain⟨rfl,_,q,_⟩:=q;exact absurd ⟨k,q⟩ i
    ·exact absurd q.1 (u v d)
    ·exact absurd q.2.1 (s v d)
    ·obtain⟨_,_,_,_,a,b,_,e⟩:=q;exact⟨a,b,λ_=>e,λ_=>e⟩
  refine⟨abJ hT m f (g 0 j).1 (g 0 j).2.1,λq=>Decidable.not_not.1 λr=>i ⟨q,r⟩,λv d=>(g v d).2.2⟩
end
theorem aeV {p:sB} {g:GR} {d:List Int} {c:List (List Int)} {a M:Nat->Nat} {t:Nat} (C:VG g) (B:qZ g 0 d) (A:∀v,v<g.2.length->0<=D d v) (n:TP g d a M) (s:Dx g c fO) (o:Hv g d c)
  (w:∀v,t.testBit v=true->v<g.2.length∧0<=dU (aR p g) RS c v):StS g.2.length a c t (iJ (aR p g) fO RS c t):=by
 have l:=s.len;refine⟨λv f r=> ?_,λv f r=> ?_⟩
 ·have e:at' (iJ (aR p g) fO RS c t) (v:Int)=at' c (v:Int):=by rw[Be (by rw[l];exact f),if_neg (by rw[r];decide)]
  unfold sC bC yC rC mD;rw[e];exact⟨rfl,rfl,rfl,rfl⟩
 ·obtain⟨_,O⟩:=w v r;obtain⟨m,K⟩:=PK (p:=p) (W:=QK) (R':=RW) (Jn C B A o f) (by rw[<-JB];exact O);have e:at' (iJ (aR p g) fO RS c t) (v:Int)=lE (aR p g) fO RW c v (dU (aR p g) RW c v):=by
   rw[Be (by rw[l];exact f),if_pos r];exact K
  obtain⟨L,G,H,I,J⟩:=enS (p:=p) C B A n o f;obtain⟨Q,R,S,T⟩:=ahh (p:=p) s f;have u:sC (iJ (aR p g) fO RS c t) v=at' (lE (aR p g) fO RW c v (dU (aR p g) RW c v)) 2∧bC (iJ (aR p g) fO RS c t) v=at' (lE (aR p g) fO RW c v (dU (aR p g) RW c v)) 3∧yC (iJ (aR p g) fO RS c t) v=at' (lE (aR p g) fO RW c v (dU (aR p g) RW c v)) 4∧rC (iJ (aR p g) fO RS c t) v=at' (lE (aR p g) fO RW c v (dU (aR p g) RW c v)) 5:=by
   unfold sC bC yC rC mD;rw[e];exact⟨rfl,rfl,rfl,rfl⟩
  unfold MvS;rw[u.1,u.2.1,u.2.2.1,u.2.2.2];by_cases i:v=0∧mD c v 2=0∧mD c v 5≠0
  ·left;rw[G i,Q];obtain⟨rfl,y,z⟩:=i;refine⟨rfl,y,z,show(1:Int)≠0 by decide,?_,rfl,rfl⟩
   show AU (decide (mD c 0 3=0))≠mD c 0 3;rcases(aeN s f).2.1 with q|q<;>rw[q]<;>decide
  ·by_cases b:IS a (sC c) (bC c) v
   ·right;left;obtain⟨P,_⟩:=(n.at_ v f b.1).2.2.2;obtain⟨E,F,_⟩:=aeN s P;have k:∀x:Nat,mD c (a v) (x:Int)=0∨mD c (a v) (x:Int)=1->0<=mD c (a v) (x:Int)∧mD c (a v) (x:Int)<=1:=λx h=>by omega
    rw[H b,R _ _ (Qk n o f b.1 p 2 E) (Qk n o f b.1 p 3 F) (k 2 E) (k 3 F)];exact⟨b,rfl,rfl,rfl,rfl⟩
   ·right;right;by_cases j:Oi g.2.length a (sC c) (bC c) v
    ·left;rw[I b j,S];exact⟨b,j,rfl,rfl,rfl,rfl⟩
    ·right;have N:=(L.1 m).resolve_left i |>.resolve_left b |>.resolve_left j;rw[J i b j m,T];refine⟨b,j,λq=>i ?_,N,rfl,rfl,rfl,show(1:Int)≠0 by decide⟩
     obtain⟨rfl,y,z⟩:=q;exact⟨rfl,y,z⟩
structure Stg {I C:Type} (idx:I->Nat) (last:Nat) (Ph:I->C->Prop) (T:I->C->Nat->Prop) (en:C->Nat) (St:C->Nat->C->Prop):Prop where
 le:∀i c,Ph i c->idx i<=last
 adv:∀i c,Ph i c->idx i<last->(∀v,¬T i c v)->∃i',idx i<idx i'∧Ph i' c
 en:∀i c v,Ph i c->T i c v->(en c).testBit v=true
 step:∀i c t c',Ph i c->St c t c'->∃i',Ph i' c'∧(idx i<idx i'∨(i'=i∧∀v,T i c' v->T i c v∧t.testBit v=false))
def AR {I C:Type} (a:I->Nat) (b:Nat) (d:I->C->Prop) (T:I->C->Nat->Prop) (R e:Nat) (c:C):Prop:=∃i,d i c∧(a i=b∨R<a i∨(R=a i∧∀v,T i c v->e.testBit v=true))
section
variable {I C:Type} {idx:I->Nat} {last:Nat} {Ph:I->C->Prop} {T:I->C->Nat->Prop} {en:C->Nat} {St:C->Nat->C->Prop} {c c':C} {R pe pe' t:Nat}
theorem AR.start (h:Stg idx last Ph T en St) {i:I} (a:Ph i c):AR idx last Ph T 0 (en c) c:=by
 refine⟨i,a,?_⟩
 rcases Nat.eq_zero_or_pos (idx i)with e|e
 ·exact .inr (.inr ⟨e.symm,λv b=>h.en i c v a b⟩)
 ·exact .inr (.inl e)
theorem AR.next (h:Stg idx last Ph T en St) (n:AR idx last Ph T R pe c) (q:St c t c') (g:∀v,pe'.testBit v=(pe.testBit v && !t.testBit v&&(en c').testBit v)):AR idx last Ph T R pe' c':=by
 obtain⟨i,l,j⟩:=n;obtain⟨r,d,f⟩:=h.step i c t c' l q;refine⟨r,d,?_⟩
 have p:=h.le _ _ d;have k:=h.le _ _ l;rcases f with f|⟨rfl,f⟩
 ·rcases j with e|e|⟨e,_⟩
  ·omega
  ·exact .inr (.inl (by omega))
  ·exact .inr (.inl (by omega))
 ·rcases j with e|e|⟨e,o⟩
  ·exact .inl e
  ·exact .inr (.inl e)
  ·refine .inr (.inr ⟨e,λv m=> ?_⟩);obtain⟨a,b⟩:=f v m;rw[g,o v a,b,h.en _ _ v d m];rfl
theorem AR.round (h:Stg idx last Ph T en St) (g:AR idx last Ph T R 0 c):AR idx last Ph T (R+1) (en c) c:=by
 obtain⟨i,a,k⟩:=g;rcases k with e|e|⟨e,j⟩
 ·exact⟨i,a,.inl e⟩
 ·refine⟨i,a,?_⟩
  by_cases q:R+1=idx i
  ·exact .inr (.inr ⟨q,λv b=>h.en i c v a b⟩)
  ·exact .inr (.inl (by omega))
 ·by_cases q:idx i=last
  ·exact⟨i,a,.inl q⟩
  ·have l:=h.le _ _ a;obtain⟨d,m,f⟩:=h.adv i c a (by omega) λv b=>by have:=j v b;rw[Nat.zero_testBit]at this;cases this
   refine⟨d,f,?_⟩
   by_cases q:R+1=idx d
   ·exact .inr (.inr ⟨q,λv b=>h.en d c v f b⟩)
   ·exact .inr (.inl (by omega))
theorem AR.done (h:Stg idx last Ph T en St) (b:AR idx last Ph T R pe c) (d:last<=R):∃i,Ph i c∧idx i=last:=by
 obtain⟨i,a,e⟩:=b;have:=h.le _ _ a;exact⟨i,a,by omega⟩
theorem JC (h:Stg idx last Ph T en St) (s:AR idx last Ph T R pe c) (w:St c t c') {k:Nat} {f b:CT} {B:Nat} (u:Dd k f R B pe) (v:k<900) (x:t<16777216) (r:t≠0) (n:en c'<16777216) {m:Int} (g:gC 1000 f (t:Int) (en c':Int)=some (b,m)):
  ∃l q pe',Dd (k+1) b l q pe'∧AR idx last Ph T l pe' c'∧(t=pe->l=R+1∧pe'=en c'):=by
 obtain⟨pe',j,d⟩:=u.add v x r n g;have p:=AR.next h s w j;rcases d with⟨o,a⟩|⟨o,a⟩
 ·subst o;exact⟨R+1,R+1,_,a,AR.round h p,λ_=>⟨rfl,rfl⟩⟩
 ·refine⟨R,R+1,pe',a,p,λe=>absurd (Nat.eq_of_testBit_eq λi=> ?_) o⟩
  rw[j,<-e,Nat.zero_testBit];cases t.testBit i<;>rfl
end
end Go.Proofs.YtmdlcmbplnhdnaaGreatDoor
namespace Go.Proofs.YtmdlcmbplnhdnaaGreatDoor
open Go.Sx
def q_  (a:Bool):Option (Bool):=
 some (a)
def xI (U:Nat) (a:Int):Option (Bool):=
 if(1:Int)<=a then(q_  (decide (a<=(4:Int))))else(q_  (false))
theorem adJ:aV Tryz.prog 78:=Tryz.call78
theorem KP (U:Nat) {b:Int} (r:Bool) (h:xI U b=some r):
  aX Tryz.prog 78 #[vI (b)] [] (λx:Unit=>vB (r)) (λx l=>l) (λ_ l=>l):=by
 refine aX.of Tryz.func78 Z Tryz.ntmps78 Z λc=>?_;refine aW<|aC Z<|aM<|aK<|eD (λa=>q_  a=some r) (λa d=>[(2,vB (a))]) (λa d=>[]) ?_ ?_
 ·refine aO<|aA Z<|aB (B_ Z Z) Z<|aA Z ?_;refine Dy h Z (λ_ h=>?_) λ_ h=>?_
  ·refine cR Z<|aP Z (Ca Z Z) Z<|dO Z<|aC Z<|aM ?_;exact gM (decide (b<=(4:Int))) () h SF Z
  refine aH Z<|aH Z<|fI Z<|aC Z<|aM ?_;exact gM (false) () h SF Z
 intro a d h;unfold q_ at h;refine aU ?_;cases h;exact kV Z
def zV (U:Nat) (a:xZ) (b:cF) (d:Int) (e:bG) (f:Int):Option (Int):=
 Option.bind (nH U ((a.1,a.2.1,a.2.2)) ((b.1,b.2)) e) λc=>(if c≠(0:Int)then(some (c))else(Option.bind (xI U d) λg=>(if(!g)=true then(some (12:Int))else(if(4096:Int)<f then(some (3:Int))else(some (0:Int))))))
theorem adx:aV Tryz.prog 50:=Tryz.call50
theorem Qs (U:Nat) {a:xZ} {g:cF} {j:Int} {k:bG} {m:Int} (b:Value)  (d:Value)  (e:Value)  (f:Value)  (n:kH)  (i:Value)  (o:sD) (r:Int) (h:zV U a g j k m=some r):
  aX Tryz.prog 50 #[Value.agg #[vS (a.1),b,d],Value.agg #[e,f],vI (j),i,vI (m)] [Sl aQ b a.2.1,Sl aJ d a.2.2,PF (Value.agg #[vS a.1,b,d]),Sl bP e g.1,S2 a_ f n g.2,S2 bP i o k] (λx:Unit=>vI (r)) (λx l=>l) (λ_ l=>l):=by
 refine aX.of Tryz.func50 Z Tryz.ntmps50 Z λc=>?_;refine aW<|aG (aN.box (cs:=[vS (a.1),b,d]) Z Z) Z λu=>aG (aN.box (cs:=[e,f]) Z Z) Z λv=>aC Z<|aM<|aK<|aW<|dV 1 Z<|dV 0 Z<|aA Z<|eX h λp s h=>aG (aN.callQ W_ (Er U b d e f n i o p s) Z (n_ [0,1,2,3,4,5] Z)) Z λw=>aC Z<|aM<|aW<|aA Z<|rF Z<|aM ?_;refine fE h Z (λh=>?_) λh=>?_
 ·refine aW<|aA Z<|aC Z<|aM<|aU<|aI ?_;cases h;exact sE Z
 refine cK<|aK<|aW<|aA Z<|eX h λq t h=>aG (aN.callQ adJ (KP U  q t) Z .nil) Z λy=>aB (mE Z) Z<|aM ?_;refine Ab h Z (λ_ h=>?_) λ_ h=>?_
 ·refine aW<|aC Z<|aM<|aU<|aI ?_;cases h;exact sE Z
 refine cK<|aK<|aW<|aA Z<|aB (wS Z Z) Z<|aM ?_;refine fE h Z (λh=>?_) λh=>?_
 ·refine aW<|aC Z<|aM<|aU<|aI ?_;cases h;exact sE Z
 refine cK<|aW<|aC Z<|aM<|aU ?_;cases h;exact sE Z
def vC (U:Nat) (a:Int):Option ((Int×Int×Int×Int×Int)):=
 some (((0:Int),(0:Int),(0:Int),(0:Int),(eB .u32 a (16777215:Int))))
theorem aai:aV Tryz.prog 111:=Tryz.call111
theorem ID (U:Nat) {a:Int} (r:(Int×Int×Int×Int×Int)) (h:vC U a=some r):
  aX Tryz.prog 111 #[vU (a)] [] (λx:Unit=>Value.agg #[vI (r.1),vI (r.2.1),vI (r.2.2.1),vI (r.2.2.2.1),vU (r.2.2.2.2)]) (λx l=>l) (λ_ l=>l):=by
 refine aX.of Tryz.func111 Z Tryz.ntmps111 Z λc=>?_;unfold vC at h;refine aW<|aG (aN.alloc (cs:=vD2) Z Z) Z λb=>aM<|aW<|aA Z<|Au Z ?_;refine aB (WC (r:=Value.agg #[vI (0:Int),vI (0:Int),vI (0:Int),vI (0:Int),vU (eB .u32 a (16777215:Int))]) Z (by intro w;simp[Instr.build,Instr.fill,dL,cT,cM,dM,dN,cU,eQ])) Z ?_;refine bQ 0 (vs:=[vI (0:Int),vI (0:Int),vI (0:Int),vI (0:Int),vU (eB .u32 a (16777215:Int))]) Z Z Z Z Z Z<|aM<|aU ?_;cases h;exact fV () Z Z (RV.cell 0 Z Z Z Z) .nil aF.nil
end Go.Proofs.YtmdlcmbplnhdnaaGreatDoor
namespace Go.Proofs.YtmdlcmbplnhdnaaGreatDoor
open Go Go.Sx
def eR (g:GR):Nat:=2^g.2.length - 1
theorem aab {g:GR} (b:VG g):eR g<4294967296:=by
 have a:=b.n24;have:(2:Nat)^g.2.length<=2^24:=Nat.pow_le_pow_right (by omega) a;unfold eR;omega
inductive SR where
 |tree (k:Nat)
 |good (k:Nat)
 |lev (cl:Bool) (k:Nat)
 |low (cl:Bool) (k:Nat)
 |ask (k u:Nat)
 |done
def BM (E:Nat):SR->Nat
 | .tree k=>k
 | .good k=>E+1+k
 | .lev false k=>2*E+1+k
 | .low false k=>3*E+1+k
 | .ask k _=>4*E+2+k
 | .lev true k=>5*E+3+k
 | .low true k=>6*E+3+k
 | .done=>7*E+4
def Gd (n:Nat) (a c:Nat->Nat) (s b:Nat->Int) (k:Nat):Prop:=∀v,v<n->v≠0->c v<=k->gd a s b v
section
variable (g:GR) (d:List Int) (E:Nat) (par dp:Nat->Nat)
def Ri (i:SR) (c:List (List Int)):Prop:=Dx g c fO∧match i with
 | .tree k=>k<=E∧ZD g d k c
 | .good k=>k<E∧Hv g d c∧Gd g.2.length par dp (sC c) (bC c) k
 | .lev cl k=>k<E∧Hv g d c∧AG g.2.length par (sC c) (bC c)∧sC c 0≠0∧Wp g.2.length dp (bC c) k∧(cl=true->CL g.2.length par c)
 | .low cl k=>k<=E∧Hv g d c∧AG g.2.length par (sC c) (bC c)∧sC c 0≠0∧Wp g.2.length dp (bC c) E∧UL g.2.length E dp (sC c) k∧(cl=true->CL g.2.length par c)
 | .ask k u=>k<=E∧Hv g d c∧Qt g.2.length (sC c) (bC c)∧u<g.2.length∧dp u+k<=E∧rC c u≠0
 | .done=>Hv g d c∧Qt g.2.length (sC c) (bC c)∧∀v,v<g.2.length->rC c v=0
def TsR (i:SR) (c:List (List Int)) (v:Nat):Prop:=match i with
 | .tree k=>TrT g d k c v
 | .good k=>v<g.2.length∧v≠0∧dp v<=k+1∧¬gd par (sC c) (bC c) v
 | .lev _ k=>v<g.2.length∧dp v<=k+1∧bC c v≠bC c 0
 | .low _ k=>v<g.2.length∧E<dp v+(k+1)∧sC c v≠0
 | .ask _ u=>(u≠0∧v=par u∧rC c v=0)∨(u=0∧v=0)
 | .done=>False
end
section
variable {g:GR} {d:List Int} {E:Nat} {par dp:Nat->Nat} {c c':List (List Int)} {t:Nat} (hT:RT g.2.length E par dp)
 include hT
theorem ahf {s:Nat->Int}:UL g.2.length E dp s 0:=λv a b=>by have:=hT.le v a;omega
theorem Nx {cl:Bool} {k:Nat} (l:Dx g c fO) (m:k<=E) (a:Hv g d c) (b:AG g.2.length par (sC c) (bC c)) (f:sC c 0≠0) (h:Wp g.2.length dp (bC c) k) (j:cl=true->CL g.2.length par c):∃i,BM E (.lev cl k)<=BM E i∧Ri g d E par dp i c:=by
 by_cases e:k<E
 ·exact⟨.lev cl k,Nat.le_refl _,l,e,a,b,f,h,j⟩
 ·obtain rfl:k=E:=by omega
  refine⟨.low cl 0,?_,l,Nat.zero_le _,a,b,f,h,ahf hT,j⟩
  cases cl<;>(simp only[BM];omega)
 omit hT in
theorem Kn (f:Dx g c fO) (j:RT g.2.length E par dp) (a:Hv g d c) (b:Qt g.2.length (sC c) (bC c)):∃i,4*E+2<=BM E i∧Ri g d E par dp i c:=by
  by_cases e:∃u,u<g.2.length∧rC c u≠0
  ·obtain⟨u,h,k⟩:=e;exact⟨.ask 0 u,Nat.le_refl _,f,Nat.zero_le _,a,b,h,by have:=j.le u h;omega,k⟩
  ·refine⟨.done,by simp only[BM];omega,f,a,b,λv l=>Decidable.not_not.1 λq=>e ⟨v,l,q⟩⟩
theorem TQ {k:Nat} (j:Dx g c fO) (u:k<=E) (h:Hv g d c) (m:Gd g.2.length par dp (sC c) (bC c) k):∃i,E+1+k<=BM E i∧Ri g d E par dp i c:=by
 by_cases e:k<E
 ·exact⟨.good k,Nat.le_refl _,j,e,h,m⟩
 ·have n:AG g.2.length par (sC c) (bC c):=λv f p=>m v f p (by have:=hT.le v f;omega);by_cases o:sC c 0=0
  ·obtain⟨i,a,b⟩:=Kn j hT h (YN hT n o);exact⟨i,by omega,b⟩
  ·have r:Wp g.2.length dp (bC c) 0:=λv f s=>by
    by_cases l:v=0
    ·rw[l]
    ·have:=(hT.up v f l).2;omega
   obtain⟨i,a,b⟩:=Nx (cl:=false) hT j (Nat.zero_le _) h n o r (λq=>by cases q);exact⟨i,by simp only[BM]at a ⊢;omega,b⟩
theorem gd0:Gd g.2.length par dp (sC c) (bC c) 0:=λv b a e=>by have:=(hT.up v b a).2;omega
 omit hT in
theorem aeF {i:SR} (h:Ri g d E par dp i c):BM E i<=7*E+4:=by
  obtain⟨_,h⟩:=h
  match i,h with
  | .tree k,h=>have:=h.1;simp only[BM];omega
  | .good k,h=>have:=h.1;simp only[BM];omega
  | .lev false k,h=>have:=h.1;simp only[BM];omega
  | .lev true k,h=>have:=h.1;simp only[BM];omega
  | .low false k,h=>have:=h.1;simp only[BM];omega
  | .low true k,h=>have:=h.1;simp only[BM];omega
  | .ask k u,h=>have:=h.1;simp only[BM];omega
  | .done,h=>exact Nat.le_refl _
theorem abG (r:∀v,v<g.2.length->D d v<=(E:Int)) {i:SR} (h:Ri g d E par dp i c) (s:BM E i<7*E+4) (f:∀v,¬TsR g d E par dp i c v):∃o,BM E i<BM E o∧Ri g d E par dp o c:=by
 obtain⟨l,h⟩:=h
 match i,h,f with
 | .tree k, ⟨hk, h⟩, f =>
  have m:=Qw h f;by_cases e:k<E
  ·exact⟨.tree (k+1),by simp only[BM];omega,l,e,m⟩
  ·obtain⟨i,a,b⟩:=TQ (k:=0) hT l (Nat.zero_le _) (Mu m λv j=>by have:=r v j;omega) (gd0 hT);exact⟨i,by simp only[BM]at a ⊢;omega,b⟩
 | .good k,⟨hk,h1,h2⟩,f=>
  obtain⟨i,a,b⟩:=TQ (k:=k+1) hT l hk h1 (λv j p n=>Classical.not_not.1 λq=>f v ⟨j,p,n,q⟩);exact⟨i,by simp only[BM]at a ⊢;omega,b⟩
 | .lev cl k,⟨hk,h1,h2,h3,h4,h5⟩,f=>
  obtain⟨i,a,b⟩:=Nx (k:=k+1) hT l hk h1 h2 h3 (λv j n=>Decidable.not_not.1 λq=>f v ⟨j,n,q⟩) h5;refine⟨i,?_,b⟩
  cases cl<;>(simp only[BM]at a ⊢;omega)
 | .low cl k, ⟨hk, h1, h2, h3, h4, h5, h6⟩, f =>
  have m:UL g.2.length E dp (sC c) (k+1):=λv j n=>Decidable.not_not.1 λq=>f v ⟨j,n,q⟩;by_cases e:k<E
  ·refine⟨.low cl (k+1),?_,l,e,h1,h2,h3,h4,m,h6⟩
   cases cl<;>(simp only[BM];omega)
  ·exact absurd (m 0 hT.n1 (by have:=hT.d0;omega)) h3
 | .ask k u, ⟨hk, h1, h2, h3, h4, h5⟩, f =>
  by_cases e:u=0
  ·exact absurd (.inr ⟨e,rfl⟩) (f 0)
  ·obtain⟨a,w⟩:=hT.up u h3 e;refine⟨.ask (k+1) (par u),by simp only[BM];omega,l,by omega,h1,h2,a,by omega,λq=>f _ (.inl ⟨e,rfl,q⟩)⟩
 | .done,_,_=>simp only[BM]at s;omega
end
structure StR (g:GR) (d:List Int) (par:Nat->Nat) (c:List (List Int)) (t:Nat) (c':List (List Int)):Prop where
 tr:TrS g c t c'
 rc:Dx g c' fO
 ws:Hv g d c->Hv g d c'∧StS g.2.length par c t c'
section
variable {g:GR} {d:List Int} {E:Nat} {par dp:Nat->Nat} {c c':List (List Int)} {t:Nat} (hV:VG g) (hD:qZ g 0 d) (h0:∀v,v<g.2.length->0<=D d v) (hT:RT g.2.length E par dp) (hs:StR g d par c t c')
 include hV hD h0 hT hs
theorem YH {i:SR} (h:Ri g d E par dp i c):∃H,Ri g d E par dp H c'∧(BM E i<BM E H∨(H=i∧∀v,TsR g d E par dp i c' v->TsR g d E par dp i c v∧t.testBit v=false)):=by
 obtain⟨Q,h⟩:=h;have l:=hs.rc;have F:∀{v:Nat},¬(t.testBit v=true)->t.testBit v=false:=λh=>by simpa using h
 match i,h with
 | .tree k,⟨hk,h⟩=>
  obtain⟨a,b⟩:=Zc hV hD h0 h hs.tr;exact⟨.tree k,⟨l,hk,a⟩,.inr ⟨rfl,b⟩⟩
 | .good k, ⟨hk, h1, h2⟩ =>
  obtain⟨f,n⟩:=hs.ws h1;have o:=n.ws;have I:∀v,v<g.2.length->v≠0->dp v<=k+1->par v=0∨gd par (sC c) (bC c) (par v):=λv j m r=>by
   obtain⟨a,b⟩:=hT.up v j m;by_cases e:par v=0
   ·exact .inl e
   ·exact .inr (h2 _ a e (by omega))
  refine⟨.good k,⟨l,hk,f,λv j m r=>Ja hT o j m (I v j m (by omega)) (.inl (h2 v j m r))⟩,.inr ⟨rfl,λv ⟨j,m,r,z⟩=> ?_⟩⟩
  exact⟨⟨j,m,r,λq=>z (Ja hT o j m (I v j m r) (.inl q))⟩,F λq=>z (Ja hT o j m (I v j m r) (.inr q))⟩
 | .lev cl k, ⟨hk, h1, h2, h3, h4, h5⟩ =>
  obtain⟨f,n⟩:=hs.ws h1;have o:=n.ws;rcases Ml hT o h2 h3 with⟨A,y⟩|⟨B,G,A,y,x⟩
  ·refine⟨.lev cl k,⟨l,hk,f,IU hT o h2,by rw[A];exact h3,Py hT o h4 y,λq=>TA hT n h2 h3 (h5 q) y⟩,.inr ⟨rfl,λv ⟨j,r,z⟩=> ?_⟩⟩
   obtain⟨a,b⟩:=(Yk hT o h4 y j r).2 z;exact⟨⟨j,r,a⟩,F b⟩
  ·cases cl with
   |false=>
    obtain⟨i,a,b⟩:=Kn l hT f x;exact⟨i,b,.inl (by simp only[BM]at a ⊢;omega)⟩
   |true=>exact⟨.done,⟨l,f,x,λv j=>(Tz hT n (h5 Z) G B v j).1⟩,.inl (by simp only[BM];omega)⟩
 | .low cl k, ⟨hk, h1, h2, h3, h4, h5, h6⟩ =>
  obtain⟨f,n⟩:=hs.ws h1;have o:=n.ws;rcases Ml hT o h2 h3 with⟨A,y⟩|⟨B,G,A,y,x⟩
  ·refine⟨.low cl k,⟨l,hk,f,IU hT o h2,by rw[A];exact h3,Py hT o h4 y,Yp hT o h4 h5 h3,λq=>TA hT n h2 h3 (h6 q) y⟩,.inr ⟨rfl,λv ⟨j,r,z⟩=> ?_⟩⟩
   obtain⟨a,b⟩:=(Yo hT o h2 h4 h5 j r).2 h3 z;exact⟨⟨j,r,a⟩,F b⟩
  ·cases cl with
   |false=>
    obtain⟨i,a,b⟩:=Kn l hT f x;exact⟨i,b,.inl (by simp only[BM]at a ⊢;omega)⟩
   |true=>exact⟨.done,⟨l,f,x,λv j=>(Tz hT n (h6 Z) G B v j).1⟩,.inl (by simp only[BM];omega)⟩
 | .ask k u, ⟨hk, h1, h2, h3, h4, h5⟩ =>
  obtain⟨f,n⟩:=hs.ws h1;rcases Ui hT n h2 with⟨B,C,M,R,N,O,P⟩|⟨x,s,p⟩
  ·obtain⟨i,a,b⟩:=Nx (cl:=true) hT l (Nat.zero_le _) f P M O (λ_=>N);exact⟨i,b,.inl (by simp only[BM]at a ⊢;omega)⟩
  ·refine⟨.ask k u,⟨l,hk,f,x,h3,h4,(p u h3).1 h5⟩,.inr ⟨rfl,λv j=> ?_⟩⟩
   rcases j with⟨e,rfl,C⟩|⟨e,rfl⟩
   ·obtain⟨a,_⟩:=hT.up u h3 e;exact⟨.inl ⟨e,rfl,Decidable.not_not.1 λq=>(p _ a).1 q C⟩,F λq=>(p _ a).2 q C⟩
   ·subst e;exact⟨.inr ⟨rfl,rfl⟩,F λq=>h5 (s q)⟩
 | .done, ⟨h1, h2, h3⟩ =>
  obtain⟨f,n⟩:=hs.ws h1;rcases Ui hT n h2 with⟨B,C,_⟩|⟨x,s,p⟩
  ·exact absurd (h3 0 hT.n1) C
  ·refine⟨.done,⟨l,f,x,λv j=> ?_⟩,.inr ⟨rfl,λv q=>q.elim⟩⟩
   cases J:t.testBit v with
   |false=>rw[(n.stay v j J).2.2.2];exact h3 v j
   | true =>
    have q:=n.move v j J;have K:=h2 v j;rcases q with q|q|q|q
    ·obtain⟨rfl,_,q,_⟩:=q;exact absurd (h3 0 j) q
    ·exact q.2.2.2.2
    ·exact absurd K.1 q.2.1.1
    ·obtain⟨_,_,_,⟨_,_,w,L,_,_,q,_⟩,_⟩:=q;exact absurd (h3 w L) q
end
theorem aeU {p:sB} {g:GR} {d:List Int} {c:List (List Int)} {h r:Nat->Nat} {t:Nat} (k:VG g) (n:qZ g 0 d) (m:∀v,v<g.2.length->0<=D d v) (s:TP g d h r) (u:sN g fO) (l:Dx g c fO)
  (e:∀v,t.testBit v=true->v<g.2.length∧0<=dU (aR p g) RS c v):StR g d h c t (iJ (aR p g) fO RS c t):=by
 have j:=ae_ (p:=p) (W:=QK) (R':=RW) (t:=t) k l agl (by rw[<-JB];exact e);refine⟨j,Ms (S:=aR p g) u l,λi=>⟨λv f=> ?_,aeV k n m s l i e⟩⟩
 have q:=Jn k n m i f;cases o:t.testBit v with
 |false=>obtain⟨a,b⟩:=j.stay v f o;rw[show iJ (aR p g) fO RS c t=iJ (aR p g) (tE++QK) (RB++RW) c t from rfl,a,b];exact i v f
 |true=>obtain⟨a,b⟩:=j.move v f o;rw[show iJ (aR p g) fO RS c t=iJ (aR p g) (tE++QK) (RB++RW) c t from rfl,a,b,<-q.1,<-q.2];exact i v f
theorem abU (p b:sB) (g:GR) (a:List Dr) (R:List RL) (c:bG) (t:Nat):iJ (aR p g) a R c t=iJ (aR b g) a R c t:=rfl
theorem Pq (p b:sB) (g:GR) (R:List RL) (a:Nat) (c:bG):pB (aR p g) R a c=pB (aR b g) R a c:=rfl
noncomputable def nxt (g:GR) (a:Int) (c:Nat) (w:Int):Nat:=(((oI 1000 g).bind λb=>eZ 1000 b a (c:Int) w).getD 0).toNat
noncomputable def CR (p:sB) (vars:List Dr) (R:List RL) (g:GR) (kind:Int) (ws:aS) (a:bG):Nat->bG
 |0=>a
 |k+1=>iJ (aR p g) vars R (CR p vars R g kind ws a k) (nxt g kind (pB (aR p g) R (eR g) (CR p vars R g kind ws a k)) (at' ws (k:Int)))
theorem KJ (p p':sB) (vars:List Dr) (R:List RL) (g:GR) (kind:Int) (ws:aS) (a:bG) (k:Nat):CR p vars R g kind ws a k=CR p' vars R g kind ws a k:=by
 induction k with
 |zero=>rfl
 |succ k b=>
  rw[CR,CR,b,abU p p',Pq p p']
theorem exZ (D:Lb):∃z:List wA,z.map yP=D:=by
 refine⟨D.map λd=>(ByteArray.mk #[],(.bool true,d.1),(.bool true,d.2.map λs=>(s.1,(.bool true,s.2)))),?_⟩
 rw[List.map_map]
 conv=>rhs;rw[<-List.map_id D]
 refine List.map_congr_left λd _=> ?_;show(d.1,(d.2.map λs=>(s.1,((.bool true:Value),s.2))).map λs=>(s.1,s.2.2))=d;rw[List.map_map];exact Prod.ext Z (by
  conv=>rhs;rw[<-List.map_id d.2]
  rfl)
end Go.Proofs.YtmdlcmbplnhdnaaGreatDoor