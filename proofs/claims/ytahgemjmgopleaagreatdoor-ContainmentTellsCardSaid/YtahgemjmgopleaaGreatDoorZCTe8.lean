/- Models and proofs. Conditions: none. -/
import Derived.Test.YtahgemjmgopleaaGreatDoorZCTe5
import Derived.Test.YtahgemjmgopleaaGreatDoorZCTe2
import Derived.Test.YtahgemjmgopleaaGreatDoorZCTe7
import Derived.Test.YtahgemjmgopleaaGreatDoorZCTe6
set_option linter.unusedVariables false
set_option linter.unusedSimpArgs false
set_option maxHeartbeats 4000000
set_option maxRecDepth 20000
namespace Go.Proofs.YtahgemjmgopleaaGreatDoor
open Go Go.Sx
def sat (x:Int):Int:=max (-1073741824) (min x 1073741824)
def unD (o x:Int):Int:=if o=18 then wI .i64 (0 - x)else SQ (decide (x=0))
def adc (a b:Int):Int:=if b=0 then 0 else if Int.tmod a b≠0∧((decide (a<0)) != (decide (b<0)))=true then wI .i64 (wI .i64 (Int.tdiv a b) - 1)else wI .i64 (Int.tdiv a b)
def aeW (o x y:Int):Bool:=if o=35 then decide (x=y)else if o=36 then decide (x≠y)else if o=37 then decide (x<y)else if o=38 then decide (x<=y)else if o=39 then decide (y<x)else decide (y<=x)
def biD (o x y:Int):Int:=
 if o=30 then sat (wI .i64 (x*y))else if o=31 then sat (adc x y)else if o=32 then(if y=0 then 0 else sat (wI .i64 (x - wI .i64 (y*adc x y))))else if o=33 then sat (wI .i64 (x+y))else if o=34 then sat (wI .i64 (x - y))
 else if o=41 then SQ (decide (x≠0)&&decide (y≠0))else if o=42 then SQ (decide (x≠0)||decide (y≠0))else SQ (aeW o x y)
theorem aav (f:Nat) (o x:Int):Ch f o x=some (unD o x):=by
 unfold Ch unD;split
 ·rfl
 ·rw[aZ (xQ f _)]
theorem aad (f:Nat) (a b:Int):sO f a b=some (adc a b):=by
 unfold sO adc;by_cases c:b=0
 ·rw[if_pos c,if_pos c]
 ·rw[if_neg c,if_neg c,cO c,cO c];by_cases d:Int.tmod a b=0
  ·rw[if_neg (by simpa using d),if_neg (by simp[d])];rfl
  ·rw[if_pos d];unfold vJ rA;by_cases e:((decide (a<0)) != (decide (b<0)))=true
   ·rw[if_pos e,if_pos ⟨d,e⟩]
   ·rw[if_neg e,if_neg (λq=>e q.2)]
theorem aeX (f:Nat) (o x y:Int):xZ f o x y=some (aeW o x y):=by
 unfold xZ aeW
 repeat' split
 all_goals rfl
theorem Wv (f:Nat) (o x y:Int):Bb f o x y=some (biD o x y):=by
 unfold Bb biD;by_cases h:o=30
 ·rw[if_pos h,if_pos h];rfl
 rw[if_neg h,if_neg h];by_cases h:o=31
 ·rw[if_pos h,if_pos h,aZ (aad f x y)];rfl
 rw[if_neg h,if_neg h];by_cases h:o=32
 ·rw[if_pos h,if_pos h];by_cases b:y=0
  ·rw[if_pos b,if_pos b]
  ·rw[if_neg b,if_neg b,aZ (aad f x y)];rfl
 rw[if_neg h,if_neg h];by_cases h:o=33
 ·rw[if_pos h,if_pos h];rfl
 rw[if_neg h,if_neg h];by_cases h:o=34
 ·rw[if_pos h,if_pos h];rfl
 rw[if_neg h,if_neg h];by_cases h:o=41
 ·rw[if_pos h,if_pos h];by_cases a:x=0
  ·rw[if_neg (by simpa using a),aZ (xQ f _)];simp[a,qZ]
  ·rw[if_pos a,aZ (xQ f _)];simp[a,qZ]
 rw[if_neg h,if_neg h];by_cases h:o=42
 ·rw[if_pos h,if_pos h];by_cases a:x=0
  ·rw[if_neg (by simpa using a),aZ (xQ f _)];simp[a,q_]
  ·rw[if_pos a,aZ (xQ f _)];simp[a,q_]
 rw[if_neg h,if_neg h,aZ (aeX f o x y),aZ (xQ f _)]
def E.den (L:Int->Int->Int->Int) (b:Nat):E->Int->Int
 |lf o a,p=>L o a p
 |un o x,p=>unD o (x.den L b p)
 |ag o x,_=>Kg o ((List.range b).map λq=>x.den L b ((q:Nat):Int))
 |bi o x y,p=>biD o (x.den L b p) (y.den L b p)
 |ite x y z,p=>if x.den L b p≠0 then y.den L b p else z.den L b p
def E.wf (c:Nat):Bool->E->Bool
 |b,lf o a=>decide (1<=o)&&decide (o<=17)&&(b||decide (o<=10))&&((decide (o≠5)&&decide (o≠12))||(decide (0<=a)&&decide (a<(c:Int))))
 |b,un o x=>decide (18<=o)&&decide (o<=19)&&x.wf c b
 |_,ag o x=>(decide (o=20)||decide (o=21)||decide (o=22)||decide (o=23)||decide (o=24)||decide (o=26)||decide (o=27))&&x.wf c true
 |b,bi o x y=>decide (30<=o)&&decide (o<=42)&&x.wf c b&&y.wf c b
 |b,ite x y z=>x.wf c b&&y.wf c b&&z.wf c b
theorem aaS {i:Nat}:∀{e:E} {b:Bool},e.wf i b=true->e.arOk=true:=by
 intro e
 induction e with
 |lf o a=>intro b h;simp[E.wf,E.arOk]at h ⊢;omega
 |un o x f=>intro b h;simp[E.wf,E.arOk]at h ⊢;exact⟨h.1,f h.2⟩
 |ag o x f=>intro b h;simp[E.wf,E.arOk]at h ⊢;exact⟨by omega,f h.2⟩
 |bi o x y c d=>intro b h;simp[E.wf,E.arOk]at h ⊢;exact⟨⟨h.1.1,c h.1.2⟩,d h.2⟩
 |ite x y z c d g=>intro b h;simp[E.wf,E.arOk]at h ⊢;exact⟨⟨c h.1.1,d h.1.2⟩,g h.2⟩
def ZJ (W:WLK) (p:Int):Int:=(at' (at' W.1.2.1.2 W.2.2.1) p).1
def lfD (W:WLK) (o a p:Int):Int:=
 if o=1 then a else if o=2 then 1 else if o=3 then 0 else if o=4 then -1 else if o=5 then at' (at' W.2.1 W.2.2.1) a else if o=12 then at' (at' W.2.1 (ZJ W p)) a
 else if o=6 then(W.1.2.1.1.length:Int)else if o=7 then W.1.2.2.1 else if o=8 then at' W.1.2.1.1 W.2.2.1 else if o=9 then((at' W.1.2.1.2 W.2.2.1).length:Int)else if o=10 then SQ (decide (W.2.2.1=0))else if o=11 then p
 else if o=13 then at' W.1.2.1.1 (ZJ W p)else if o=14 then((at' W.1.2.1.2 (ZJ W p)).length:Int)else if o=15 then SQ (decide (ZJ W p=0))else if o=16 then(at' (at' W.1.2.1.2 W.2.2.1) p).2 else at' (at' W.1.2.2.2 W.2.2.1) p
structure WOk (W:WLK) (nv n v:Nat):Prop where
 node:W.2.2.1=(v:Int)
 lt:v<n
 ports:W.1.2.1.2.length=n
 ids:W.1.2.1.1.length=n
 c:W.2.1.length=n
 row:∀u:Nat,u<n->(at' W.2.1 (u:Int)).length=nv
 to:∀u:Nat,u<n->∀i:Nat,i<(at' W.1.2.1.2 (u:Int)).length->0<=(at' (at' W.1.2.1.2 (u:Int)) (i:Int)).1∧(at' (at' W.1.2.1.2 (u:Int)) (i:Int)).1<(n:Int)
 bl:W.1.2.2.2.length=n
 br:∀u:Nat,u<n->(at' W.1.2.2.2 (u:Int)).length=(at' W.1.2.1.2 (u:Int)).length
def XV (b:Bool) (a:Nat) (p:Int):Prop:=b=true->∃q:Nat,p=(q:Int)∧q<a
theorem acN {W:WLK} {k n v:Nat} (h:WOk W k n v) (f:Nat) {b:Bool} {o a p:Int} (s:(E.lf o a).wf k b=true) (r:XV b (at' W.1.2.1.2 (v:Int)).length p):nF f W (o,a) p=some (lfD W o a p):=by
 obtain⟨y,c,A,B,C,l,m,F,w⟩:=h;simp only[E.wf,zA1,zAu,zA8]at s;obtain⟨⟨⟨G,H⟩,d⟩,I⟩:=s;have z:(at' W.2.1 (v:Int)).length=k:=l v c;unfold nF lfD ZJ;dsimp only;rw[y];by_cases e:o=1
 ·simp only[if_pos e]
 simp only[if_neg e];by_cases e:o=2
 ·simp only[if_pos e]
 simp only[if_neg e];by_cases e:o=3
 ·simp only[if_pos e]
 simp only[if_neg e];by_cases e:o=4
 ·simp only[if_pos e]
 simp only[if_neg e];by_cases e:o=5
 ·simp only[if_pos e];rw[cO (by omega),cO (by omega)]
 simp only[if_neg e];by_cases e:o=12
 ·have i:b=true:=by
   rcases d with d|d
   ·exact d
   ·omega
  obtain⟨q,rfl,j⟩:=r i;have g:=m v c q j;obtain⟨u,x⟩:∃u:Nat,(at' (at' W.1.2.1.2 (v:Int)) (q:Int)).1=(u:Int):=⟨_,(Int.toNat_of_nonneg g.1).symm⟩
  simp only[if_pos e];rw[x]at g ⊢;have D:=l u (by omega);rw[cO (by omega),cO (by omega),cO (by omega),cO (by omega)]
 simp only[if_neg e];unfold uI;dsimp only;by_cases e:o=6
 ·simp only[if_pos e];rfl
 simp only[if_neg e];by_cases e:o=7
 ·simp only[if_pos e];rfl
 simp only[if_neg e];by_cases e:o=8
 ·simp only[if_pos e];rw[cO (by omega)];rfl
 simp only[if_neg e];by_cases e:o=9
 ·simp only[if_pos e];rw[cO (by omega)];rfl
 simp only[if_neg e];by_cases e:o=10
 ·simp only[if_pos e];rw[aZ (xQ f _)];rfl
 simp only[if_neg e];by_cases e:o=11
 ·simp only[if_pos e];rfl
 simp only[if_neg e];have i:b=true:=by
  rcases d with d|d
  ·exact d
  ·omega
 obtain⟨q,rfl,j⟩:=r i;have g:=m v c q j;rw[cO (by omega),cO (by omega)];by_cases e:o=13
 ·simp only[if_pos e];rw[cO (by omega)];rfl
 simp only[if_neg e];by_cases e:o=14
 ·simp only[if_pos e];rw[cO (by omega)];rfl
 simp only[if_neg e];by_cases e:o=15
 ·simp only[if_pos e];rw[aZ (xQ f _)];rfl
 simp only[if_neg e];by_cases e:o=16
 ·simp only[if_pos e];rfl
 simp only[if_neg e];have t:=w v c;rw[cO (by omega),cO (by omega)];rfl
theorem aaL {W:WLK} {nv n v:Nat} (h:WOk W nv n v) {deg:Nat} (hdeg:(at' W.1.2.1.2 (v:Int)).length=deg) (hd24:deg<=24) (hT9:W.2.2.2.length<=800):
  ∀(e:E) (b:Bool) (fuel k:Nat) (p:Int) (pre post:eY),W.2.2.2=pre++(e.ts++post)->pre.length=k->e.wf nv b=true->XV b deg p->e.depth+850<=fuel->
   cF fuel W (k:Int) p=some (e.den (lfD W) deg p,(((k+e.ts.length:Nat)):Int)):=by
 obtain⟨hv,hlt,h1,h2,h3,h4,h5,_,_⟩:=id h
 have start:∀{t:eL} {l pre post:eY} {k:Nat},W.2.2.2=pre++((t::l)++post)->pre.length=k->at' W.2.2.2 (k:Int)=t∧(k:Int)<(W.2.2.2.length:Int):=by
  intro t l pre post k hT hk
  refine⟨OV (rest:=l++post) (by simpa using hT) hk,?_⟩
  rw[hT];simp;omega
 intro e
 induction e with
 |lf o a=>
  intro b fuel k p pre post hT hk hw hp hf
  obtain⟨fuel,rfl⟩:∃f,fuel=f+1:=⟨fuel - 1,by omega⟩
  obtain⟨ht,hlk⟩:=start (l:=[]) hT hk
  show eO (cF fuel) fuel W (k:Int) p=_
  unfold eO
  rw[cO ⟨by omega,hlk⟩,ht]
  dsimp only
  have hw':=hw
  simp only[E.wf,zA1,zAu,zA8]at hw'
  have hl:=acN h fuel hw (hdeg▸hp)
  rw[if_pos (by omega),aZ (show nF fuel _ (o,a) p=some (lfD W o a p)from hl),dH (by omega)]
  rfl
 |un o x ih=>
  intro b fuel k p pre post hT hk hw hp hf
  obtain⟨fuel,rfl⟩:∃f,fuel=f+1:=⟨fuel - 1,by omega⟩
  obtain⟨ht,hlk⟩:=start (l:=x.ts) hT hk
  show eO (cF fuel) fuel W (k:Int) p=_
  unfold eO
  rw[cO ⟨by omega,hlk⟩,ht]
  dsimp only
  simp only[E.wf,zA1,zA8]at hw
  simp only[E.depth]at hf
  have hx:=ih b fuel (k+1) p (pre++[(o,0)]) post (by rw[hT];simp[E.ts]) (by simp[hk]) hw.2 hp (by omega)
  rw[if_neg (by omega),if_pos (by omega),dH (by omega),aZ (show cF fuel _ _ p=_ from hx),aZ (aav fuel _ _)]
  simp only[E.den,E.ts,zAh]
  rw[show k+1+x.ts.length=k+(x.ts.length+1) by omega]
 |bi o x y ihx ihy=>
  intro b fuel k p pre post hT hk hw hp hf
  obtain⟨fuel,rfl⟩:∃f,fuel=f+1:=⟨fuel - 1,by omega⟩
  obtain⟨ht,hlk⟩:=start (l:=x.ts++y.ts) hT hk
  show eO (cF fuel) fuel W (k:Int) p=_
  unfold eO
  rw[cO ⟨by omega,hlk⟩,ht]
  dsimp only
  simp only[E.wf,zA1,zA8]at hw
  simp only[E.depth]at hf
  have hx:=ihx b fuel (k+1) p (pre++[(o,0)]) (y.ts++post) (by rw[hT];simp[E.ts]) (by simp[hk]) hw.1.2 hp (by omega)
  have hy:=ihy b fuel (k+1+x.ts.length) p (pre++(o,0)::x.ts) post (by rw[hT];simp[E.ts]) (by simp[hk];omega) hw.2 hp (by omega)
  rw[if_neg (by omega),if_neg (by omega),if_neg (by omega),if_pos (by omega),dH (by omega),aZ (show cF fuel _ _ p=_ from hx),aZ (show cF fuel _ _ p=_ from hy),aZ (Wv fuel _ _ _)]
  simp only[E.den,E.ts,zAh,zAi]
  rw[show k+1+x.ts.length+y.ts.length=k+(x.ts.length+y.ts.length+1) by omega]
 |ite x y z ihx ihy ihz=>
  intro b fuel k p pre post hT hk hw hp hf
  obtain⟨fuel,rfl⟩:∃f,fuel=f+1:=⟨fuel - 1,by omega⟩
  obtain⟨ht,hlk⟩:=start (l:=x.ts++(y.ts++z.ts)) hT hk
  show eO (cF fuel) fuel W (k:Int) p=_
  unfold eO
  rw[cO ⟨by omega,hlk⟩,ht]
  dsimp only
  simp only[E.wf,zA1]at hw
  simp only[E.depth]at hf
  have hx:=ihx b fuel (k+1) p (pre++[(43,0)]) (y.ts++z.ts++post) (by rw[hT];simp[E.ts]) (by simp[hk]) hw.1.1 hp (by omega)
  have hy:=ihy b fuel (k+1+x.ts.length) p (pre++(43,0)::x.ts) (z.ts++post) (by rw[hT];simp[E.ts]) (by simp[hk];omega) hw.1.2 hp (by omega)
  have hz:=ihz b fuel (k+1+x.ts.length+y.ts.length) p (pre++(43,0)::(x.ts++y.ts)) post (by rw[hT];simp[E.ts]) (by simp[hk];omega) hw.2 hp (by omega)
  rw[if_neg (by decide),if_neg (by decide),if_neg (by decide),if_neg (by decide),dH (by omega),aZ (show cF fuel _ _ p=_ from hx),aZ (show cF fuel _ _ p=_ from hy),aZ (show cF fuel _ _ p=_ from hz)]
  simp only[E.den,E.ts,zAh,zAi]
  rw[show k+1+x.ts.length+y.ts.length+z.ts.length=k+(x.ts.length+(y.ts.length+z.ts.length)+1) by omega]
  split<;>rfl
 | ag o x ih =>
  intro b fuel k p pre post hT hk hw hp hf
  obtain⟨fuel,rfl⟩:∃f,fuel=f+1:=⟨fuel - 1,by omega⟩
  obtain⟨ht,hlk⟩:=start (l:=x.ts) hT hk
  have har:=aaS hw
  have hwx:=hw
  simp only[E.wf,zA1,zAu,zA8]at hwx
  simp only[E.depth]at hf
  have hts:(E.ag o x).ts.length=x.ts.length+1:=rfl
  have hlen:=congrArg List.length hT
  simp only[zAi]at hlen
  show eO (cF fuel) fuel W (k:Int) p=_
  unfold eO
  rw[cO ⟨by omega,hlk⟩,ht]
  dsimp only
  rw[if_neg (by omega),if_neg (by omega),if_pos (by omega),cO (by omega)]
  let D:Nat->Int:=λq=>x.den (lfD W) deg ((q:Nat):Int)
  let V:Nat->aX:=λq=>(List.range q).map D++List.replicate (24 - q) 0
  have hVl:∀q,q<=24->(V q).length=24:=λq hq=>by simp[V];omega
  have hset:∀q,q<24->(V q).set q (D q)=V (q+1):=λq hq=>by
   show((List.range q).map D++List.replicate (24 - q) 0).set q (D q)=(List.range (q+1)).map D++List.replicate (24 - (q+1)) 0
   rw[show 24 - q=(24 - (q+1))+1 by omega,List.replicate_succ,List.set_append_right _ _ (by simp),zB8]
   simp
  let N:Nat->Int:=λq=>if q=0 then 0 else(((k+1+x.ts.length:Nat)):Int)
  refine Eq.trans (cR (step:=lF fuel W (k:Int) (cF fuel)) (K:=some ((E.ag o x).den (lfD W) deg p,(((k+(E.ag o x).ts.length:Nat)):Int))) deg (λq=>(N q,(q:Int),V q)) (λq ag hq=> ?_) (λag=> ?_) fuel (by omega)) rfl
  ·unfold lF
   dsimp only
   have hx:=ih true fuel (k+1) ((q:Nat):Int) (pre++[(o,0)]) post (by rw[hT];simp[E.ts]) (by simp[hk]) hwx.2 (λ_=>⟨q,rfl,hq⟩) (by omega)
   rw[if_pos (by rw[hv,hdeg];omega),dH (by omega),aZ (show cF fuel _ _ _=_ from hx),cO ⟨by omega,hVl q (by omega)⟩,dH (by omega),zAe]
   show ag (_,_,(V q).set q (D q))=_
   rw[hset q (by omega)]
   simp only[N]
   rw[if_neg (by omega)]
  ·unfold lF
   dsimp only
   rw[if_neg (by rw[hv,hdeg];omega)]
   have hfold:List.take deg (V deg)=(List.range deg).map D:=by
    show List.take deg ((List.range deg).map D++_)=_
    exact List.take_left' (by simp)
   have fin:∀y:Int,y=(((k+1+x.ts.length:Nat)):Int)->lE fuel W (k:Int) (N deg,V deg) y=some ((E.ag o x).den (lfD W) deg p,(((k+(E.ag o x).ts.length:Nat)):Int)):=by
    rintro y rfl
    unfold lE
    dsimp only
    rw[hv,hdeg,cO ⟨by omega,by omega,by rw[hVl deg hd24];omega⟩,ht,zAe,hfold,aZ (acy fuel o _ (by omega) (by simp;omega) (by omega))]
    unfold pA
    rw[hts,show k+1+x.ts.length=k+(x.ts.length+1) by omega]
    rfl
   unfold tE
   dsimp only
   by_cases h0:deg=0
   ·rw[if_pos (by rw[hv,hdeg];omega),aZ (afb fuel (E.ag o x) har hT hk hT9 (by omega))]
    exact fin _ (by rw[hts];omega)
   ·rw[if_neg (by rw[hv,hdeg];omega)]
    exact fin _ (by simp only[N];rw[if_neg h0])
end Go.Proofs.YtahgemjmgopleaaGreatDoor
namespace Go.Proofs.YtahgemjmgopleaaGreatDoor
open Go.Sx
def hZ (U:Nat) (a:Xo) (b:bO) (c:Int) (d:eY):Option (Int):=
 Option.bind (cF U ((((((a.1.1,a.1.2.1,a.1.2.2)),((a.2.1.1,a.2.1.2)),a.2.2.1,a.2.2.2)),b,c,d)) (0:Int) (-1:Int)) λe=>(some (e.1))
theorem US:aV Tryz.prog 209:=Tryz.call209
theorem AG (U:Nat) {d:Xo} {s:bO} {f:Int} {t:eY} (a:Nat)  (m:Value)  (n:Value)  (o:Value)  (p:Value)  (u:iX)  (q:Value)  (v:lU)  (e:Value)  (y:lU)  (b:Value) (r:Int) (h:hZ U d s f t=some r):
  aW Tryz.prog 209 #[vP a,e,vI (f),b] [cJ a [vS (d.1.1),m,n,o,p,vI (d.2.2.1),q] 224,Sl aP m d.1.2.1,Sl aJ n d.1.2.2,Sl bX o d.2.1.1,S2 bD p u d.2.1.2,S2 bX q v d.2.2.2,S2 bX e y s,Sl bD b t] (λx:Unit=>vI (r)) (λx l=>l) (λ_ l=>l):=by
 refine aW.of Tryz.func209 Z Tryz.ntmps209 Z λc=>?_;refine aR<|aB Z<|aL<|aR<|aA Z<|aA Z<|aA Z<|aA Z<|bE (Know.one (aD.sl (aD.fact 6 Z))) λg=>bE (Know.one ((aD.fact 7 Z))) λi=>?_;refine aC (BQ (r:=Value.agg #[Value.pointer (some ⟨a,0,none⟩),e,vI (f),b]) Z Z Z Z (by intro w;simp[Instr.build,Instr.fill,cT,b_,bW,cU,cV,cA,dJ,cI g,cI i])) Z ?_;refine aH (aN.alloc (cs:=[Value.pointer none,lL,vI (0:Int),lL]) Z Z) Z λz=>bE (Know.one (aD.sl (aD.fact 6 Z))) λj=>bE (Know.one ((aD.fact 7 Z))) λk=>bF 0 (vs:=[vP a,e,vI (f),b]) Z Z (bR Z (bR j (bR Z (bR k Z)))) Z Z Z<|aL<|aR<|dZ h λA B h=>aH (zBg De (Gg U z a m n o p u q v e y b A B) Z (aG.cons (aD.res 0 Z) (jP [0,1,2,3,4,5,6,7] Z))) Z λC=>aA Z<|eQ Z<|eQ Z<|aB Z<|aB Z<|aL<|aR<|aA Z<|aB Z<|aL<|aQ ?_;cases h;exact oA Z
def lJ (U:Nat) (a:Xo) (c:bO) (d:Int) (b:Int):Option Bool:=
 ck (0<=b∧b<(a.1.2.2.length:Int)) (Option.bind (hZ U ((((a.1.1,a.1.2.1,a.1.2.2)),((a.2.1.1,a.2.1.2)),a.2.2.1,a.2.2.2)) c d ((at' a.1.2.2 b).2.1.2)) λe=>(some (decide (e≠(0:Int)))))
theorem abO:aV Tryz.prog 179:=Tryz.call179
theorem Fz (U:Nat) {a:Xo} {n:bO} {o:Int} {e:Int} (b:Nat)  (f:Value)  (g:Value)  (i:Value)  (j:Value)  (p:iX)  (k:Value)  (q:lU)  (m:Value)  (s:lU) (r:Bool) (h:lJ U a n o e=some r):
  aW Tryz.prog 179 #[vP b,m,vI (o),vI (e)] [cJ b [vS (a.1.1),f,g,i,j,vI (a.2.2.1),k] 224,Sl aP f a.1.2.1,Sl aJ g a.1.2.2,Sl bX i a.2.1.1,S2 bD j p a.2.1.2,S2 bX k q a.2.2.2,S2 bX m s n] (λx:Unit=>vB (r)) (λx l=>l) (λ_ l=>l):=by
 refine aW.of Tryz.func179 Z Tryz.ntmps179 Z λc=>?_;refine aR<|aB Z<|aL<|aR<|aA Z<|aA Z<|aA Z<|aA Z<|aC (dB Z) Z<|bN Z<|bN Z<|aC (fJ Z (aD.fact 0 Z) Z Z Z) Z<|aA Z<|dW h λd h=>aC (a_ Z Z (aD.fact 2 Z) Z Z d) Z<|aC (dX Z Z Z Z Z) Z<|aC (e_ Z (aD.fact 2 Z) Z Z Z tH d) Z<|dZ h λt u h=>aH (zBg US (AG U b f g i j p k q m s ((at' a.1.2.2 e).2.1.1) t u) Z (aG.cons (aD.fact 0 Z) (aG.cons (aD.fact 1 Z) (aG.cons (aD.fact 2 Z) (aG.cons (aD.fact 3 Z) (aG.cons (aD.fact 4 Z) (aG.cons (aD.fact 5 Z) (aG.cons (aD.fact 6 Z) (aG.cons (jD (aD.fact 2 Z) tJ d.1 d.2) .nil))))))))) Z λv=>jQ Z<|aB Z<|aL<|aQ ?_;cases h;exact fW Z
def pC  (a:Unit):Option (Int):=
 some (-1:Int)
def lH (U:Nat) (a:JU) (d:bO) (e:Int) (b:Int) (c:(Int)->Option (Int)):Option (Int):=
 if b<(a.1.2.2.length:Int)then(Option.bind (lJ U ((((a.2.1.1.1,a.2.1.1.2.1,a.2.1.1.2.2)),((a.2.1.2.1.1,a.2.1.2.1.2)),a.2.1.2.2.1,a.2.1.2.2.2)) d e b) λf=>(if f=true then(some (b))else(c (wI .i64 (b+(1:Int))))))else(pC  (()))
def fS (U:Nat) (a:JU) (b:bO) (c:Int):Option (Int):=
 bK (lH U a b c) U (0:Int)
theorem UN:aV Tryz.prog 141:=Tryz.call141
theorem BL (U:Nat) {a:JU} {n:bO} {m:Int} (d:Nat)  (z:Value)  (A:Value)  (e:Nat)  (o:Value)  (p:Value)  (q:Value)  (s:Value)  (B:iX)  (t:Value)  (g:lU)  (f:Value)  (v:iX)  (b:Value)  (i:lU) (r:Int) (h:fS U a n m=some r):
  aW Tryz.prog 141 #[vP d,b,vI (m)] [cJ d [vS (a.1.1),z,A,vP e,f] 183,Sl aP z a.1.2.1,Sl aJ A a.1.2.2,cJ e [vS (a.2.1.1.1),o,p,q,s,vI (a.2.1.2.2.1),t] 224,Sl aP o a.2.1.1.2.1,Sl aJ p a.2.1.1.2.2,Sl bX q a.2.1.2.1.1,S2 bD s B a.2.1.2.1.2,S2 bX t g a.2.1.2.2.2,S2 bD f v a.2.2,S2 bX b i n] (λx:Unit=>vI (r)) (λx l=>l) (λ_ l=>l):=by
 refine aW.of Tryz.func141 Z Tryz.ntmps141 Z λc=>?_;unfold fS at h;refine aR<|aB Z<|aL<|aK<|dK (λj=>pC  j=some r) (λj w=>[]) (λj w=>[]) ?_ ?_
 ·refine aR<|aA Z<|aC (dB Z) Z<|bN Z<|bN Z<|aC (fJ Z (aD.fact 0 Z) Z Z Z) Z<|iF (aD.fact 2 Z) Z<|aA Z<|aL<|aS<|eB (lH U a n m) (λk y=>[(0,vP d),(1,b),(2,vI (m)),(13,vI (a.1.2.2.length:Int)),(14,vI (k))]) (λk y=>[]) (0:Int) () h SF (bA.refl _) ?_;intro E k y h;refine aR<|cZ Z<|aL<|aK ?_;refine d_ h Z (λh=>?_) λh=>?_
  ·refine cE<|aK<|aS<|aR<|aA Z<|aB Z<|aL<|aR<|aA Z<|aC (dB Z) Z<|bN Z<|aC (fJ Z (aD.fact 0 Z) Z Z Z) Z<|aA Z<|aA Z<|aA Z<|dZ h λC u h=>aH (zBg abO (Fz U e o p q s B t g b i C u) Z (jP [3,4,5,6,7,8,10] Z)) Z λD=>aL ?_;refine tT h Z (λ_ h=>?_) λ_ h=>?_
   ·refine aR<|aA Z<|aB Z<|aL<|aQ<|bG<|aI<|aI<|bG<|aI ?_;cases h;exact fW Z
   refine dM<|jH<|aO<|cD Z<|aA Z<|aL ?_;exact tV (wI .i64 (k+(1:Int))) () h SF Z
  refine eS ?_;exact eW () (()) h SF Z
 intro j w h;unfold pC at h;refine aR<|aB Z<|aL<|aQ ?_;cases h;exact fW Z
def xS (d:Int) (a:eL) (b:Int) (c:Bool):Option (Int):=
 if c=true then(some (b))else(if d=(3:Int)then(some (-1:Int))else(if b<a.1 then(some (a.1))else(some (a.2))))
def zR (U:Nat) (c:Int) (a:eL) (b:Int):Option (Int):=
 if a.1<=b then(xS c a b (decide (b<=a.2)))else(xS c a b (false))
theorem abX:aV Tryz.prog 210:=Tryz.call210
theorem Mu (U:Nat) {e:Int} {a:eL} {d:Int} (r:Int) (h:zR U e a d=some r):
  aW Tryz.prog 210 #[vI (e),Value.agg #[vI (a.1),vI (a.2)],vI (d)] [] (λx:Unit=>vI (r)) (λx l=>l) (λ_ l=>l):=by
 refine aW.of Tryz.func210 Z Tryz.ntmps210 Z λc=>?_;refine aR<|aH (aN.box (cs:=[vI (a.1),vI (a.2)]) Z Z) Z λf=>aB Z<|aL<|aK<|aS<|aK<|dK (λb=>xS e a d b=some r) (λb g=>[(0,vI (e)),(2,vI (d)),(4,vP f),(7,vB (b))]) (λb g=>[cJ f [vI (a.1),vI (a.2)] 211]) ?_ ?_
 ·refine aO<|aA Z ?_;refine aC (lM (i:=0) Z Z Z Z Z (by decide)) Z ?_;refine dL 0 Z<|aC (wC Z Z) Z<|aA Z ?_;refine wN h Z (λ_ h=>?_) λ_ h=>?_
  ·refine bZ Z ?_;refine aM Z (lM (i:=1) Z Z Z Z Z (by decide)) Z ?_;refine aM Z (dN 0 Z Z Z Z Z) Z<|aM Z (uF Z Z) Z<|dA Z<|aB Z<|aL ?_;exact eW (decide (d<=a.2)) () h SF Z
  refine aE Z<|aE Z<|aE Z<|aE Z<|c_ Z<|aB Z<|aL ?_;exact eW (false) () h SF Z
 intro b g h;refine tT h Z (λ_ h=>?_) λ_ h=>?_
 ·refine aR<|aA Z<|aB Z<|aL<|aQ<|bG<|aI ?_;cases h;exact oA Z
 refine aR<|aA Z<|bS Z<|aB Z<|aL ?_;refine d_ h Z (λh=>?_) λh=>?_
 ·refine aR<|aB Z<|aL<|aQ<|bG<|aI ?_;cases h;exact oA Z
 refine aR<|aA Z ?_;refine aC (lM (i:=0) Z Z Z Z Z (by decide)) Z ?_;refine dL 0 Z<|cZ Z<|aB Z<|aL ?_;refine d_ h Z (λh=>?_) λh=>?_
 ·refine aR ?_;refine aC (lM (i:=0) Z Z Z Z Z (by decide)) Z ?_;refine dL 0 Z<|aB Z<|aL<|aQ<|bG<|aI ?_;cases h;exact oA Z
 refine dM<|jH<|aR ?_;refine aC (lM (i:=1) Z Z Z Z Z (by decide)) Z ?_;refine dL 0 Z<|aB Z<|aL<|aQ ?_;cases h;exact oA Z
def pB  (a:aX):Option aX:=
 some (a)
def lG (U:Nat) (b:JU) (h:bO) (d:Int) (c:Int) (a:qA) (e:wF->Option aX):Option aX:=
 if a.1<(((at' b.1.2.2 c).2.2.2).length:Int)then(ck (0<=a.1∧a.1<(((at' b.1.2.2 c).2.2.2).length:Int)) (Option.bind (hZ U ((((b.2.1.1.1,b.2.1.1.2.1,b.2.1.1.2.2)),((b.2.1.2.1.1,b.2.1.2.1.2)),b.2.1.2.2.1,b.2.1.2.2.2)) h d ((at' ((at' b.1.2.2 c).2.2.2) a.1).2.2)) λf=>(ck (0<=((at' ((at' b.1.2.2 c).2.2.2) a.1).1)∧((at' ((at' b.1.2.2 c).2.2.2) a.1).1)<(b.1.2.1.length:Int)) (ck (0<=d∧d<(b.2.2.length:Int)) (ck (0<=((at' ((at' b.1.2.2 c).2.2.2) a.1).1)∧((at' ((at' b.1.2.2 c).2.2.2) a.1).1)<((at' b.2.2 d).length:Int)) (Option.bind (zR U ((at' b.1.2.1 ((at' ((at' b.1.2.2 c).2.2.2) a.1).1)).2.1) ((((at' (at' b.2.2 d) ((at' ((at' b.1.2.2 c).2.2.2) a.1).1)).1),((at' (at' b.2.2 d) ((at' ((at' b.1.2.2 c).2.2.2) a.1).1)).2))) f) λg=>(ck (0<=((at' ((at' b.1.2.2 c).2.2.2) a.1).1)∧((at' ((at' b.1.2.2 c).2.2.2) a.1).1)<(a.2.length:Int)) (e ((wI .i64 (a.1+(1:Int))),(List.set a.2 (Int.toNat ((at' ((at' b.1.2.2 c).2.2.2) a.1).1)) g))))))))))else(pB  (a.2))
def mJ (U:Nat) (d:JU) (b:bO) (a:Int) (c:Int):Option aX:=
 ck (0<=a∧a<(b.length:Int)) (ck ((List.length ([]:aX):Int)+((at' b a).length:Int)<=1099511627) (ck (0<=c∧c<(d.1.2.2.length:Int)) (bK (lG U d b a c) U ((0:Int),(([]:aX)++(at' b a))))))
theorem abL:aV Tryz.prog 174:=Tryz.call174
theorem Gh (U:Nat) {b:JU} {C:bO} {m:Int} {f:Int} (j:Nat)  (O:Value)  (P:Value)  (k:Nat)  (E:Value)  (F:Value)  (G:Value)  (H:Value)  (Q:iX)  (I:Value)  (y:lU)  (w:Value)  (M:iX)  (i:Value)  (A:lU) (r:aX) (h:mJ U b C m f=some r):
  aW Tryz.prog 174 #[vP j,i,vI (m),vI (f)] [cJ j [vS (b.1.1),O,P,vP k,w] 183,Sl aP O b.1.2.1,Sl aJ P b.1.2.2,cJ k [vS (b.2.1.1.1),E,F,G,H,vI (b.2.1.2.2.1),I] 224,Sl aP E b.2.1.1.2.1,Sl aJ F b.2.1.1.2.2,Sl bX G b.2.1.2.1.1,S2 bD H Q b.2.1.2.1.2,S2 bX I y b.2.1.2.2.2,S2 bD w M b.2.2,S2 bX i A C] (λx:Value=>x) (λx l=>Ar cS x r::l) (λ_ l=>l):=by
 refine aW.of Tryz.func174 Z Tryz.ntmps174 Z λc=>?_;refine aR<|aB Z<|aL<|aR<|aA Z<|aA Z<|dW h λB h=>aC (cY Z Z (aD.fact 10 Z) Z Z B) Z<|aC (cL Z (aD.fact 10 Z) Z Z B) Z<|gF (cK cS)<|dW h λS h=>aH (bH 0 dD Z Z Z (zBi (aD.fact 10 Z) B.1 B.2) Z Z Z Z S Z) Z λv=>aB Z<|aL<|aK<|dK (λo=>pB  o=some r) (λo N=>[(9,v)]) (λo N=>[Ar cS v o]) ?_ ?_
 ·refine aR<|aA Z<|aC (dB Z) Z<|bN Z<|bN Z<|aC (fJ Z (aD.fact 0 Z) Z Z Z) Z<|aA Z<|dW h λg h=>aC (a_ Z Z (aD.fact 2 Z) Z Z g) Z<|aC (dX Z Z Z Z Z) Z<|aC (e_ Z (aD.fact 2 Z) Z Z Z tI g) Z<|aC (fX Z (jD (aD.fact 2 Z) cH g.1 g.2) Z) Z<|aA Z<|aL<|aS<|eB (lG U b C m f) (λa p=>[(0,vP j),(1,i),(2,vI (m)),(9,v),(26,(at' b.1.2.2 f).2.2.1),(27,vI (((at' b.1.2.2 f).2.2.2).length:Int)),(28,vI (a.1))]) (λa p=>[Ar cS v a.2]) ((0:Int),(([]:aX)++(at' C m))) () h SF (bA.refl _) ?_;intro T a p h;refine aR<|cZ Z<|aL<|aK ?_;refine d_ h Z (λh=>?_) λh=>?_
  ·refine cE<|aK<|aS<|aR<|dW h λd h=>aC (a_ Z Z (jD (aD.fact 2 Z) cH g.1 g.2) Z Z d) Z<|aC (Tn (cs:=[vI ((at' ((at' b.1.2.2 f).2.2.2) a.1).1),(at' ((at' b.1.2.2 f).2.2.2) a.1).2.1]) Z (jD (aD.fact 2 Z) cH g.1 g.2) MZ Z Z Z Z d) Z<|aH (aN.alloc (cs:=[vI (0:Int),lL]) Z Z) Z λR=>bE (Know.one ((jD (jD (aD.fact 2 Z) cH g.1 g.2) BP d.1 d.2))) λq=>bF 0 (vs:=[vI ((at' ((at' b.1.2.2 f).2.2.2) a.1).1),(at' ((at' b.1.2.2 f).2.2.2) a.1).2.1]) Z Z (bR Z (bR q Z)) Z Z Z<|aL<|aK ?_;refine JR.start [0,1,3,7,0,0,0,64,255,511] 8 mixedOrders (by decide +kernel) ?_;refine zBj (by exact rfl) ?_;refine aY Z<|iY Z (dB Z)<|cB Z<|bM Z .nil (kH 0 Z) (fJ Z (aD.fact 0 Z) Z Z Z) aU.z<|aY Z<|aY Z<|cB Z<|fD 0 Z<|bP 8 Z Z<|dZ h λD J h=>aH (zBg US (AG U k E F G H Q I y i A ((at' ((at' b.1.2.2 f).2.2.2) a.1).2.1) D J) Z (aG.cons (aD.fact 3 Z) (aG.cons (aD.fact 4 Z) (aG.cons (aD.fact 5 Z) (aG.cons (aD.fact 6 Z) (aG.cons (aD.fact 7 Z) (aG.cons (aD.fact 8 Z) (aG.cons (aD.fact 10 Z) (aG.cons (jD (jD (aD.fact 2 Z) cH g.1 g.2) BP d.1 d.2) .nil))))))))) Z λV=>aB Z<|aL ?_;refine JR.start [0,0,2,0,8,24,56,120,0,256,1016,2040,4088,0,8192,24576,57344,0,253952,516096,0,1048576,4186112,8380416,0,33554424,67108863,134217727] 26 mixedOrders (by decide +kernel) ?_;refine zBj (by exact rfl) ?_;refine aY Z<|cB Z<|fD 0 Z<|aY Z<|iY Z (dB Z)<|cB Z<|cB Z<|bM Z .nil (kH 0 Z) (fJ Z (aD.fact 0 Z) Z Z Z) aU.z<|cB Z<|fD 0 Z<|dW h λs h=>bM Z .nil (kH 1 Z) (a_ Z Z (aD.fact 0 Z) Z Z s) aU.z<|iY Z (dX Z Z Z Z Z)<|bM Z .nil (kH 1 Z) (e_ Z (aD.fact 0 Z) Z Z Z lC s) aU.z<|aY Z<|iY Z (dB Z)<|cB Z<|bM Z .nil (kH 0 Z) (fJ Z (aD.fact 0 Z) Z Z Z) aU.z<|aY Z<|dW h λe h=>bM Z .nil (kH 9 Z) (cY Z Z (aD.fact 0 Z) Z Z e) aU.z<|bM Z .nil (kH 9 Z) (cL Z (aD.fact 0 Z) Z Z e) aU.z<|cB Z<|fD 0 Z<|dW h λt h=>bM Z .nil (kH 9 Z) (a_ Z Z (zBi (aD.fact 0 Z) e.1 e.2) Z Z t) aU.z<|bM Z .nil (kH 9 Z) (jT (cs:=[vI ((at' (at' b.2.2 m) ((at' ((at' b.1.2.2 f).2.2.2) a.1).1)).1),vI ((at' (at' b.2.2 m) ((at' ((at' b.1.2.2 f).2.2.2) a.1).1)).2)]) Z (zBi (aD.fact 0 Z) e.1 e.2) cG Z Z Z Z t) aU.z<|aY Z<|dZ h λn K h=>zBh Z Z Z (zBg abX (Mu U  n K) Z .nil) Z (λL=>(kG [([0],[])] Z)) λL=>bP 26 Z Z<|dW h λu h=>aC (a_ Z Z (aT (aD.res 1 Z) dD) Z Z u) Z<|zF 1 n u Z Z Z Z Z Z Z<|eN<|jH<|aO<|cD Z<|aA Z<|aL ?_;exact nC ((wI .i64 (a.1+(1:Int))),(List.set a.2 (Int.toNat ((at' ((at' b.1.2.2 f).2.2.2) a.1).1)) n)) () h SF (bA.ix [1] Z Z) (aG.refl _ _)
  refine eS ?_;exact eW (a.2) () h SF Z
 intro o N h;unfold pB at h;refine aR<|aA Z<|aB Z<|aL<|aQ ?_;cases h;exact gE (v) Z Z (RV.tmp Z) (bA.refl _) aG.nil
def pD  (a:bO):Option bO:=
 some (a)
def lI (b:Int×bO) (a:(Int×bO)->Option bO) (c:bO):Option bO:=
 a ((wI .i64 (b.1+(1:Int))),c)
def jE (U:Nat) (b:JU) (d:bO) (g:Int) (a:Int×bO) (c:(Int×bO)->Option bO):Option bO:=
 if a.1<(d.length:Int)then(ck (0<=a.1) (if(eG .u32 (mZ .u32 g a.1) (1:Int))=(1:Int)then(Option.bind (fS U ((((b.1.1,b.1.2.1,b.1.2.2)),((((b.2.1.1.1,b.2.1.1.2.1,b.2.1.1.2.2)),((b.2.1.2.1.1,b.2.1.2.1.2)),b.2.1.2.2.1,b.2.1.2.2.2)),b.2.2)) d a.1) λe=>(Option.bind (mJ U ((((b.1.1,b.1.2.1,b.1.2.2)),((((b.2.1.1.1,b.2.1.1.2.1,b.2.1.1.2.2)),((b.2.1.2.1.1,b.2.1.2.1.2)),b.2.1.2.2.1,b.2.1.2.2.2)),b.2.2)) d a.1 e) λf=>(ck (0<=a.1∧a.1<(a.2.length:Int)) (lI a c (List.set a.2 (Int.toNat a.1) f)))))else(lI a c (a.2))))else(pD  (a.2))
def j_ (U:Nat) (b:JU) (a:bO) (c:Int):Option bO:=
 Option.bind (wW U a) λd=>(bK (jE U b a c) U ((0:Int),d))
theorem abz:aV Tryz.prog 134:=Tryz.call134
theorem Gi (U:Nat) {e:JU} {v:bO} {w:Int} (g:Nat)  (D:Value)  (E:Value)  (o:Nat)  (F:Value)  (G:Value)  (H:Value)  (I:Value)  (Q:iX)  (J:Value)  (t:lU)  (p:Value)  (u:iX)  (d:Value)  (q:lU) (r:bO) (h:j_ U e v w=some r):
  aW Tryz.prog 134 #[vP g,d,vU (w)] [cJ g [vS (e.1.1),D,E,vP o,p] 183,Sl aP D e.1.2.1,Sl aJ E e.1.2.2,cJ o [vS (e.2.1.1.1),F,G,H,I,vI (e.2.1.2.2.1),J] 224,Sl aP F e.2.1.1.2.1,Sl aJ G e.2.1.1.2.2,Sl bX H e.2.1.2.1.1,S2 bD I Q e.2.1.2.1.2,S2 bX J t e.2.1.2.2.2,S2 bD p u e.2.2,S2 bX d q v] (λx:Fu=>x.1) (λx l=>Ar fE.raw x.1 x.2::k_ cS x.2 r::l) (λ_ l=>l):=by
 refine aW.of Tryz.func134 Z Tryz.ntmps134 Z λc=>?_;refine aR<|aB Z<|aL<|aR<|aA Z<|dZ h λR S h=>aH (zBg UL (Hx U d q R S) Z (jP [10] Z)) Z λs=>aB Z<|aL<|aK<|CM (B:=gV) (λy=>pD  y=some r) (λy z=>[(7,s.1)]) (λy z=>[Ar fE.raw s.1 z,k_ cS z y]) ?_ ?_
 ·refine aR<|aA Z<|aC (gM Z (aD.fact 10 Z) Z) Z<|aA Z<|aL<|aS<|eB (B:=gV) (jE U e v w) (λa b=>[(0,vP g),(1,d),(2,vU (w)),(7,s.1),(12,vI (v.length:Int)),(13,vI (a.1))]) (λa b=>[Ar fE.raw s.1 b,k_ cS b a.2]) ((0:Int),R) (s.2) h SF (bA.refl _) ?_;intro L a b h;refine aR<|cZ Z<|aL<|aK ?_;refine d_ h Z (λh=>?_) λh=>?_
  ·refine cE<|aK<|CM (B:=gV) (λf=>lI a (bK (jE U e v w) L) f=some r) (λf m=>[(0,vP g),(1,d),(2,vU (w)),(7,s.1),(12,vI (v.length:Int)),(13,vI (a.1))]) (λf m=>[Ar fE.raw s.1 m,k_ cS m f]) ?_ ?_
   ·refine aS<|aR<|aA Z<|aB Z<|aL<|aR<|aA Z<|aA Z<|dW h λK h=>aC (Iq Z Z K) Z<|wE Z<|bS Z<|aL ?_;refine d_ h Z (λh=>?_) λh=>?_
    ·refine aO<|aA Z<|aA Z<|aA Z<|aA Z<|aA Z<|aA Z<|aA Z<|aA Z<|dZ h λM N h=>aH (zBg UN (BL U g D E o F G H I Q J t p u d q M N) Z (jP [0,1,2,3,4,5,6,7,8,9,10] Z)) Z λT=>dZ h λC O h=>aH (zBg abL (Gh U g D E o F G H I Q J t p u d q C O) Z (jP [0,1,2,3,4,5,6,7,8,9,10] Z)) Z λP=>dW h λn h=>aC (cY Z Z (bB (i:=1) (j:=2) Z Z dD) Z Z n) Z<|bE (Know.one ((aT (aD.res 0 Z) dD))) λA=>gF (yQ (k:=a.1) 2 0 Z Z Z n) ?_;refine qD 0 1 ⟨n.1,by first|exact n.2|simpa using n.2⟩ Z Z Z Z Z (by simp) A Z ?_;refine eN<|jH ?_;exact eW (List.set a.2 (Int.toNat a.1) C) (List.set b (Int.toNat a.1) P) h SF Z
    refine dM<|jH ?_;exact eW (a.2) (b) h SF Z
   intro f m h;unfold lI at h;refine aO<|cD Z<|aA Z<|aL ?_;exact tV ((wI .i64 (a.1+(1:Int))),f) (m) h SF Z
  refine eS ?_;exact eW (a.2) (b) h SF Z
 intro y z h;unfold pD at h;refine aR<|aA Z<|aB Z<|aL<|aQ ?_;cases h;exact gE (s.1,z) Z Z (RV.tmp Z) (bA.refl _) aG.nil
def Bw  (a:Int):Option (Int):=
 some (a)
def xP (c:eL) (b:gC->Option (Int)) (a:Int):Option (Int):=
 b (a,(wI .i64 (c.2+(1:Int))))
def tD (e:Int) (d:Int->Option Bool) (a:eL) (b:gC->Option (Int)):Option (Int):=
 if a.2<e then(Option.bind (d a.2) λc=>(if c=true then(ck (0<=a.2) (xP a b (Fx .u32 a.1 (zE .u32 (1:Int) a.2))))else(xP a b (a.1))))else(Bw  (a.1))
def Cm (U:Nat) (b:Int) (a:Int->Option Bool):Option (Int):=
 bK (tD b a) U ((0:Int),(0:Int))
theorem abB:aV Tryz.prog 139:=Tryz.call139
theorem Ql (U:Nat) {j:Int} {n:Int->Option Bool} (m:FuncId) (d:gV) (k:List bI) (f:aV Tryz.prog m) (g:∀(u:Int) (r:Bool),n u=some r->aW Tryz.prog m ([vI (u)]++d).toArray k (λ_:Unit=>vB (r)) (λ_ l=>l) (λ_ l=>l)) (r:Int) (h:Cm U j n=some r):
  aW Tryz.prog 139 #[vI (j),Value.func (.func m) #[] (d).toArray] ([]++k) (λx:Unit=>vU (r)) (λx l=>l) (λ_ l=>l):=by
 refine aW.of Tryz.func139 Z Tryz.ntmps139 Z λc=>?_;unfold Cm at h;refine aR<|aB Z<|aL<|aR<|aB Z<|aL<|aK<|FE (B:=Unit) (λi=>Bw  i=some r) (λi o=>[(5,vU (i))]) (λi o=>[]) (λi o=>([]++k)) ?_ ?_
 ·refine aR<|aA Z<|aA Z<|aL<|aS<|KD (B:=Unit) (tD j n) (λb p=>[(1,Value.func (.func m) #[] (d).toArray),(5,vU (b.1)),(7,vI (j)),(8,vI (b.2))]) (λb p=>[]) (λb p=>([]++k)) ((0:Int),(0:Int)) () h SF (bA.refl _) (aG.refl _ _) ?_;intro v b p h;refine aR<|cZ Z<|aL<|aK ?_;refine d_ h Z (λh=>?_) λh=>?_
  ·refine cE<|aK<|FE (B:=Unit) (λa=>xP b (bK (tD j n) v) a=some r) (λa e=>[(1,Value.func (.func m) #[] (d).toArray),(5,vU (a)),(7,vI (j)),(8,vI (b.2))]) (λa e=>[]) (λa e=>([]++k)) ?_ ?_
   ·refine aS<|aR<|aA Z<|aB Z<|aL<|aR<|aA Z<|aA Z<|dZ h λs t h=>aH (uA (vs:=[vI (b.2)]) (cs:=d) f Z (g b.2 s t) Z (aG.tail _) (λ_ _=>rfl)) Z λw=>aL ?_;refine tT h Z (λ_ h=>?_) λ_ h=>?_
    ·refine aO<|aA Z<|aA Z<|dW h λq h=>aC (FL Z Z q) Z<|aC (Kr Z Z) Z<|aB Z<|eN<|jH ?_;exact eW (Fx .u32 b.1 (zE .u32 (1:Int) b.2)) () h SF Z
    refine dM<|jH ?_;exact eW (b.1) () h SF Z
   intro a e h;unfold xP at h;refine aO<|cD Z<|aA Z<|aL ?_;exact tV (a,(wI .i64 (b.2+(1:Int)))) () h SF Z
  refine eS ?_;exact eW (b.1) () h SF Z
 intro i o h;unfold Bw at h;refine aR<|aA Z<|aB Z<|aL<|aQ ?_;cases h;exact fW Z
def lB (U:Nat) (b:Int) (a:JU) (c:bO):Option Bool:=
 Option.bind (fS U ((((a.1.1,a.1.2.1,a.1.2.2)),((((a.2.1.1.1,a.2.1.1.2.1,a.2.1.1.2.2)),((a.2.1.2.1.1,a.2.1.2.1.2)),a.2.1.2.2.1,a.2.1.2.2.2)),a.2.2)) c b) λd=>(some (decide ((0:Int)<=d)))
theorem abC:aV Tryz.prog 140:=Tryz.call140
theorem Da (U:Nat) {v:Int} {a:JU} {w:bO} (j:Nat)  (d:Nat)  (o:Value)  (p:Value)  (e:Nat)  (q:Value)  (s:Value)  (t:Value)  (u:Value)  (y:iX)  (f:Value)  (k:lU)  (g:Value)  (m:iX)  (b:Nat)  (i:Value)  (n:lU) (r:Bool) (h:lB U v a w=some r):
  aW Tryz.prog 140 #[vI (v),vP j,vP b] [cJ j [vP d] 89,cJ d [vS (a.1.1),o,p,vP e,g] 183,Sl aP o a.1.2.1,Sl aJ p a.1.2.2,cJ e [vS (a.2.1.1.1),q,s,t,u,vI (a.2.1.2.2.1),f] 224,Sl aP q a.2.1.1.2.1,Sl aJ s a.2.1.1.2.2,Sl bX t a.2.1.2.1.1,S2 bD u y a.2.1.2.1.2,S2 bX f k a.2.1.2.2.2,S2 bD g m a.2.2,cJ b [i] 38,S2 bX i n w] (λx:Unit=>vB (r)) (λx l=>l) (λ_ l=>l):=by
 refine aW.of Tryz.func140 Z Tryz.ntmps140 Z λc=>?_;refine aR<|aB Z<|aL<|aR<|aC (fJ Z (aD.fact 0 Z) Z Z Z) Z<|aC (fJ Z (aD.fact 11 Z) Z Z Z) Z<|aA Z<|dZ h λz A h=>aH (zBg UN (BL U d o p e q s t u y f k g m i n z A) Z (jP [1,2,3,4,5,6,7,8,9,10,12] Z)) Z λB=>aC (wC Z Z) Z<|aB Z<|aL<|aQ ?_;cases h;exact fW Z
def fM (U:Nat) (a:JU) (b:bO):Option (Int):=
 Option.bind (Cm U (a.2.2.length:Int) (λd=>lB U d ((((a.1.1,a.1.2.1,a.1.2.2)),((((a.2.1.1.1,a.2.1.1.2.1,a.2.1.1.2.2)),((a.2.1.2.1.1,a.2.1.2.1.2)),a.2.1.2.2.1,a.2.1.2.2.2)),a.2.2)) b)) λc=>(some (c))
theorem YC:aV Tryz.prog 98:=Tryz.call98
theorem y_ (U:Nat) {a:JU} {w:bO} (b:Nat)  (k:Value)  (m:Value)  (e:Nat)  (n:Value)  (o:Value)  (p:Value)  (q:Value)  (y:iX)  (s:Value)  (g:lU)  (f:Value)  (i:iX)  (d:Value)  (j:lU) (r:Int) (h:fM U a w=some r):
  aW Tryz.prog 98 #[vP b,d] [cJ b [vS (a.1.1),k,m,vP e,f] 183,Sl aP k a.1.2.1,Sl aJ m a.1.2.2,cJ e [vS (a.2.1.1.1),n,o,p,q,vI (a.2.1.2.2.1),s] 224,Sl aP n a.2.1.1.2.1,Sl aJ o a.2.1.1.2.2,Sl bX p a.2.1.2.1.1,S2 bD q y a.2.1.2.1.2,S2 bX s g a.2.1.2.2.2,S2 bD f i a.2.2,S2 bX d j w] (λx:Unit=>vU (r)) (λx l=>l) (λ_ l=>l):=by
 refine aW.of Tryz.func98 Z Tryz.ntmps98 Z λc=>?_;refine aR<|aH (aN.box (cs:=[vP b]) Z Z) Z λt=>bE (Know.one (aD.sl (aD.fact 10 Z))) λv=>?_;refine aH (aN.box (cs:=[d]) Z (by rw[cI v])) Z λu=>?_;refine aB Z<|aL<|aR<|dL 1 Z<|aC (dB Z) Z<|bN Z<|aC (fJ Z (aD.fact 0 Z) Z Z Z) Z<|aC (gM Z (aD.fact 9 Z) Z) Z<|aC (EE (cs:=[.tmp 2,.tmp 3]) (vs:=[vP t,vP u]) Z) Z<|dZ h λz A h=>aH (zBg abB (Ql U 140 [vP t,vP u] [cJ t [vP b] 89,cJ b [vS (a.1.1),k,m,vP e,f] 183,Sl aP k a.1.2.1,Sl aJ m a.1.2.2,cJ e [vS (a.2.1.1.1),n,o,p,q,vI (a.2.1.2.2.1),s] 224,Sl aP n a.2.1.1.2.1,Sl aJ o a.2.1.1.2.2,Sl bX p a.2.1.2.1.1,S2 bD q y a.2.1.2.1.2,S2 bX s g a.2.1.2.2.2,S2 bD f i a.2.2,cJ u [d] 38,S2 bX d j w] abC (λC r h=>Da U t b k m e n o p q y s g f i u d j r h) z A) Z (aG.cons (aD.res 1 Z) (aG.cons (aD.fact 0 Z) (aG.cons (aD.fact 1 Z) (aG.cons (aD.fact 2 Z) (aG.cons (aD.fact 3 Z) (aG.cons (aD.fact 4 Z) (aG.cons (aD.fact 5 Z) (aG.cons (aD.fact 6 Z) (aG.cons (aD.fact 7 Z) (aG.cons (aD.fact 8 Z) (aG.cons (aD.fact 9 Z) (aG.cons (aD.res 0 Z) (jP [10] Z)))))))))))))) Z λB=>aB Z<|aL<|aQ ?_;cases h;exact oA Z
end Go.Proofs.YtahgemjmgopleaaGreatDoor
namespace Go.Proofs.YtahgemjmgopleaaGreatDoor
open Go Go.Sx
abbrev RL:=E×List (Nat×E)
abbrev DY:=Dr×GR×Int×bO
def EI (R:List RL):MR:=R.map λr=>(r.1.ts,r.2.map λs=>((s.1:Int),s.2.ts))
def NY (a:Nat) (e:E):Bool:=e.wf a false&&decide (e.depth<=100)&&decide (e.ts.length<=800)
def qI (a:Nat) (R:List RL):Bool:=decide (R.length<=20)&&R.all λr=>NY a r.1&&decide (r.2.length<=20)&&r.2.all λs=>decide (s.1<a)&&NY a s.2
instance:Inhabited E:=⟨.lf 1 0⟩
def UG (g:GR) (v i:Nat):Int:=DG (row g (jL (row g v) i).1.toNat) (v:Int)
def gQ (g:GR):bO:=(List.range g.2.length).map λv=>(List.range (row g v).length).map (UG g v)
def Ec (S:DY) (c:bO) (v:Nat) (e:E):Int:=e.den (lfD (S,c,(v:Int),[])) (row S.2.1 v).length (-1)
def yY (S:DY) (R:List RL) (c:bO) (v:Nat):Int:=CC (R.map λr=>Ec S c v r.1)
def FN (a:Int) (b:eL) (x:Int):Int:=if b.1<=x∧x<=b.2 then x else if a=3 then -1 else if x<b.1 then b.1 else b.2
def Hg (S:DY) (a:List Jh) (c:bO) (v:Nat) (b:aX) (s:Nat×E):aX:=b.set s.1 (FN (at' a (s.1:Int)).2.1 (zI S.2.1 a v s.1) (Ec S c v s.2))
def Dl (S:DY) (a:List Jh) (R:List RL) (c:bO) (v:Nat) (i:Int):aX:=(at' R i).2.foldl (Hg S a c v) (at' c (v:Int))
def Xw (S:DY) (R:List RL) (c:bO):Nat:=mM (λv=>decide (0<=yY S R c v)) S.2.1.2.length
def kY (S:DY) (a:List Jh) (R:List RL) (c:bO) (t:Nat):bO:=(List.range c.length).map λv=>if t.testBit v=true then Dl S a R c v (yY S R c v)else at' c (v:Int)
structure uB (g:GR) (nv:Nat) (c:bO):Prop where
 len:c.length=g.2.length
 row:∀v:Nat,v<g.2.length->(at' c (v:Int)).length=nv
theorem Jo.shape {g:GR} {c:bO} {a:List Jh} (h:Jo g c a):uB g a.length c:=⟨h.len,h.row⟩
section
variable {S:DY} {nv:Nat} {c:List (List Int)} {v:Nat}
theorem wok (b:S.2.2.2=gQ S.2.1) (d:VG S.2.1) (e:uB S.2.1 nv c) (h:v<S.2.1.2.length) (j:List (Int×Int)):WOk (S,c,(v:Int),j) nv S.2.1.2.length v:=by
 refine⟨rfl,h,rfl,d.len,e.len,e.row,λu a i g=> ?_,by show S.2.2.2.length=_;rw[b];simp[gQ],λu a=>by
  show(at' S.2.2.2 (u:Int)).length=_;rw[b,gQ,El _ a,List.length_map,List.length_range]⟩
 obtain⟨w,k,f⟩:=d.to a g;show 0<=(jL (row S.2.1 u) i).1∧(jL (row S.2.1 u) i).1<_;rw[f];omega
theorem SE (i:S.2.2.2=gQ S.2.1) (a:VG S.2.1) (j:uB S.2.1 nv c) (f:v<S.2.1.2.length) {e:E} (b:NY nv e=true):hZ 1000 S c (v:Int) e.ts=some (Ec S c v e):=by
 simp only[NY,zA1,zA8]at b;have g:=a.n24;have d:=(a.node v f).deg;unfold hZ;have:=aaL (wok i a j f e.ts) (deg:=(row S.2.1 v).length) Z (by omega) b.2 e false 1000 0 (-1) [] [] (by simp) Z b.1.1 (λh=>by cases h) (by omega);rw[aZ (show cF 1000 _ (0:Int) (-1)=_ from this)];rfl
end
section
variable {p:Dr} {g:GR} {gr:Int} {R:List RL} {nv:Nat} {c:List (List Int)} {v:Nat}
theorem Ek (a:p.2.2.map wK=EI R):p.2.2.length=R.length:=by simpa [EI]using congrArg List.length a
theorem KX (b:p.2.2.map wK=EI R) {i:Nat} (a:i<R.length):wK (at' p.2.2 (i:Int))=((at' R (i:Int)).1.ts,(at' R (i:Int)).2.map λs=>((s.1:Int),s.2.ts)):=by
 have d:=Ek b;have:=congrArg (λq=>q[i]?) b;simp only[EI,List.getElem?_map,zA0 a,zA0 (show i<p.2.2.length by omega),Option.map_some,Option.some.injEq]at this;rw[gN a,gN (show i<p.2.2.length by omega)];exact this
theorem PP (a:qI nv R=true) {i:Nat} (b:i<R.length):NY nv (at' R (i:Int)).1=true∧(at' R (i:Int)).2.length<=20∧∀s∈(at' R (i:Int)).2,s.1<nv∧NY nv s.2=true:=by
 simp only[qI,zA1,zA4,zA8]at a;have:=a.2 (at' R (i:Int)) (by rw[gN b];exact zB7 b);exact⟨this.1.1,this.1.2,λs d=>this.2 s d⟩
theorem VD (a:qI nv R=true):R.length<=20:=by
 simp only[qI,zA1,zA8]at a;exact a.1
theorem Zp (f:VG g) (h:uB g nv c) (j:v<g.2.length) (b:p.2.2.map wK=EI R) (d:qI nv R=true) {i:Nat} (a:i<R.length):lJ 1000 (p,g,gr,gQ g) c (v:Int) (i:Int)=some (nz (Ec (p,g,gr,gQ g) c v (at' R (i:Int)).1)):=by
 have k:=Ek b;have e:(at' p.2.2 (i:Int)).2.1.2=(at' R (i:Int)).1.ts:=congrArg Prod.fst (KX b a);unfold lJ;dsimp only;rw[cO (by omega),e];rw[aZ (show hZ 1000 _ c (v:Int) _=_ from SE (S:=(p,g,gr,gQ g)) Z f h j (PP d a).1)];rfl
theorem VC (z:VG g) (A:uB g nv c) (C:v<g.2.length) (w:p.2.2.map wK=EI R) (s:qI nv R=true) (h:List (List (Int×Int))):fS 1000 (p,(p,g,gr,gQ g),h) c (v:Int)=some (yY (p,g,gr,gQ g) R c v):=by
 have E:=Ek w;have y:=VD s;let l:=R.map λr=>Ec (p,g,gr,gQ g) c v r.1;have B:l.length=R.length:=by simp[l]
 have o:∀i,i<R.length->at' l (i:Int)=Ec (p,g,gr,gQ g) c v (at' R (i:Int)).1:=λi t=>by
  rw[gN (by omega),gN t];simp[l]
 have b:∀(k:Nat) a,k<R.length->lH 1000 (p,(p,g,gr,gQ g),h) c (v:Int) (k:Int) a=if nz (at' l (k:Int))=true then some (k:Int)else a (((k+1:Nat):Int)):=by
  intro k a d;unfold lH;dsimp only;rw[if_pos (by omega),aZ (show lJ 1000 _ c (v:Int) (k:Int)=_ from Zp z A C w s d),o k d,dH (by omega)]
 unfold fS yY;by_cases f:∃i,i<R.length∧at' l (i:Int)≠0
 ·obtain⟨i,t,x⟩:=f;obtain⟨m,D,q,n⟩:=Of (p:=λi=>at' l (i:Int)≠0) i x;have n:∀j,j<m->at' l (j:Int)=0:=λj u=>zAy.1 (n j u);rw[show CC _=(m:Int)from Di (l:=l) (by omega) q n];exact cR (K:=some (m:Int)) m (λk=>(k:Int)) (λk a d=>by rw[b k a (by omega),if_neg (by simp[nz,n k d])]) (λa=>by rw[b m a (by omega),if_pos (by simpa [nz]using q)]) 1000 (by omega)
 ·have f:∀j,j<l.length->at' l (j:Int)=0:=λj u=>zAy.1 λe=>f ⟨j,by omega,e⟩;rw[show CC _=(-1:Int)from Dh (l:=l) f];exact cR (K:=some (-1)) R.length (λk=>(k:Int)) (λk a d=>by rw[b k a d,if_neg (by simp[nz,f k (by omega)])]) (λa=>by
   unfold lH pC;dsimp only;rw[if_neg (by omega)]) 1000 (by omega)
theorem R_ (S:DY) (R:List RL) (c:List (List Int)) (v:Nat):yY S R c v = -1∨∃i:Nat,yY S R c v=(i:Int)∧i<R.length∧Ec S c v (at' R (i:Int)).1≠0:=by
 let l:=R.map λr=>Ec S c v r.1;by_cases h:∃i,i<l.length∧at' l (i:Int)≠0
 ·obtain⟨i,n,k⟩:=h;obtain⟨m,o,f,a⟩:=Of (p:=λi=>at' l (i:Int)≠0) i k;have a:∀j,j<m->at' l (j:Int)=0:=λj b=>zAy.1 (a j b);have d:m<R.length:=by simp[l]at n;omega
  refine .inr ⟨m,Di (l:=l) (by omega) f a,d,?_⟩;have:at' l (m:Int)=Ec S c v (at' R (m:Int)).1:=by rw[gN (by simpa [l]using d),gN d];simp[l]
  rw[<-this];exact f
 ·exact .inl (Dh (l:=l) λj b=>zAy.1 λe=>h ⟨j,b,e⟩)
theorem TI (hV:VG g) (hc:uB g nv c) (hz:p.2.2.map wK=EI R) (hR:qI nv R=true) {tab:List (List (Int×Int))} (ht:tab.length=g.2.length):fM 1000 (p,(p,g,gr,gQ g),tab) c=some ((Xw (p,g,gr,gQ g) R c:Nat):Int):=by
 have h24:=hV.n24;unfold fM Cm;let q:Nat->Bool:=λv=>decide (0<=yY (p,g,gr,gQ g) R c v);have:=cR (step:=tD (tab.length:Int) (λy0=>lB 1000 y0 (p,(p,g,gr,gQ g),tab) c)) (K:=some ((mM q g.2.length:Nat):Int)) g.2.length (λk=>(((mM q k:Nat):Int),(k:Int))) (λk ag hk=>by
  have hm:=Dk q (k:=k) (by omega);unfold tD xP lB;dsimp only;rw[if_pos (by omega),aZ (show Option.bind (fS 1000 _ c (k:Int)) _=some (q k) by rw[aZ (show fS 1000 _ c (k:Int)=_ from VC hV hc hk hz hR tab)]),dH (by omega)];cases hq:q k with
  |true=>
   rw[if_pos Z,cO (by omega),EF hm (by omega)];simp only[mM,hq,if_true]
  |false=>
   rw[if_neg (by decide)];simp only[mM,hq];rfl) (λag=>by
  unfold tD Bw;dsimp only;rw[if_neg (by omega)]) 1000 (by omega)
 rw[aZ (show bK _ 1000 ((0:Int),(0:Int))=_ from this)];rfl
end
theorem YE (f:Nat) (k:Int) (b:eL) (x:Int):zR f k b x=some (FN k b x):=by
 unfold zR xS FN;by_cases a:b.1<=x
 ·by_cases c:x<=b.2
  ·simp only[a,c,and_self,if_true,decide_true]
  ·simp only[a,c,and_false,if_true,if_false,decide_false,Bool.false_eq_true];split
   ·rfl
   ·split<;>rfl
 ·simp only[a,false_and,if_false,Bool.false_eq_true];split
  ·rfl
  ·split<;>rfl
theorem Mm {S:DY} {a:List Jh} {c:bO} {v:Nat} (l:List (Nat×E)) (b:aX):(l.foldl (Hg S a c v) b).length=b.length:=by
 induction l generalizing b with
 |nil=>rfl
 |cons s l d=>rw[List.foldl_cons,d];simp[Hg]
theorem Xb {S:DY} {a:List Jh} {R:List RL} {c:bO} {v:Nat} {i:Int}:(Dl S a R c v i).length=(at' c (v:Int)).length:=Mm _ _
section
variable {p:Dr} {g:GR} {gr:Int} {R:List RL} {c:List (List Int)} {v:Nat}
theorem acT (A:VG g) (J:kK g p.2.1) (o:uB g p.2.1.length c) (x:v<g.2.length) (E:p.2.2.map wK=EI R) (H:qI p.2.1.length R=true) {i:Nat} (B:i<R.length):
  mJ 1000 (p,(p,g,gr,gQ g),Fc g p.2.1) c (v:Int) (i:Int)=some (Dl (p,g,gr,gQ g) p.2.1 R c v (i:Int)):=by
 have G:=A.n24;have I:=o.len;have l:=o.row v x;have N:=J.len;have O:=Ek E;have r:=KX E B;obtain⟨-,m,d⟩:=PP H B;have D:(Fc g p.2.1).length=g.2.length:=by simp[Fc]
 have w:at' (Fc g p.2.1) (v:Int)=He g p.2.1 v:=El _ x;have L:(He g p.2.1 v).length=p.2.1.length:=by simp[He]
 have y:(at' p.2.2 (i:Int)).2.2.2.map (λs=>(s.1,s.2.2))=(at' R (i:Int)).2.map λs=>((s.1:Int),s.2.ts):=congrArg Prod.snd r;have n:(at' p.2.2 (i:Int)).2.2.2.length=(at' R (i:Int)).2.length:=by simpa using congrArg List.length y
 unfold mJ;dsimp only;rw[cO (by omega),cO (by simp;omega),cO (by omega),List.nil_append];unfold Dl;let a:=(at' R (i:Int)).2;have:=cR (step:=lG 1000 (p,(p,g,gr,gQ g),Fc g p.2.1) c (v:Int) (i:Int)) (K:=some (a.foldl (Hg (p,g,gr,gQ g) p.2.1 c v) (at' c (v:Int)))) a.length (λk=>((k:Int),(a.take k).foldl (Hg (p,g,gr,gQ g) p.2.1 c v) (at' c (v:Int)))) (λk F e=>by
  have j:k<(at' p.2.2 (i:Int)).2.2.2.length:=by rw[n];exact e
  have z:((at' (at' p.2.2 (i:Int)).2.2.2 (k:Int)).1,(at' (at' p.2.2 (i:Int)).2.2.2 (k:Int)).2.2)=(((at' a (k:Int)).1:Int),(at' a (k:Int)).2.ts):=by
   have:=congrArg (λq=>q[k]?) y;simp only[List.getElem?_map,zA0 j,zA0 (show k<(at' R (i:Int)).2.length from e),Option.map_some,Option.some.injEq]at this;rw[gN j,gN e];exact this
  have f:=congrArg Prod.fst z;have h:=congrArg Prod.snd z;dsimp only at f h;obtain⟨t,u⟩:=d (at' a (k:Int)) (by rw[gN e];exact zB7 e);have C:((a.take k).foldl (Hg (p,g,gr,gQ g) p.2.1 c v) (at' c (v:Int))).length=p.2.1.length:=by rw[Mm,l]
  have b:at' (He g p.2.1 v) ((at' a (k:Int)).1:Int)=zI g p.2.1 v (at' a (k:Int)).1:=El _ t;have M:a.length<=20:=m;unfold lG;dsimp only;rw[if_pos (by omega),cO (by omega),f,h,aZ (show hZ 1000 _ c (v:Int) _=_ from SE (S:=(p,g,gr,gQ g)) Z A o x u),cO (by omega),cO (by omega),w,cO (by omega),b,aZ (YE 1000 _ _ _),cO (by omega),dH (by omega),zAe,wA e,List.foldl_append];rfl) (λF=>by
  unfold lG pB;dsimp only;rw[if_neg (by show¬(a.length:Int)<_;rw[n];exact Int.lt_irrefl _),List.take_length]) 1000 (by show(at' R (i:Int)).2.length<1000;omega)
 exact this
theorem adl (m:VG g) (s:kK g p.2.1) (l:uB g p.2.1.length c) (u:p.2.2.map wK=EI R) (o:qI p.2.1.length R=true) {t:Nat} (b:t<4294967296) (B:∀v,t.testBit v=true->0<=yY (p,g,gr,gQ g) R c v):
  j_ 1000 (p,(p,g,gr,gQ g),Fc g p.2.1) c (t:Int)=some (kY (p,g,gr,gQ g) p.2.1 R c t):=by
 have x:=m.n24;have z:=l.len;have C:=s.len;unfold j_;rw[aZ (UZ c (by omega) (λv D=>by rw[l.row v (by omega)];omega))];let f:Nat->List Int:=λv=>if t.testBit v=true then Dl (p,g,gr,gQ g) p.2.1 R c v (yY (p,g,gr,gQ g) R c v)else at' c (v:Int);let Q:Nat->List (List Int):=λk=>(List.range k).map f++c.drop k;have y:∀k,k<=c.length->(Q k).length=c.length:=λk a=>by simp[Q];omega
 have j:∀k,k<c.length->(Q k).set k (f k)=Q (k+1):=λk a=>by
  show((List.range k).map f++c.drop k).set k (f k)=(List.range (k+1)).map f++c.drop (k+1);rw[List.set_append_right _ _ (by simp),List.length_map,List.length_range,Nat.sub_self,List.drop_eq_getElem_cons a,List.set_cons_zero,zB8,List.map_append,zB4,zB2];rfl
 have d:∀k,k<c.length->f k=at' c (k:Int)->Q k=Q (k+1):=λk a A=>by
  show(List.range k).map f++c.drop k=(List.range (k+1)).map f++c.drop (k+1);rw[zB8,List.drop_eq_getElem_cons a,List.map_append,zB4,A,gN a];simp
 rw[show c=Q 0 by simp[Q]];refine cR (step:=jE 1000 (p,(p,g,gr,gQ g),Fc g p.2.1) (Q 0) (t:Int)) (K:=some (kY (p,g,gr,gQ g) p.2.1 R (Q 0) t)) c.length (λk=>((k:Int),Q k)) (λk w a=> ?_) (λw=> ?_) 1000 (by omega)
 ·rw[show Q 0=c by simp[Q]];unfold jE lI;dsimp only;rw[if_pos (by omega),cO (by omega),dH (by omega)];by_cases h:t.testBit k=true
  ·obtain⟨i,r,n,_⟩:=(R_ (p,g,gr,gQ g) R c k).resolve_left (λe=>by have:=B k h;omega);rw[if_pos ((LR (by omega) b).2 h),aZ (show fS 1000 _ c (k:Int)=_ from VC m l (by omega) u o _),r,aZ (show mJ 1000 _ c (k:Int) (i:Int)=_ from acT m s l (by omega) u o n),cO (by rw[y k (by omega)];omega),zAe];have:Dl (p,g,gr,gQ g) p.2.1 R c k (i:Int)=f k:=by simp only[f];rw[if_pos h,r]
   rw[this,j k a]
  ·rw[if_neg (λq=>h ((LR (by omega) b).1 q)),d k a (by simp only[f];rw[if_neg h])]
 ·rw[show Q 0=c by simp[Q]];unfold jE pD;dsimp only;rw[if_neg (by omega)];simp[Q,kY,f]
theorem Ot {S:DY} {a:List Jh} {t:Nat}:(kY S a R c t).length=c.length:=by simp[kY]
theorem Ms {S:DY} {a:List Jh} {t:Nat} (b:v<c.length):at' (kY S a R c t) (v:Int)=if t.testBit v=true then Dl S a R c v (yY S R c v)else at' c (v:Int):=El _ b
theorem uB.step {S:DY} {a:List Jh} {t:Nat} {e:Nat} {g:GR} (b:uB g e c):uB g e (kY S a R c t):=⟨by rw[Ot,b.len],λv d=>by
 rw[Ms (by rw[b.len];exact d)];split
 ·rw[Xb,b.row v d]
 ·exact b.row v d⟩
end
end Go.Proofs.YtahgemjmgopleaaGreatDoor
namespace Go.Proofs.YtahgemjmgopleaaGreatDoor
open Go.Sx
def nE  (a:Unit):Option Bool:=
 some (true)
def iZ (c:aX) (a:Int) (b:(Int)->Option Bool):Option Bool:=
 if a<(c.length:Int)then(ck (0<=a∧a<(c.length:Int)) (if(kE .u32 (at' c a) (16777215:Int))≠(0:Int)then(some (false))else(b (wI .i64 (a+(1:Int))))))else(nE  (()))
def iL (U:Nat) (a:aX):Option Bool:=
 bK (iZ a) U (0:Int)
theorem UP:aV Tryz.prog 176:=Tryz.call176
theorem CW (U:Nat) {d:aX} (e:Value) (r:Bool) (h:iL U d=some r):
  aW Tryz.prog 176 #[e] [Sl wR e d] (λx:Unit=>vB (r)) (λx l=>l) (λ_ l=>l):=by
 refine aW.of Tryz.func176 Z Tryz.ntmps176 Z λc=>?_;unfold iL at h;refine aR<|aB Z<|aL<|aK<|dK (λa=>nE  a=some r) (λa f=>[]) (λa f=>[]) ?_ ?_
 ·refine aR<|aA Z<|iF (aD.fact 0 Z) Z<|aA Z<|aL<|aS<|eB (iZ d) (λb g=>[(5,e),(6,vI (d.length:Int)),(7,vI (b))]) (λb g=>[]) (0:Int) () h SF (bA.refl _) ?_;intro j b g h;refine aR<|cZ Z<|aL<|aK ?_;refine d_ h Z (λh=>?_) λh=>?_
  ·refine cE<|aK<|aS<|aR<|dW h λi h=>aC (a_ Z Z (aD.fact 0 Z) Z Z i) Z<|aC (bY Z (aD.fact 0 Z) Z Z Z AI i) Z<|aB Z<|aL<|aR<|aA Z<|aC (zG Z Z) Z<|jQ Z<|aL ?_;refine d_ h Z (λh=>?_) λh=>?_
   ·refine aR<|aB Z<|aL<|aQ<|bG<|aI<|aI<|bG<|aI ?_;cases h;exact fW Z
   refine dM<|jH<|aO<|cD Z<|aA Z<|aL ?_;exact tV (wI .i64 (b+(1:Int))) () h SF Z
  refine eS ?_;exact eW () (()) h SF Z
 intro a f h;unfold nE at h;refine aR<|aB Z<|aL<|aQ ?_;cases h;exact fW Z
def lP  (a:Bool):Option Bool:=
 some (a)
def iP (U:Nat) (a:BN) (c:Bool):Option Bool:=
 if c=true then(some (false))else(if(wI .i64 (a.2.2.1+(1:Int)))<a.2.2.2.1 then(some (false))else(if a.1<=a.2.1 then(if a.2.1<=(wI .i64 ((24:Int)*a.1))then(Option.bind (iL U ([a.2.2.2.2])) λb=>(lP  (b)))else(lP  (false)))else(lP  (false))))
def jM (U:Nat) (a:BN):Option Bool:=
 if a.1<(0:Int)then(iP U a (true))else(if(4096:Int)<a.1 then(iP U a (true))else(if a.2.2.1<(0:Int)then(iP U a (true))else(if a.2.2.2.1<a.2.2.1 then(iP U a (true))else(iP U a (decide (a.1<a.2.2.2.1))))))
theorem abM:aV Tryz.prog 175:=Tryz.call175
theorem Ku (U:Nat) {a:BN} (r:Bool) (h:jM U a=some r):
  aW Tryz.prog 175 #[Value.agg #[vI (a.1),vI (a.2.1),vI (a.2.2.1),vI (a.2.2.2.1),vU (a.2.2.2.2)]] [] (λx:Unit=>vB (r)) (λx l=>l) (λ_ l=>l):=by
 refine aW.of Tryz.func175 Z Tryz.ntmps175 Z λc=>?_;refine aR<|aH (aN.box (cs:=[vI (a.1),vI (a.2.1),vI (a.2.2.1),vI (a.2.2.2.1),vU (a.2.2.2.2)]) Z Z) Z λj=>aB Z<|aL<|aK<|aK<|dK (λb=>iP U a b=some r) (λb k=>[(1,vP j),(29,vB (b))]) (λb k=>[cJ j [vI (a.1),vI (a.2.1),vI (a.2.2.1),vI (a.2.2.2.1),vU (a.2.2.2.2)] 53]) ?_ ?_
 ·refine aO<|bN Z<|dL 0 Z<|cZ Z<|aA Z ?_;refine wN h Z (λ_ h=>?_) λ_ h=>?_
  ·refine aE Z<|aE Z<|aE Z<|dA Z<|aA Z<|aE Z<|aE Z<|aE Z<|dA Z<|aA Z<|aE Z<|aE Z<|aE Z<|aE Z<|aE Z<|dA Z<|aA Z<|aE Z<|aE Z<|aE Z<|aE Z<|aE Z<|dA Z<|aL ?_;exact eW (true) () h SF Z
  refine aM Z (cQ Z Z Z Z Z) Z<|aM Z (dN 0 Z Z Z Z Z) Z<|aM Z (uE Z Z) Z<|c_ Z<|aA Z ?_;refine wN h Z (λ_ h=>?_) λ_ h=>?_
  ·refine aE Z<|aE Z<|aE Z<|dA Z<|aA Z<|aE Z<|aE Z<|aE Z<|aE Z<|aE Z<|dA Z<|aA Z<|aE Z<|aE Z<|aE Z<|aE Z<|aE Z<|dA Z<|aL ?_;exact eW (true) () h SF Z
  refine aM Z (cQ Z Z Z Z Z) Z<|aM Z (dN 0 Z Z Z Z Z) Z<|aM Z (BD Z Z) Z<|c_ Z<|aA Z ?_;refine wN h Z (λ_ h=>?_) λ_ h=>?_
  ·refine aE Z<|aE Z<|aE Z<|aE Z<|aE Z<|dA Z<|aA Z<|aE Z<|aE Z<|aE Z<|aE Z<|aE Z<|dA Z<|aL ?_;exact eW (true) () h SF Z
  refine aM Z (cQ Z Z Z Z Z) Z<|aM Z (dN 0 Z Z Z Z Z) Z<|aM Z (cQ Z Z Z Z Z) Z<|aM Z (dN 0 Z Z Z Z Z) Z<|aM Z (uE Z Z) Z<|c_ Z<|aA Z ?_;refine wN h Z (λ_ h=>?_) λ_ h=>?_
  ·refine aE Z<|aE Z<|aE Z<|aE Z<|aE Z<|dA Z<|aL ?_;exact eW (true) () h SF Z
  refine aM Z (cQ Z Z Z Z Z) Z<|aM Z (dN 0 Z Z Z Z Z) Z<|aM Z (cQ Z Z Z Z Z) Z<|aM Z (dN 0 Z Z Z Z Z) Z<|aM Z (uE Z Z) Z<|c_ Z<|aL ?_;exact eW (decide (a.1<a.2.2.2.1)) () h SF Z
 intro b k h;refine tT h Z (λ_ h=>?_) λ_ h=>?_
 ·refine aR<|aB Z<|aL<|aQ<|aI ?_;cases h;exact oA Z
 refine cE<|aK<|aR<|bN Z<|dL 0 Z<|bN Z<|dL 0 Z<|cD Z<|aC (uE Z Z) Z<|aL ?_;refine d_ h Z (λh=>?_) λh=>?_
 ·refine aR<|aB Z<|aL<|aQ<|aI ?_;cases h;exact oA Z
 refine cE<|aK<|dK (λd=>lP  d=some r) (λd m=>[(2,vB (d))]) (λd m=>[]) ?_ ?_
 ·refine aO<|bN Z<|dL 0 Z<|bN Z<|dL 0 Z<|aC (uF Z Z) Z<|aA Z ?_;refine wN h Z (λ_ h=>?_) λ_ h=>?_
  ·refine aM Z (cQ Z Z Z Z Z) Z<|aM Z (dN 0 Z Z Z Z Z) Z<|aM Z (cQ Z Z Z Z Z) Z<|aM Z (dN 0 Z Z Z Z Z) Z<|aM Z (zH Z Z) Z<|aM Z (uF Z Z) Z<|dA Z<|aA Z ?_;refine wN h Z (λ_ h=>?_) λ_ h=>?_
   ·refine aM Z (cQ Z Z Z Z Z) Z<|aM Z (dN 0 Z Z Z Z Z) Z<|kJ Z (bT (e:=fG) ([a.2.2.2.2]) [(0,vU (a.2.2.2.2))] Z Z Z Z (eV (vU (a.2.2.2.2)) Z) Z Z Z) Z λg=>dZ h λf i h=>kJ Z (zBg UP (CW U g f i) Z (aG.cons (aT (aD.res 0 Z) cP) .nil)) Z λn=>dA Z<|aB Z<|aL ?_;exact bU (f) () h SF .nil (aG.refl _ _)
   refine aE Z<|aE Z<|aE Z<|aE Z<|c_ Z<|aB Z<|aL ?_;exact bU (false) () h SF .nil (aG.refl _ _)
  refine aE Z<|aE Z<|aE Z<|aE Z<|aE Z<|aE Z<|c_ Z<|aA Z<|aE Z<|aE Z<|aE Z<|aE Z<|c_ Z<|aB Z<|aL ?_;exact bU (false) () h SF .nil (aG.refl _ _)
 intro d m h;unfold lP at h;refine aQ ?_;cases h;exact fW Z
def iM (U:Nat) (a:Int):Option (Int):=
 ck (0<=(24:Int)) (ck (0<=(mZ .u32 a (24:Int))∧(mZ .u32 a (24:Int))<(Ji.length:Int)) (ck (0<=(16:Int)) (ck (0<=(eG .u32 (mZ .u32 a (16:Int)) (255:Int))∧(eG .u32 (mZ .u32 a (16:Int)) (255:Int))<(Ji.length:Int)) (ck (0<=(8:Int)) (ck (0<=(eG .u32 (mZ .u32 a (8:Int)) (255:Int))∧(eG .u32 (mZ .u32 a (8:Int)) (255:Int))<(Ji.length:Int)) (ck (0<=(eG .u32 a (255:Int))∧(eG .u32 a (255:Int))<(Ji.length:Int)) (some (wI .i64 (wI .u8 ((wI .u8 ((wI .u8 ((at' Ji (mZ .u32 a (24:Int)))+(at' Ji (eG .u32 (mZ .u32 a (16:Int)) (255:Int)))))+(at' Ji (eG .u32 (mZ .u32 a (8:Int)) (255:Int)))))+(at' Ji (eG .u32 a (255:Int)))))))))))))
theorem abN:aV Tryz.prog 177:=Tryz.call177
theorem HZ (U:Nat) {a:Int} (r:Int) (h:iM U a=some r):
  aW Tryz.prog 177 #[vU (a)] [] (λx:Unit=>vI (r)) (λx l=>l) (λ_ l=>l):=by
 refine aW.of Tryz.func177 Z Tryz.ntmps177 Z λc=>?_;refine aR<|aB Z<|aL<|aK ?_;refine JR.start [0,1,3,0,8,24,56,127,0,256,768,1792,4095,0,8192,24576,65535,131071,262143] 16 mixedOrders (by decide +kernel) ?_;refine zBj (by exact rfl) ?_;refine aY Z<|dW h λb h=>iY Z (Iq Z Z b)<|dW h λd h=>iY Z (ED Z Z Z Pe d)<|aY Z<|dW h λe h=>iY Z (Iq Z Z e)<|iY Z (NM Z Z)<|dW h λf h=>iY Z (ED Z Z Z Pe f)<|iY Z (yR Z Z)<|aY Z<|dW h λg h=>iY Z (Iq Z Z g)<|iY Z (NM Z Z)<|dW h λi h=>iY Z (ED Z Z Z Pe i)<|iY Z (yR Z Z)<|aY Z<|iY Z (NM Z Z)<|dW h λj h=>iY Z (ED Z Z Z Pe j)<|bP 16 Z Z<|cD Z<|aC (Cw Z Z Z) Z<|aB Z<|aL<|aQ ?_;cases h;exact fW Z
def oE (b:BN) (c:Int) (a:eL):Option Ow:=
 some ((((wI .i64 (b.1+(1:Int))),(wI .i64 (b.2.1+c)),a.1,(wI .i64 (b.2.2.1+(1:Int))),a.2)),(0:Int))
def oD (U:Nat) (a:BN) (c:Int) (d:Int) (e:Bool):Option Ow:=
 if e=true then(some ((((0:Int),(0:Int),(0:Int),(0:Int),(0:Int))),(11:Int)))else(if a.1=(4096:Int)then(some ((((0:Int),(0:Int),(0:Int),(0:Int),(0:Int))),(3:Int)))else(Option.bind (iM U c) λb=>(if(eG .u32 (kE .u32 a.2.2.2.2 c) d)=(0:Int)then(oE a b ((wI .i64 (a.2.2.1+(1:Int))),d))else(oE a b (a.2.2.1,(eG .u32 (kE .u32 a.2.2.2.2 c) d))))))
def jI (U:Nat) (a:BN) (b:Int) (c:Int):Option Ow:=
 Option.bind (jM U ((a.1,a.2.1,a.2.2.1,a.2.2.2.1,a.2.2.2.2))) λe=>(if(!e)=true then(some ((((0:Int),(0:Int),(0:Int),(0:Int),(0:Int))),(7:Int)))else(if b=(0:Int)then(oD U a b c (true))else(Option.bind (iL U ([b,c])) λd=>(oD U a b c ((!d))))))
theorem abA:aV Tryz.prog 135:=Tryz.call135
theorem Nj (U:Nat) {a:BN} {g:Int} {d:Int} (r:(Int×Int×Int×Int×Int)×Int) (h:jI U a g d=some r):
  aW Tryz.prog 135 #[Value.agg #[vI (a.1),vI (a.2.1),vI (a.2.2.1),vI (a.2.2.2.1),vU (a.2.2.2.2)],vU (g),vU (d)] [] (λx:Unit=>Value.tuple #[Value.agg #[vI (r.1.1),vI (r.1.2.1),vI (r.1.2.2.1),vI (r.1.2.2.2.1),vU (r.1.2.2.2.2)],vI (r.2)]) (λx l=>l) (λ_ l=>l):=by
 refine aW.of Tryz.func135 Z Tryz.ntmps135 Z λc=>?_;refine aR<|aH (aN.box (cs:=[vI (a.1),vI (a.2.1),vI (a.2.2.1),vI (a.2.2.2.1),vU (a.2.2.2.2)]) Z Z) Z λm=>aH (aN.alloc (cs:=SV) Z Z) Z λn=>aB Z<|aL<|aK<|aR<|cM 1 Z<|dZ h λu v h=>aH (zBg abM (Ku U  u v) Z .nil) Z λz=>aC (lV Z) Z<|aL ?_;refine tT h Z (λ_ h=>?_) λ_ h=>?_
 ·refine aR ?_;refine aC (Cv (r:=Value.agg #[vI (0:Int),vI (0:Int),vI (0:Int),vI (0:Int),vU (0:Int)]) (by intro w;simp[Instr.build,Instr.fill,cT,b_,bW,cU,cV,cA,dJ])) Z ?_;refine bF 0 (vs:=SV) Z Z Z Z Z Z<|aB Z<|aL<|aQ<|aI ?_;cases h;exact eD () Z Z (RV.cell 0 Z Z Z Z) (RV.tmp Z) .nil aG.nil
 refine cE<|aK<|aK<|dK (λi=>oD U a g d i=some r) (λi t=>[(1,vU (g)),(2,vU (d)),(3,vP m),(6,vP n),(20,vB (i))]) (λi t=>[cJ n SV 53,cJ m [vI (a.1),vI (a.2.1),vI (a.2.2.1),vI (a.2.2.2.1),vU (a.2.2.2.2)] 53]) ?_ ?_
 ·refine aO<|aA Z<|bS Z<|aA Z ?_;refine wN h Z (λ_ h=>?_) λ_ h=>?_
  ·refine aE Z<|aE Z<|aE Z<|aE Z<|aE Z<|dA Z<|aL ?_;exact eW (true) () h SF Z
  refine bZ Z<|bZ Z<|kJ Z (bT (e:=fG) ([g,d]) [(0,vU (g)),(1,vU (d))] Z Z Z Z (Zf (vU (g)) (vU (d)) Z Z) Z Z Z) Z λo=>dZ h λk q h=>kJ Z (zBg UP (CW U o k q) Z (aG.cons (aT (aD.res 0 Z) cP) .nil)) Z λy=>aM Z (lV Z) Z<|c_ Z<|aL ?_;exact bU ((!k)) () h SF (bA.ix [1,2] Z Z) (aG.refl _ _)
 intro i t h;refine tT h Z (λ_ h=>?_) λ_ h=>?_
 ·refine aR ?_;refine aC (Cv (r:=Value.agg #[vI (0:Int),vI (0:Int),vI (0:Int),vI (0:Int),vU (0:Int)]) (by intro w;simp[Instr.build,Instr.fill,cT,b_,bW,cU,cV,cA,dJ])) Z ?_;refine bF 0 (vs:=SV) Z Z Z Z Z Z<|aB Z<|aL<|aQ<|aI ?_;cases h;exact eD () Z Z (RV.cell 0 Z Z Z Z) (RV.tmp Z) .nil aG.nil
 refine cE<|aK<|aR<|bN Z<|dL 1 Z<|bS Z<|aL ?_;refine d_ h Z (λh=>?_) λh=>?_
 ·refine aR ?_;refine aC (Cv (r:=Value.agg #[vI (0:Int),vI (0:Int),vI (0:Int),vI (0:Int),vU (0:Int)]) (by intro w;simp[Instr.build,Instr.fill,cT,b_,bW,cU,cV,cA,dJ])) Z ?_;refine bF 0 (vs:=SV) Z Z Z Z Z Z<|aB Z<|aL<|aQ<|aI ?_;cases h;exact eD () Z Z (RV.cell 0 Z Z Z Z) (RV.tmp Z) .nil aG.nil
 refine cE<|aR<|bN Z<|dL 1 Z<|cD Z<|bN Z<|gJ 1 Z Z Z Z Z Z<|aL<|aK ?_;refine JR.start [0,1,0,4,15,31,63] 4 mixedOrders (by decide +kernel) ?_;refine zBj (by exact rfl) ?_;refine cB Z<|fD 1 Z<|aY Z<|dZ h λf p h=>zBh Z Z Z (zBg abN (HZ U  f p) Z .nil) Z (λs=>(kG [([1],[])] Z)) λs=>bP 4 Z Z<|cD Z<|bN Z<|gJ 1 Z Z Z Z Z Z<|aL<|aR<|bN Z<|dL 1 Z<|cD Z<|bN Z<|gJ 1 Z Z Z Z Z Z<|aL<|aR<|bN Z<|dL 1 Z<|aA Z<|aC (zG Z Z) Z<|aA Z<|wE Z<|bN Z<|gJ 1 Z Z Z Z Z Z<|aL<|aK<|dK (λb=>oE a f b=some r) (λb j=>[(3,vP m),(6,vP n)]) (λb j=>[cJ n SV 53,cJ m [vI (wI .i64 (a.1+(1:Int))),vI (wI .i64 (a.2.1+f)),vI (b.1),vI (wI .i64 (a.2.2.1+(1:Int))),vU (b.2)] 53]) ?_ ?_
 ·refine aR<|bN Z<|dL 1 Z<|bS Z<|aL ?_;refine d_ h Z (λh=>?_) λh=>?_
  ·refine aR<|bN Z<|dL 1 Z<|bN Z<|gJ 1 Z Z Z Z Z Z<|aL<|aO<|aA Z<|bN Z<|gJ 1 Z Z Z Z Z Z<|aL ?_;exact eW ((wI .i64 (a.2.2.1+(1:Int))),d) () h SF Z
  refine cE ?_;exact eW (a.2.2.1,(eG .u32 (kE .u32 a.2.2.2.2 g) d)) () h SF Z
 intro b j h;unfold oE at h;refine aR<|cM 1 Z<|bF 0 (vs:=[vI (wI .i64 (a.1+(1:Int))),vI (wI .i64 (a.2.1+f)),vI (b.1),vI (wI .i64 (a.2.2.1+(1:Int))),vU (b.2)]) Z Z Z Z Z Z<|aB Z<|aL<|aQ ?_;cases h;exact eD () Z Z (RV.cell 0 Z Z Z Z) (RV.tmp Z) .nil aG.nil
end Go.Proofs.YtahgemjmgopleaaGreatDoor
namespace Go.Proofs.YtahgemjmgopleaaGreatDoor
open Go Go.Sx
abbrev CT:=BN
theorem Ht (l:aX) (h:l.length<=900):∃b,iL 1000 l=some b:=by
 unfold iL;have:=A_ (step:=iZ l) (Q:=λ_:Bool=>True) (λi:Int=>∃k:Nat,i=(k:Int)∧k<=l.length) (λi=>l.length - i.toNat) (λi f c a=>by
  obtain⟨k,rfl,g⟩:=c;unfold iZ nE;by_cases e:k<l.length
  ·rw[if_pos (by omega),cO (by omega)];split
   ·exact⟨_,rfl,trivial⟩
   ·rw[dH (by omega)];exact a _ ⟨k+1,rfl,by omega⟩ (by omega)
  ·rw[if_neg (by omega)];exact⟨_,rfl,trivial⟩) 1000 0 ⟨0,rfl,by omega⟩ (by omega)
 obtain⟨b,d,_⟩:=this;exact⟨b,d⟩
theorem OT (k:CT):∃b,jM 1000 k=some b:=by
 obtain⟨q,d⟩:=Ht [k.2.2.2.2] (by simp);have c:∀a,∃b,iP 1000 k a=some b:=by
  intro a;unfold iP lP;split
  ·exact⟨_,rfl⟩
  ·split
   ·exact⟨_,rfl⟩
   ·split
    ·split
     ·rw[aZ d];exact⟨_,rfl⟩
     ·exact⟨_,rfl⟩
    ·exact⟨_,rfl⟩
 unfold jM
 repeat' split
 all_goals exact c _
theorem Xe {t:Nat} (i:t<4294967296):∃n,iM 1000 (t:Int)=some n:=by
 have g:(Ji.length:Int)=256:=by decide +kernel
 have b:∀a:Nat,a<4294967296->0<=eG .u32 (a:Int) 255∧eG .u32 (a:Int) 255<256:=λa f=>by
  rw[show(255:Int)=((255:Nat):Int)from rfl,AF f (by omega)];have:a &&& 255<=255:=Nat.and_le_right;omega
 have c:∀k:Nat,k<32->mZ .u32 (t:Int) (k:Int)=((t / 2^k:Nat):Int):=λk h=>Ir h;have e:mZ .u32 (t:Int) 24=((t / 2^24:Nat):Int):=c 24 (by omega);have d:mZ .u32 (t:Int) 16=((t / 2^16:Nat):Int):=c 16 (by omega);have j:mZ .u32 (t:Int) 8=((t / 2^8:Nat):Int):=c 8 (by omega);unfold iM;rw[g,e,d,j,cO (by decide),cO (by omega),cO (by decide),cO (b _ (by omega)),cO (by decide),cO (b _ (by omega)),cO (b _ i)];exact⟨_,rfl⟩
theorem Ye (k:CT) {t:Nat} (h:t<4294967296) (e:Int):∃r,jI 1000 k (t:Int) e=some r:=by
 obtain⟨b,d⟩:=OT k;obtain⟨q,g⟩:=Ht [(t:Int),e] (by simp);obtain⟨n,f⟩:=Xe h;have c:∀a,∃r,oD 1000 k (t:Int) e a=some r:=by
  intro a;unfold oD oE;split
  ·exact⟨_,rfl⟩
  ·split
   ·exact⟨_,rfl⟩
   ·rw[aZ f];split<;>exact⟨_,rfl⟩
 unfold jI;rw[aZ (show jM 1000 _=some b from d)];split
 ·exact⟨_,rfl⟩
 ·split
  ·exact c _
  ·rw[aZ g];exact c _
def cC (p:Dr) (g:GR):DY:=(p,g,kW g g.2.length,gQ g)
def BE (S:DY) (R:List RL) (lv:Nat) (c:bO):Nat:=Xw S R c &&& lv
theorem Pk (S:DY) (R:List RL) (c:bO) (v:Nat):(Xw S R c).testBit v=(decide (v<S.2.1.2.length)&&decide (0<=yY S R c v)):=Cs _ v _
theorem Va (S:DY) (R:List RL) (a:Nat) (c:bO) (v:Nat):(BE S R a c).testBit v=true↔v<S.2.1.2.length∧0<=yY S R c v∧a.testBit v=true:=by
 unfold BE;rw[zBc,Pk,zA1,zA1,zA8,zA8,and_assoc]
theorem YT {S:DY} (a:VG S.2.1) (R:List RL) (c:bO):Xw S R c<4294967296:=Dk _ (by have:=a.n24;omega)
theorem FW (S:DY) (R:List RL) (lv:Nat) (c:bO):Hj S.2.1 (BE S R lv c):=λi a=>((Va S R lv c i).1 a).1
def tU (ch:lW):aX:=ch.map λt=>((t:Nat):Int)
end Go.Proofs.YtahgemjmgopleaaGreatDoor
namespace Go.Proofs.YtahgemjmgopleaaGreatDoor
open Go.Sx
def pI  (a:Bool):Option Bool:=
 some (a)
def rD (U:Nat) (a:Int):Option Bool:=
 if(1:Int)<=a then(pI  (decide (a<=(4:Int))))else(pI  (false))
theorem aeN:aV Tryz.prog 87:=Tryz.call87
theorem Mt (U:Nat) {b:Int} (r:Bool) (h:rD U b=some r):
  aW Tryz.prog 87 #[vI (b)] [] (λx:Unit=>vB (r)) (λx l=>l) (λ_ l=>l):=by
 refine aW.of Tryz.func87 Z Tryz.ntmps87 Z λc=>?_;refine aR<|aB Z<|aL<|aK<|dK (λa=>pI  a=some r) (λa d=>[(2,vB (a))]) (λa d=>[]) ?_ ?_
 ·refine aO<|aA Z<|aC (wC Z Z) Z<|aA Z ?_;refine wN h Z (λ_ h=>?_) λ_ h=>?_
  ·refine bZ Z<|aM Z (uF Z Z) Z<|dA Z<|aB Z<|aL ?_;exact eW (decide (b<=(4:Int))) () h SF Z
  refine aE Z<|aE Z<|c_ Z<|aB Z<|aL ?_;exact eW (false) () h SF Z
 intro a d h;unfold pI at h;refine aQ ?_;cases h;exact fW Z
def rW (U:Nat) (a:jC) (b:cW) (d:Int) (e:bO) (f:Int):Option (Int):=
 Option.bind (rE U ((a.1,a.2.1,a.2.2)) ((b.1,b.2)) e) λc=>(if c≠(0:Int)then(some (c))else(Option.bind (rD U d) λg=>(if(!g)=true then(some (12:Int))else(if(4096:Int)<f then(some (3:Int))else(some (0:Int))))))
theorem aeA:aV Tryz.prog 51:=Tryz.call51
theorem Sk (U:Nat) {a:jC} {g:cW} {j:Int} {k:bO} {m:Int} (b:Value)  (d:Value)  (e:Value)  (f:Value)  (n:iX)  (i:Value)  (o:lU) (r:Int) (h:rW U a g j k m=some r):
  aW Tryz.prog 51 #[Value.agg #[vS (a.1),b,d],Value.agg #[e,f],vI (j),i,vI (m)] [Sl aP b a.2.1,Sl aJ d a.2.2,PF (Value.agg #[vS a.1,b,d]),Sl bX e g.1,S2 bD f n g.2,S2 bX i o k] (λx:Unit=>vI (r)) (λx l=>l) (λ_ l=>l):=by
 refine aW.of Tryz.func51 Z Tryz.ntmps51 Z λc=>?_;refine aR<|aH (aN.box (cs:=[vS (a.1),b,d]) Z Z) Z λu=>aH (aN.box (cs:=[e,f]) Z Z) Z λv=>aB Z<|aL<|aK<|aR<|cM 1 Z<|cM 0 Z<|aA Z<|dZ h λp s h=>aH (zBg aeM (My U b d e f n i o p s) Z (jP [0,1,2,3,4,5] Z)) Z λw=>aB Z<|aL<|aR<|aA Z<|jQ Z<|aL ?_;refine d_ h Z (λh=>?_) λh=>?_
 ·refine aR<|aA Z<|aB Z<|aL<|aQ<|aI ?_;cases h;exact oA Z
 refine cE<|aK<|aR<|aA Z<|dZ h λq t h=>aH (zBg aeN (Mt U  q t) Z .nil) Z λy=>aC (lV Z) Z<|aL ?_;refine tT h Z (λ_ h=>?_) λ_ h=>?_
 ·refine aR<|aB Z<|aL<|aQ<|aI ?_;cases h;exact oA Z
 refine cE<|aK<|aR<|aA Z<|aC (uE Z Z) Z<|aL ?_;refine d_ h Z (λh=>?_) λh=>?_
 ·refine aR<|aB Z<|aL<|aQ<|aI ?_;cases h;exact oA Z
 refine cE<|aR<|aB Z<|aL<|aQ ?_;cases h;exact oA Z
def vQ (U:Nat) (a:bO) (b:Int) (c:BN):Option (Unit):=
 some (())
theorem Yv:aV Tryz.prog 53:=Tryz.call53
theorem Jc (U:Nat) {b:bO} {d:Int} {a:BN} (e:Value)  (f:lU) (r:Unit) (h:vQ U b d a=some r):
  aW Tryz.prog 53 #[e,vU (d),Value.agg #[vI (a.1),vI (a.2.1),vI (a.2.2.1),vI (a.2.2.2.1),vU (a.2.2.2.2)]] [S2 bX e f b] (λx:Unit=>Value.tuple #[]) (λx l=>l) (λ_ l=>l):=by
 refine aW.of Tryz.func53 Z Tryz.ntmps53 Z λc=>?_;unfold vQ at h;refine aO<|aH (aN.box (cs:=[vI (a.1),vI (a.2.1),vI (a.2.2.1),vI (a.2.2.2.1),vU (a.2.2.2.2)]) Z Z) Z λg=>eN ?_;cases h;exact Gw () Z Z .normal (.inr Z) .nil aG.nil
def xY (U:Nat) (a:Int):Option ((Int×Int×Int×Int×Int)):=
 some (((0:Int),(0:Int),(0:Int),(0:Int),(eG .u32 a (16777215:Int))))
theorem aby:aV Tryz.prog 132:=Tryz.call132
theorem Kt (U:Nat) {a:Int} (r:(Int×Int×Int×Int×Int)) (h:xY U a=some r):
  aW Tryz.prog 132 #[vU (a)] [] (λx:Unit=>Value.agg #[vI (r.1),vI (r.2.1),vI (r.2.2.1),vI (r.2.2.2.1),vU (r.2.2.2.2)]) (λx l=>l) (λ_ l=>l):=by
 refine aW.of Tryz.func132 Z Tryz.ntmps132 Z λc=>?_;unfold xY at h;refine aR<|aH (aN.alloc (cs:=SV) Z Z) Z λb=>aL<|aR<|aA Z<|wE Z ?_;refine aC (Tl (r:=Value.agg #[vI (0:Int),vI (0:Int),vI (0:Int),vI (0:Int),vU (eG .u32 a (16777215:Int))]) Z (by intro w;simp[Instr.build,Instr.fill,cT,b_,bW,cU,cV,cA,dJ])) Z ?_;refine bF 0 (vs:=[vI (0:Int),vI (0:Int),vI (0:Int),vI (0:Int),vU (eG .u32 a (16777215:Int))]) Z Z Z Z Z Z<|aL<|aQ ?_;cases h;exact gE () Z Z (RV.cell 0 Z Z Z Z) .nil aG.nil
def Ad (b:Int) (a:Bool):Option (Int):=
 if a=true then(some (2:Int))else(if b=(43:Int)then(some (3:Int))else(some (-1:Int)))
def Ac (a:Int) (b:Bool):Option (Int):=
 if b=true then(some (1:Int))else(if(30:Int)<=a then(Ad a (decide (a<=(42:Int))))else(Ad a (false)))
def Ab (a:Int) (b:Bool):Option (Int):=
 if b=true then(some (0:Int))else(if(18:Int)<=a then(Ac a (decide (a<=(29:Int))))else(Ac a (false)))
def jK (U:Nat) (a:Int):Option (Int):=
 if(1:Int)<=a then(Ab a (decide (a<=(17:Int))))else(Ab a (false))
theorem OY:aV Tryz.prog 162:=Tryz.call162
theorem DT (U:Nat) {b:Int} (r:Int) (h:jK U b=some r):
  aW Tryz.prog 162 #[vI (b)] [] (λx:Unit=>vI (r)) (λx l=>l) (λ_ l=>l):=by
 refine aW.of Tryz.func162 Z Tryz.ntmps162 Z λc=>?_;refine aR<|aB Z<|aL<|aK<|aS<|aK<|dK (λd=>Ab b d=some r) (λd g=>[(0,vI (b)),(3,vB (d))]) (λd g=>[]) ?_ ?_
 ·refine aO<|aA Z<|aC (wC Z Z) Z<|aA Z ?_;refine wN h Z (λ_ h=>?_) λ_ h=>?_
  ·refine bZ Z<|aM Z (uF Z Z) Z<|dA Z<|aB Z<|aL ?_;exact eW (decide (b<=(17:Int))) () h SF Z
  refine aE Z<|aE Z<|c_ Z<|aB Z<|aL ?_;exact eW (false) () h SF Z
 intro d g h;refine tT h Z (λ_ h=>?_) λ_ h=>?_
 ·refine aR<|aB Z<|aL<|aQ<|bG<|aI ?_;cases h;exact fW Z
 refine aK<|dK (λe=>Ac b e=some r) (λe i=>[(0,vI (b)),(10,vB (e))]) (λe i=>[]) ?_ ?_
 ·refine aO<|aA Z<|aC (wC Z Z) Z<|aA Z ?_;refine wN h Z (λ_ h=>?_) λ_ h=>?_
  ·refine bZ Z<|aM Z (uF Z Z) Z<|dA Z<|aB Z<|aL ?_;exact eW (decide (b<=(29:Int))) () h SF Z
  refine aE Z<|aE Z<|c_ Z<|aB Z<|aL ?_;exact eW (false) () h SF Z
 intro e i h;refine tT h Z (λ_ h=>?_) λ_ h=>?_
 ·refine aR<|aB Z<|aL<|aQ<|bG<|aI ?_;cases h;exact fW Z
 refine aK<|dK (λa=>Ad b a=some r) (λa f=>[(0,vI (b)),(17,vB (a))]) (λa f=>[]) ?_ ?_
 ·refine aO<|aA Z<|aC (wC Z Z) Z<|aA Z ?_;refine wN h Z (λ_ h=>?_) λ_ h=>?_
  ·refine bZ Z<|aM Z (uF Z Z) Z<|dA Z<|aB Z<|aL ?_;exact eW (decide (b<=(42:Int))) () h SF Z
  refine aE Z<|aE Z<|c_ Z<|aB Z<|aL ?_;exact eW (false) () h SF Z
 intro a f h;refine tT h Z (λ_ h=>?_) λ_ h=>?_
 ·refine aR<|aB Z<|aL<|aQ<|bG<|aI ?_;cases h;exact fW Z
 refine aR<|aA Z<|bS Z<|aB Z<|aL ?_;refine d_ h Z (λh=>?_) λh=>?_
 ·refine aR<|aB Z<|aL<|aQ<|bG<|aI ?_;cases h;exact fW Z
 refine dM<|jH<|aR<|aB Z<|aL<|aQ ?_;cases h;exact fW Z
def tQ  (a:Int):Option (Int):=
 some (a)
def tR (c:cW) (a:eL) (b:gC->Option (Int)):Option (Int):=
 if a.2<(c.1.length:Int)then(ck (0<=a.2∧a.2<(c.1.length:Int)) (b ((max a.1 (at' c.1 a.2)),(wI .i64 (a.2+(1:Int))))))else(tQ  (a.1))
def nV (U:Nat) (a:cW):Option (Int):=
 bK (tR a) U ((0:Int),(0:Int))
theorem UI:aV Tryz.prog 123:=Tryz.call123
theorem Eo (U:Nat) {e:cW} (f:Value)  (g:Value)  (n:iX) (r:Int) (h:nV U e=some r):
  aW Tryz.prog 123 #[Value.agg #[f,g]] [Sl bX f e.1,S2 bD g n e.2] (λx:Unit=>vI (r)) (λx l=>l) (λ_ l=>l):=by
 refine aW.of Tryz.func123 Z Tryz.ntmps123 Z λc=>?_;unfold nV at h;refine aR<|aH (aN.box (cs:=[f,g]) Z Z) Z λi=>aB Z<|aL<|aR<|aB Z<|aL<|aK<|dK (λb=>tQ  b=some r) (λb j=>[(3,vI (b))]) (λb j=>[]) ?_ ?_
 ·refine aR<|aB Z<|aL<|aS<|eB (tR e) (λa k=>[(1,vP i),(3,vI (a.1)),(4,vI (a.2))]) (λa k=>[cJ i [f,g] 29]) ((0:Int),(0:Int)) () h SF (bA.refl _) ?_;intro m a k h;refine aK<|aR<|aA Z<|bN Z<|dL 0 Z<|iF (aD.fact 0 Z) Z<|cZ Z<|aL ?_;refine d_ h Z (λh=>?_) λh=>?_
  ·refine cE<|aK<|aS<|aO<|aA Z<|bN Z<|dL 0 Z<|aA Z<|dW h λd h=>aC (a_ Z Z (aD.fact 0 Z) Z Z d) Z<|aC (bY Z (aD.fact 0 Z) Z Z Z eH d) Z<|aC (DZ Z Z) Z<|aB Z<|eN<|jH<|aO<|aA Z<|cD Z<|aB Z<|aL ?_;exact tV ((max a.1 (at' e.1 a.2)),(wI .i64 (a.2+(1:Int)))) () h SF Z
  refine eS ?_;exact bU (a.1) () h SF .nil (aG.refl _ _)
 intro b j h;unfold tQ at h;refine aR<|aA Z<|aB Z<|aL<|aQ ?_;cases h;exact fW Z
def fH (U:Nat) (a:Bool):Option (Int):=
 if a=true then(some (1:Int))else(some (0:Int))
theorem sA:aV Tryz.prog 199:=Tryz.call199
theorem fT (U:Nat) {a:Bool} (r:Int) (h:fH U a=some r):
  aW Tryz.prog 199 #[vB (a)] [] (λx:Unit=>vI (r)) (λx l=>l) (λ_ l=>l):=by
 refine aW.of Tryz.func199 Z Tryz.ntmps199 Z λc=>?_;refine aR<|aB Z<|aL<|aK<|aR<|aA Z<|aL ?_;refine tT h Z (λ_ h=>?_) λ_ h=>?_
 ·refine aR<|aB Z<|aL<|aQ<|aI ?_;cases h;exact fW Z
 refine cE<|aR<|aB Z<|aL<|aQ ?_;cases h;exact fW Z
def IE (U:Nat) (a:cW) (d:Int) (b:Int) (c:Int):Option (Int):=
 if d=(6:Int)then(some (a.2.length:Int))else(if d=(7:Int)then(Option.bind (nV U ((a.1,a.2))) λh=>(some (h)))else(if d=(8:Int)then(ck (0<=b∧b<(a.1.length:Int)) (some (at' a.1 b)))else(if d=(9:Int)then(ck (0<=b∧b<(a.2.length:Int)) (some ((at' a.2 b).length:Int)))else(if d=(10:Int)then(Option.bind (fH U (decide (b=(0:Int)))) λe=>(some (e)))else(if d=(11:Int)then(some (c))else(ck (0<=b∧b<(a.2.length:Int)) (ck (0<=c∧c<((at' a.2 b).length:Int)) (if d=(13:Int)then(ck (0<=((at' (at' a.2 b) c).1)∧((at' (at' a.2 b) c).1)<(a.1.length:Int)) (some (at' a.1 ((at' (at' a.2 b) c).1))))else(if d=(14:Int)then(ck (0<=((at' (at' a.2 b) c).1)∧((at' (at' a.2 b) c).1)<(a.2.length:Int)) (some ((at' a.2 ((at' (at' a.2 b) c).1)).length:Int)))else(if d=(15:Int)then(Option.bind (fH U (decide (((at' (at' a.2 b) c).1)=(0:Int)))) λf=>(some (f)))else(if d=(16:Int)then(ck (0<=b∧b<(a.2.length:Int)) (ck (0<=c∧c<((at' a.2 b).length:Int)) (some ((at' (at' a.2 b) c).2))))else(Option.bind (vL U ((a.1,a.2)) ((at' (at' a.2 b) c).1) b) λg=>(some (g))))))))))))))
theorem abQ:aV Tryz.prog 198:=Tryz.call198
theorem Qb (U:Nat) {m:cW} {w:Int} {y:Int} {z:Int} (j:Value)  (k:Value)  (u:iX) (r:Int) (h:IE U m w y z=some r):
  aW Tryz.prog 198 #[Value.agg #[j,k],vI (w),vI (y),vI (z)] [Sl bX j m.1,S2 bD k u m.2] (λx:Unit=>vI (r)) (λx l=>l) (λ_ l=>l):=by
 refine aW.of Tryz.func198 Z Tryz.ntmps198 Z λc=>?_;refine aR<|aH (aN.box (cs:=[j,k]) Z Z) Z λF=>aB Z<|aL<|aK<|aR<|aA Z<|aL<|aS<|aR<|bS Z<|aB Z<|aL ?_;refine d_ h Z (λh=>?_) λh=>?_
 ·refine aR<|bN Z<|dL 0 Z<|aC (gM Z (aD.fact 1 Z) Z) Z<|aB Z<|aL<|aQ<|bG<|aI ?_;cases h;exact oA Z
 refine aR<|bS Z<|aB Z<|aL ?_;refine d_ h Z (λh=>?_) λh=>?_
 ·refine aR<|cM 0 Z<|dZ h λA B h=>aH (zBg UI (Eo U j k u A B) Z (jP [0,1] Z)) Z λG=>aB Z<|aL<|aQ<|bG<|aI ?_;cases h;exact oA Z
 refine aR<|bS Z<|aB Z<|aL ?_;refine d_ h Z (λh=>?_) λh=>?_
 ·refine aR<|bN Z<|dL 0 Z<|aA Z<|dW h λv h=>aC (a_ Z Z (aD.fact 0 Z) Z Z v) Z<|aC (bY Z (aD.fact 0 Z) Z Z Z eH v) Z<|aB Z<|aL<|aQ<|bG<|aI ?_;cases h;exact oA Z
 refine aR<|bS Z<|aB Z<|aL ?_;refine d_ h Z (λh=>?_) λh=>?_
 ·refine aR<|bN Z<|dL 0 Z<|aA Z<|dW h λd h=>aC (cY Z Z (aD.fact 1 Z) Z Z d) Z<|aC (cL Z (aD.fact 1 Z) Z Z d) Z<|aC (fX Z (zBi (aD.fact 1 Z) d.1 d.2) Z) Z<|aB Z<|aL<|aQ<|bG<|aI ?_;cases h;exact oA Z
 refine aR<|bS Z<|aB Z<|aL ?_;refine d_ h Z (λh=>?_) λh=>?_
 ·refine aR<|aA Z<|bS Z<|dZ h λn q h=>aH (zBg sA (fT U  n q) Z .nil) Z λC=>aB Z<|aL<|aQ<|bG<|aI ?_;cases h;exact oA Z
 refine aR<|bS Z<|aB Z<|aL ?_;refine d_ h Z (λh=>?_) λh=>?_
 ·refine aR<|aA Z<|aB Z<|aL<|aQ<|bG<|aI ?_;cases h;exact oA Z
 refine dM<|jH<|aR<|bN Z<|dL 0 Z<|aA Z<|dW h λa h=>aC (cY Z Z (aD.fact 1 Z) Z Z a) Z<|aC (cL Z (aD.fact 1 Z) Z Z a) Z<|aA Z<|dW h λf h=>aC (a_ Z Z (zBi (aD.fact 1 Z) a.1 a.2) Z Z f) Z<|aC (dX Z Z Z Z Z) Z<|aC (e_ Z (zBi (aD.fact 1 Z) a.1 a.2) Z Z Z jS f) Z<|aB Z<|aL<|aK<|aR<|aA Z<|aL<|aS<|aR<|bS Z<|aB Z<|aL ?_;refine d_ h Z (λh=>?_) λh=>?_
 ·refine aR<|bN Z<|dL 0 Z<|aA Z<|dW h λg h=>aC (a_ Z Z (aD.fact 0 Z) Z Z g) Z<|aC (bY Z (aD.fact 0 Z) Z Z Z eH g) Z<|aB Z<|aL<|aQ<|bG<|aI ?_;cases h;exact oA Z
 refine aR<|bS Z<|aB Z<|aL ?_;refine d_ h Z (λh=>?_) λh=>?_
 ·refine aR<|bN Z<|dL 0 Z<|aA Z<|dW h λe h=>aC (cY Z Z (aD.fact 1 Z) Z Z e) Z<|aC (cL Z (aD.fact 1 Z) Z Z e) Z<|aC (fX Z (zBi (aD.fact 1 Z) e.1 e.2) Z) Z<|aB Z<|aL<|aQ<|bG<|aI ?_;cases h;exact oA Z
 refine aR<|bS Z<|aB Z<|aL ?_;refine d_ h Z (λh=>?_) λh=>?_
 ·refine aR<|aA Z<|bS Z<|dZ h λo s h=>aH (zBg sA (fT U  o s) Z .nil) Z λD=>aB Z<|aL<|aQ<|bG<|aI ?_;cases h;exact oA Z
 refine aR<|bS Z<|aB Z<|aL ?_;refine d_ h Z (λh=>?_) λh=>?_
 ·refine aR<|bN Z<|dL 0 Z<|aA Z<|dW h λb h=>aC (cY Z Z (aD.fact 1 Z) Z Z b) Z<|aC (cL Z (aD.fact 1 Z) Z Z b) Z<|aA Z<|dW h λi h=>aC (a_ Z Z (zBi (aD.fact 1 Z) b.1 b.2) Z Z i) Z<|aC (dX Z Z Z Z Z) Z<|aC (e_ Z (zBi (aD.fact 1 Z) b.1 b.2) Z Z Z Ez i) Z<|aB Z<|aL<|aQ<|bG<|aI ?_;cases h;exact oA Z
 refine dM<|jH<|aR<|cM 0 Z<|aA Z<|aA Z<|dZ h λp t h=>aH (zBg UH (IZ U j k u p t) Z (jP [0,1] Z)) Z λE=>aB Z<|aL<|aQ ?_;cases h;exact oA Z
def Cj (U:Nat) (c:cW) (e:bO) (b:Int) (d:Int) (a:eL):Option (Int):=
 if a.1=(1:Int)then(some (a.2))else(if a.1=(2:Int)then(some (1:Int))else(if a.1=(3:Int)then(some (0:Int))else(if a.1=(4:Int)then(some (-1:Int))else(if a.1=(5:Int)then(ck (0<=b∧b<(e.length:Int)) (ck (0<=a.2∧a.2<((at' e b).length:Int)) (some (at' (at' e b) a.2))))else(if a.1=(12:Int)then(ck (0<=b∧b<(c.2.length:Int)) (ck (0<=d∧d<((at' c.2 b).length:Int)) (ck (0<=((at' (at' c.2 b) d).1)∧((at' (at' c.2 b) d).1)<(e.length:Int)) (ck (0<=a.2∧a.2<((at' e ((at' (at' c.2 b) d).1)).length:Int)) (some (at' (at' e ((at' (at' c.2 b) d).1)) a.2))))))else(Option.bind (IE U ((c.1,c.2)) a.1 b d) λf=>(some (f))))))))
theorem abD:aV Tryz.prog 163:=Tryz.call163
theorem Qd (U:Nat) {k:cW} {p:bO} {q:Int} {s:Int} {g:eL} (i:Value)  (j:Value)  (u:iX)  (t:Value)  (w:lU) (r:Int) (h:Cj U k p q s g=some r):
  aW Tryz.prog 163 #[Value.agg #[i,j],t,vI (q),vI (s),Value.agg #[vI (g.1),vI (g.2)]] [Sl bX i k.1,S2 bD j u k.2,S2 bX t w p] (λx:Unit=>vI (r)) (λx l=>l) (λ_ l=>l):=by
 refine aW.of Tryz.func163 Z Tryz.ntmps163 Z λc=>?_;refine aR<|aH (aN.box (cs:=[i,j]) Z Z) Z λy=>aH (aN.box (cs:=[vI (g.1),vI (g.2)]) Z Z) Z λA=>aB Z<|aL<|aK<|aR<|bN Z<|dL 0 Z<|aL<|aS<|aR<|bS Z<|aB Z<|aL ?_;refine d_ h Z (λh=>?_) λh=>?_
 ·refine aR<|bN Z<|dL 0 Z<|aB Z<|aL<|aQ<|bG<|aI ?_;cases h;exact oA Z
 refine aR<|bS Z<|aB Z<|aL ?_;refine d_ h Z (λh=>?_) λh=>?_
 ·refine aR<|aB Z<|aL<|aQ<|bG<|aI ?_;cases h;exact oA Z
 refine aR<|bS Z<|aB Z<|aL ?_;refine d_ h Z (λh=>?_) λh=>?_
 ·refine aR<|aB Z<|aL<|aQ<|bG<|aI ?_;cases h;exact oA Z
 refine aR<|bS Z<|aB Z<|aL ?_;refine d_ h Z (λh=>?_) λh=>?_
 ·refine aR<|aB Z<|aL<|aQ<|bG<|aI ?_;cases h;exact oA Z
 refine aR<|bS Z<|aB Z<|aL ?_;refine d_ h Z (λh=>?_) λh=>?_
 ·refine aK ?_;refine JR.start [0,0,3,7,0,16,63,127,255] 6 mixedOrders (by decide +kernel) ?_;refine zBj (by exact rfl) ?_;refine aY Z<|aY Z<|dW h λd h=>bM Z .nil (kH 2 Z) (cY Z Z (aD.fact 0 Z) Z Z d) aU.z<|bM Z .nil (kH 2 Z) (cL Z (aD.fact 0 Z) Z Z d) aU.z<|cB Z<|fD 0 Z<|bP 6 Z Z<|dW h λo h=>aC (a_ Z Z (zBi (aD.fact 2 Z) d.1 d.2) Z Z o) Z<|aC (bY Z (zBi (aD.fact 2 Z) d.1 d.2) Z Z Z eH o) Z<|aB Z<|aL<|aQ<|bG<|aI ?_;cases h;exact oA Z
 refine aR<|bS Z<|aB Z<|aL ?_;refine d_ h Z (λh=>?_) λh=>?_
 ·refine aK ?_;refine JR.start [0,0,2,0,14,30,0,126,254,510,1023,2047,0,4096,16383,32767,65535] 14 mixedOrders (by decide +kernel) ?_;refine zBj (by exact rfl) ?_;refine aY Z<|cB Z<|fD 1 Z<|aY Z<|dW h λa h=>bM Z .nil (kH 1 Z) (cY Z Z (aD.fact 0 Z) Z Z a) aU.z<|bM Z .nil (kH 1 Z) (cL Z (aD.fact 0 Z) Z Z a) aU.z<|aY Z<|dW h λe h=>bM Z .nil (kH 1 Z) (a_ Z Z (zBi (aD.fact 0 Z) a.1 a.2) Z Z e) aU.z<|iY Z (dX Z Z Z Z Z)<|bM Z .nil (kH 1 Z) (e_ Z (zBi (aD.fact 0 Z) a.1 a.2) Z Z Z jS e) aU.z<|dW h λb h=>bM Z .nil (kH 2 Z) (cY Z Z (aD.fact 0 Z) Z Z b) aU.z<|bM Z .nil (kH 2 Z) (cL Z (aD.fact 0 Z) Z Z b) aU.z<|cB Z<|fD 0 Z<|bP 14 Z Z<|dW h λf h=>aC (a_ Z Z (zBi (aD.fact 2 Z) b.1 b.2) Z Z f) Z<|aC (bY Z (zBi (aD.fact 2 Z) b.1 b.2) Z Z Z eH f) Z<|aB Z<|aL<|aQ<|bG<|aI ?_;cases h;exact oA Z
 refine dM<|jH<|aR<|cM 1 Z<|bN Z<|dL 0 Z<|aA Z<|aA Z<|dZ h λm n h=>aH (zBg abQ (Qb U i j u m n) Z (jP [0,1] Z)) Z λv=>aB Z<|aL<|aQ ?_;cases h;exact oA Z
def sF  (a:Bool):Option Bool:=
 some (a)
def tM (U:Nat) (a:Int):Option Bool:=
 if(20:Int)<=a then(sF  (decide (a<=(29:Int))))else(sF  (false))
theorem abE:aV Tryz.prog 164:=Tryz.call164
theorem I_ (U:Nat) {b:Int} (r:Bool) (h:tM U b=some r):
  aW Tryz.prog 164 #[vI (b)] [] (λx:Unit=>vB (r)) (λx l=>l) (λ_ l=>l):=by
 refine aW.of Tryz.func164 Z Tryz.ntmps164 Z λc=>?_;refine aR<|aB Z<|aL<|aK<|dK (λa=>sF  a=some r) (λa d=>[(2,vB (a))]) (λa d=>[]) ?_ ?_
 ·refine aO<|aA Z<|aC (wC Z Z) Z<|aA Z ?_;refine wN h Z (λ_ h=>?_) λ_ h=>?_
  ·refine bZ Z<|aM Z (uF Z Z) Z<|dA Z<|aB Z<|aL ?_;exact eW (decide (b<=(29:Int))) () h SF Z
  refine aE Z<|aE Z<|c_ Z<|aB Z<|aL ?_;exact eW (false) () h SF Z
 intro a d h;unfold sF at h;refine aQ ?_;cases h;exact fW Z
def nW (U:Nat) (a:Int):Option (Int):=
 some (min (max a (-1073741824:Int)) (1073741824:Int))
theorem UQ:aV Tryz.prog 200:=Tryz.call200
theorem Ep (U:Nat) {a:Int} (r:Int) (h:nW U a=some r):
  aW Tryz.prog 200 #[vI (a)] [] (λx:Unit=>vI (r)) (λx l=>l) (λ_ l=>l):=by
 refine aW.of Tryz.func200 Z Tryz.ntmps200 Z λc=>?_;unfold nW at h;refine aR<|aB Z<|aL<|aR<|aA Z<|aC (DZ Z Z) Z<|aC (NN Z Z) Z<|aB Z<|aL<|aQ ?_;cases h;exact fW Z
def yC  (a:Unit):Option Bool:=
 some (false)
def pO (c:aX) (d:Int) (a:Int) (b:(Int)->Option Bool):Option Bool:=
 if a<(c.length:Int)then(ck (0<=a∧a<(c.length:Int)) (if(at' c a)=d then(some (true))else(b (wI .i64 (a+(1:Int))))))else(yC  (()))
def uK (U:Nat) (a:aX) (b:Int):Option Bool:=
 bK (pO a b) U (0:Int)
theorem abR:aV Tryz.prog 201:=Tryz.call201
theorem MC (U:Nat) {e:aX} {d:Int} (f:Value) (r:Bool) (h:uK U e d=some r):
  aW Tryz.prog 201 #[f,vI (d)] [Sl bX f e] (λx:Unit=>vB (r)) (λx l=>l) (λ_ l=>l):=by
 refine aW.of Tryz.func201 Z Tryz.ntmps201 Z λc=>?_;unfold uK at h;refine aR<|aB Z<|aL<|aK<|dK (λa=>yC  a=some r) (λa g=>[]) (λa g=>[]) ?_ ?_
 ·refine aR<|aB Z<|aL<|aS<|eB (pO e d) (λb i=>[(0,f),(1,vI (d)),(5,vI (b))]) (λb i=>[]) (0:Int) () h SF (bA.refl _) ?_;intro k b i h;refine aK<|aR<|aA Z<|aA Z<|iF (aD.fact 0 Z) Z<|cZ Z<|aL ?_;refine d_ h Z (λh=>?_) λh=>?_
  ·refine cE<|aK<|aS<|aR<|aA Z<|aA Z<|dW h λj h=>aC (a_ Z Z (aD.fact 0 Z) Z Z j) Z<|aC (bY Z (aD.fact 0 Z) Z Z Z eH j) Z<|aA Z<|bS Z<|aL ?_;refine d_ h Z (λh=>?_) λh=>?_
   ·refine aR<|aB Z<|aL<|aQ<|bG<|aI<|aI<|bG<|aI ?_;cases h;exact fW Z
   refine dM<|jH<|aO<|aA Z<|cD Z<|aB Z<|aL ?_;exact tV (wI .i64 (b+(1:Int))) () h SF Z
  refine eS ?_;exact eW () (()) h SF Z
 intro a g h;unfold yC at h;refine aR<|aB Z<|aL<|aQ ?_;cases h;exact fW Z
def Bi  (a:Int):Option (Int):=
 some (a)
def xH (U:Nat) (d:aX) (a:Int) (b:(Int)->Option (Int)):Option (Int):=
 Option.bind (uK U d a) λc=>(if c=true then(b (wI .i64 (a+(1:Int))))else(Bi  (a)))
def xG (U:Nat) (a:Int) (c:aX) (b:Int×Int×Int×Int×Int×Int):Option (Int):=
 if a=(20:Int)then(Option.bind (fH U (decide (b.1=(c.length:Int)))) λd=>(some (d)))else(if a=(21:Int)then(Option.bind (fH U (decide ((0:Int)<b.1))) λe=>(some (e)))else(if a=(22:Int)then(some (b.1))else(if a=(23:Int)then(some (b.2.1))else(if a=(24:Int)then(some (b.2.2.1))else(if a=(25:Int)then(some (b.2.2.2.1))else(if a=(26:Int)then(Option.bind (nW U b.2.2.2.2.2) λf=>(some (f)))else(if a=(28:Int)then(some (b.2.2.2.2.1))else(if a=(27:Int)then(bK (xH U c) U (0:Int))else(if(c.length:Int)=(0:Int)then(some (0:Int))else(ck (0<=(0:Int)∧(0:Int)<(c.length:Int)) (some (at' c (0:Int)))))))))))))
def Bl (b:aX) (a:Sq) (c:VT->Option (Int)) (d:Int) (e:Int):Option (Int):=
 ck (0<=a.2.2.2.2.2.2∧a.2.2.2.2.2.2<(b.length:Int)) (ck (0<=a.2.2.2.2.2.2∧a.2.2.2.2.2.2<(b.length:Int)) (ck (0<=a.2.2.2.2.2.2∧a.2.2.2.2.2.2<(b.length:Int)) (ck (0<=a.2.2.2.2.2.2∧a.2.2.2.2.2.2<(b.length:Int)) (c (d,e,(min a.2.2.1 (at' b a.2.2.2.2.2.2)),(max a.2.2.2.1 (at' b a.2.2.2.2.2.2)),(max a.2.2.2.2.1 (min a.2.2.2.1 (at' b a.2.2.2.2.2.2))),(wI .i64 (a.2.2.2.2.2.1+(at' b a.2.2.2.2.2.2))),(wI .i64 (a.2.2.2.2.2.2+(1:Int))))))))
def Bm (e:aX) (a:Sq) (b:VT->Option (Int)) (c:Int) (d:Bool):Option (Int):=
 if d=true then(Bl e a b c (a.2.2.2.2.2.2))else(Bl e a b c (a.2.1))
def Bj (d:aX) (a:Sq) (b:VT->Option (Int)) (c:Int):Option (Int):=
 ck (0<=a.2.2.2.2.2.2∧a.2.2.2.2.2.2<(d.length:Int)) (if(at' d a.2.2.2.2.2.2)≠(0:Int)then(Bm d a b c (decide (a.2.1<(0:Int))))else(Bm d a b c (false)))
def nQ (U:Nat) (d:Int) (c:aX) (a:Sq) (b:VT->Option (Int)):Option (Int):=
 if a.2.2.2.2.2.2<(c.length:Int)then(ck (0<=a.2.2.2.2.2.2∧a.2.2.2.2.2.2<(c.length:Int)) (if(at' c a.2.2.2.2.2.2)≠(0:Int)then(Bj c a b (wI .i64 (a.1+(1:Int))))else(Bj c a b (a.1))))else(xG U d c (a.1,a.2.1,a.2.2.1,a.2.2.2.1,a.2.2.2.2.1,a.2.2.2.2.2.1))
def sE (U:Nat) (a:Int) (b:aX):Option (Int):=
 bK (nQ U a b) U ((0:Int),(-1:Int),(1073741824:Int),(-1073741824:Int),(-1073741824:Int),(0:Int),(0:Int))
theorem abF:aV Tryz.prog 165:=Tryz.call165
theorem Qc (U:Nat) {f:Int} {d:aX} (m:Value) (r:Int) (h:sE U f d=some r):
  aW Tryz.prog 165 #[vI (f),m] [Sl bX m d] (λx:Unit=>vI (r)) (λx l=>l) (λ_ l=>l):=by
 refine aW.of Tryz.func165 Z Tryz.ntmps165 Z λc=>?_;unfold sE at h;refine aR<|aB Z<|aL<|aR<|aB Z<|aB Z<|aB Z<|aB Z<|aB Z<|aB Z<|aL<|aK<|dK (λk=>xG U f d k=some r) (λk L=>[(0,vI (f)),(1,m),(5,vI (k.1)),(6,vI (k.2.1)),(7,vI (k.2.2.1)),(8,vI (k.2.2.2.1)),(9,vI (k.2.2.2.2.1)),(10,vI (k.2.2.2.2.2))]) (λk L=>[]) ?_ ?_
 ·refine aR<|aB Z<|aL<|aS<|eB (nQ U f d) (λa q=>[(0,vI (f)),(1,m),(5,vI (a.1)),(6,vI (a.2.1)),(7,vI (a.2.2.1)),(8,vI (a.2.2.2.1)),(9,vI (a.2.2.2.2.1)),(10,vI (a.2.2.2.2.2.1)),(11,vI (a.2.2.2.2.2.2))]) (λa q=>[]) ((0:Int),(-1:Int),(1073741824:Int),(-1073741824:Int),(-1073741824:Int),(0:Int),(0:Int)) () h SF (bA.refl _) ?_;intro n a q h;refine aK<|aR<|aA Z<|aA Z<|iF (aD.fact 0 Z) Z<|cZ Z<|aL ?_;refine d_ h Z (λh=>?_) λh=>?_
  ·refine cE<|aK<|aS<|aK<|dK (λb=>Bj d a (bK (nQ U f d) n) b=some r) (λb s=>[(0,vI (f)),(1,m),(5,vI (b)),(6,vI (a.2.1)),(7,vI (a.2.2.1)),(8,vI (a.2.2.2.1)),(9,vI (a.2.2.2.2.1)),(10,vI (a.2.2.2.2.2.1)),(11,vI (a.2.2.2.2.2.2))]) (λb s=>[]) ?_ ?_
   ·refine aR<|aA Z<|aA Z<|dW h λC h=>aC (a_ Z Z (aD.fact 0 Z) Z Z C) Z<|aC (bY Z (aD.fact 0 Z) Z Z Z eH C) Z<|jQ Z<|aL ?_;refine d_ h Z (λh=>?_) λh=>?_
    ·refine aO<|aA Z<|cD Z<|aB Z<|aL ?_;exact eW (wI .i64 (a.1+(1:Int))) () h SF Z
    refine cE ?_;exact eW (a.1) () h SF Z
   intro b s h;refine aK<|dK (λe=>Bl d a (bK (nQ U f d) n) b e=some r) (λe t=>[(0,vI (f)),(1,m),(5,vI (b)),(6,vI (e)),(7,vI (a.2.2.1)),(8,vI (a.2.2.2.1)),(9,vI (a.2.2.2.2.1)),(10,vI (a.2.2.2.2.2.1)),(11,vI (a.2.2.2.2.2.2))]) (λe t=>[]) ?_ ?_
   ·refine aK<|dK (λj=>Bm d a (bK (nQ U f d) n) b j=some r) (λj u=>[(0,vI (f)),(1,m),(5,vI (b)),(6,vI (a.2.1)),(7,vI (a.2.2.1)),(8,vI (a.2.2.2.1)),(9,vI (a.2.2.2.2.1)),(10,vI (a.2.2.2.2.2.1)),(11,vI (a.2.2.2.2.2.2)),(34,vB (j))]) (λj u=>[]) ?_ ?_
    ·refine aO<|aA Z<|aA Z<|dW h λB h=>aC (a_ Z Z (aD.fact 0 Z) Z Z B) Z<|aC (bY Z (aD.fact 0 Z) Z Z Z eH B) Z<|jQ Z<|aA Z ?_;refine wN h Z (λ_ h=>?_) λ_ h=>?_
     ·refine bZ Z<|aM Z (BD Z Z) Z<|dA Z<|aL ?_;exact eW (decide (a.2.1<(0:Int))) () h SF Z
     refine aE Z<|aE Z<|c_ Z<|aL ?_;exact eW (false) () h SF Z
    intro j u h;refine tT h Z (λ_ h=>?_) λ_ h=>?_
    ·refine aO<|aA Z<|aB Z<|aL ?_;exact eW (a.2.2.2.2.2.2) () h SF Z
    refine cE ?_;exact eW (a.2.1) () h SF Z
   intro e t h;refine aR<|aA Z<|aA Z<|aA Z<|dW h λw h=>aC (a_ Z Z (aD.fact 0 Z) Z Z w) Z<|aC (bY Z (aD.fact 0 Z) Z Z Z eH w) Z<|aC (NN Z Z) Z<|aB Z<|aL<|aR<|aA Z<|aA Z<|aA Z<|aA Z<|dW h λy h=>aC (a_ Z Z (aD.fact 0 Z) Z Z y) Z<|aC (bY Z (aD.fact 0 Z) Z Z Z eH y) Z<|aC (NN Z Z) Z<|aC (DZ Z Z) Z<|aB Z<|aL<|aR<|aA Z<|aA Z<|aA Z<|dW h λz h=>aC (a_ Z Z (aD.fact 0 Z) Z Z z) Z<|aC (bY Z (aD.fact 0 Z) Z Z Z eH z) Z<|aC (DZ Z Z) Z<|aB Z<|aL<|aO<|aA Z<|aA Z<|aA Z<|dW h λA h=>aC (a_ Z Z (aD.fact 0 Z) Z Z A) Z<|aC (bY Z (aD.fact 0 Z) Z Z Z eH A) Z<|cD Z<|aB Z<|eN<|jH<|aO<|aA Z<|cD Z<|aB Z<|aL ?_;exact tV (b,e,(min a.2.2.1 (at' d a.2.2.2.2.2.2)),(max a.2.2.2.1 (at' d a.2.2.2.2.2.2)),(max a.2.2.2.2.1 (min a.2.2.2.1 (at' d a.2.2.2.2.2.2))),(wI .i64 (a.2.2.2.2.2.1+(at' d a.2.2.2.2.2.2))),(wI .i64 (a.2.2.2.2.2.2+(1:Int)))) () h SF Z
  refine eS ?_;exact eW (a.1,a.2.1,a.2.2.1,a.2.2.2.1,a.2.2.2.2.1,a.2.2.2.2.2.1) () h SF Z
 intro k L h;refine aK<|aR<|aA Z<|aL<|aS<|aR<|bS Z<|aB Z<|aL ?_;refine d_ h Z (λh=>?_) λh=>?_
 ·refine aR<|aA Z<|aA Z<|iF (aD.fact 0 Z) Z<|bS Z<|dZ h λD H h=>aH (zBg sA (fT U  D H) Z .nil) Z λN=>aB Z<|aL<|aQ<|bG<|aI ?_;cases h;exact fW Z
 refine aR<|bS Z<|aB Z<|aL ?_;refine d_ h Z (λh=>?_) λh=>?_
 ·refine aR<|aA Z<|aC (uE Z Z) Z<|dZ h λE I h=>aH (zBg sA (fT U  E I) Z .nil) Z λO=>aB Z<|aL<|aQ<|bG<|aI ?_;cases h;exact fW Z
 refine aR<|bS Z<|aB Z<|aL ?_;refine d_ h Z (λh=>?_) λh=>?_
 ·refine aR<|aA Z<|aB Z<|aL<|aQ<|bG<|aI ?_;cases h;exact fW Z
 refine aR<|bS Z<|aB Z<|aL ?_;refine d_ h Z (λh=>?_) λh=>?_
 ·refine aR<|aA Z<|aB Z<|aL<|aQ<|bG<|aI ?_;cases h;exact fW Z
 refine aR<|bS Z<|aB Z<|aL ?_;refine d_ h Z (λh=>?_) λh=>?_
 ·refine aR<|aA Z<|aB Z<|aL<|aQ<|bG<|aI ?_;cases h;exact fW Z
 refine aR<|bS Z<|aB Z<|aL ?_;refine d_ h Z (λh=>?_) λh=>?_
 ·refine aR<|aA Z<|aB Z<|aL<|aQ<|bG<|aI ?_;cases h;exact fW Z
 refine aR<|bS Z<|aB Z<|aL ?_;refine d_ h Z (λh=>?_) λh=>?_
 ·refine aR<|aA Z<|dZ h λF J h=>aH (zBg UQ (Ep U  F J) Z .nil) Z λP=>aB Z<|aL<|aQ<|bG<|aI ?_;cases h;exact fW Z
 refine aR<|bS Z<|aB Z<|aL ?_;refine d_ h Z (λh=>?_) λh=>?_
 ·refine aR<|aA Z<|aB Z<|aL<|aQ<|bG<|aI ?_;cases h;exact fW Z
 refine aR<|bS Z<|aB Z<|aL ?_;refine d_ h Z (λh=>?_) λh=>?_
 ·refine aR<|aB Z<|aL<|aK<|dK (λg=>Bi  g=some r) (λg o=>[(12,vI (g))]) (λg o=>[]) ?_ ?_
  ·refine aS<|eB (xH U d) (λi p=>[(1,m),(12,vI (i))]) (λi p=>[]) (0:Int) () h SF (bA.refl _) ?_;intro M i p h;refine aK<|aR<|aA Z<|aA Z<|dZ h λG K h=>aH (zBg abR (MC U m G K) Z (jP [0] Z)) Z λQ=>aL ?_;refine tT h Z (λ_ h=>?_) λ_ h=>?_
   ·refine cE<|aS<|aO<|aA Z<|cD Z<|aB Z<|eN<|jH ?_;exact tV (wI .i64 (i+(1:Int))) () h SF Z
   refine eS ?_;exact eW (i) () h SF Z
  intro g o h;unfold Bi at h;refine aR<|aA Z<|aB Z<|aL<|aQ<|bG<|aI ?_;cases h;exact fW Z
 refine dM<|jH<|aK<|aR<|aA Z<|iF (aD.fact 0 Z) Z<|bS Z<|aL ?_;refine d_ h Z (λh=>?_) λh=>?_
 ·refine aR<|aB Z<|aL<|aQ<|aI ?_;cases h;exact fW Z
 refine cE<|aR<|aA Z<|dW h λv h=>aC (a_ Z Z (aD.fact 0 Z) Z Z v) Z<|aC (bY Z (aD.fact 0 Z) Z Z Z eH v) Z<|aB Z<|aL<|aQ ?_;cases h;exact fW Z
def sR  (a:Bool):Option Bool:=
 some (a)
def oO (U:Nat) (a:Int):Option Bool:=
 if(-1073741824:Int)<=a then(sR  (decide (a<=(1073741824:Int))))else(sR  (false))
theorem KJ:aV Tryz.prog 202:=Tryz.call202
theorem As (U:Nat) {b:Int} (r:Bool) (h:oO U b=some r):
  aW Tryz.prog 202 #[vI (b)] [] (λx:Unit=>vB (r)) (λx l=>l) (λ_ l=>l):=by
 refine aW.of Tryz.func202 Z Tryz.ntmps202 Z λc=>?_;refine aR<|aB Z<|aL<|aK<|dK (λa=>sR  a=some r) (λa d=>[(2,vB (a))]) (λa d=>[]) ?_ ?_
 ·refine aO<|aA Z<|aC (wC Z Z) Z<|aA Z ?_;refine wN h Z (λ_ h=>?_) λ_ h=>?_
  ·refine bZ Z<|aM Z (uF Z Z) Z<|dA Z<|aB Z<|aL ?_;exact eW (decide (b<=(1073741824:Int))) () h SF Z
  refine aE Z<|aE Z<|c_ Z<|aB Z<|aL ?_;exact eW (false) () h SF Z
 intro a d h;unfold sR at h;refine aQ ?_;cases h;exact fW Z
def uU (U:Nat) (c:Int) (a:Int) (b:Bool):Option gC:=
 if b=true then(some ((0:Int),(2:Int)))else(if c=(18:Int)then(some ((wI .i64 (0 - a)),(0:Int)))else(Option.bind (fH U (decide (a=(0:Int)))) λd=>(some (d,(0:Int)))))
def DC (U:Nat) (a:Int) (b:Int):Option gC:=
 if a≠(18:Int)then(if a≠(19:Int)then(uU U a b (true))else(Option.bind (oO U b) λc=>(uU U a b ((!c)))))else(Option.bind (oO U b) λd=>(uU U a b ((!d))))
theorem abG:aV Tryz.prog 166:=Tryz.call166
theorem Ns (U:Nat) {e:Int} {f:Int} (r:eL) (h:DC U e f=some r):
  aW Tryz.prog 166 #[vI (e),vI (f)] [] (λx:Unit=>Value.tuple #[vI (r.1),vI (r.2)]) (λx l=>l) (λ_ l=>l):=by
 refine aW.of Tryz.func166 Z Tryz.ntmps166 Z λc=>?_;refine aR<|aB Z<|aB Z<|aL<|aK<|aK<|dK (λa=>uU U e f a=some r) (λa j=>[(0,vI (e)),(1,vI (f)),(16,vB (a))]) (λa j=>[]) ?_ ?_
 ·refine aO<|aA Z<|jQ Z<|aA Z ?_;refine wN h Z (λ_ h=>?_) λ_ h=>?_
  ·refine bZ Z<|aM Z (Dd Z Z) Z<|dA Z<|aA Z ?_;refine wN h Z (λ_ h=>?_) λ_ h=>?_
   ·refine aE Z<|aE Z<|aE Z<|dA Z<|aL ?_;exact eW (true) () h SF Z
   refine bZ Z<|dZ h λb g h=>kJ Z (zBg KJ (As U  b g) Z .nil) Z λn=>aM Z (lV Z) Z<|c_ Z<|aL ?_;exact eW ((!b)) () h SF Z
  refine aE Z<|aE Z<|c_ Z<|aA Z<|bZ Z<|dZ h λd i h=>kJ Z (zBg KJ (As U  d i) Z .nil) Z λo=>aM Z (lV Z) Z<|c_ Z<|aL ?_;exact eW ((!d)) () h SF Z
 intro a j h;refine tT h Z (λ_ h=>?_) λ_ h=>?_
 ·refine aR<|aB Z<|aB Z<|aL<|aQ<|aI ?_;cases h;exact eD () Z Z (RV.tmp Z) (RV.tmp Z) (bA.refl _) aG.nil
 refine cE<|aK<|aR<|aA Z<|bS Z<|aL ?_;refine d_ h Z (λh=>?_) λh=>?_
 ·refine aR<|aA Z<|aC (QY Z) Z<|aB Z<|aB Z<|aL<|aQ<|aI ?_;cases h;exact eD () Z Z (RV.tmp Z) (RV.tmp Z) (bA.refl _) aG.nil
 refine cE<|aR<|aA Z<|bS Z<|dZ h λk m h=>aH (zBg sA (fT U  k m) Z .nil) Z λp=>aB Z<|aB Z<|aL<|aQ ?_;cases h;exact eD () Z Z (RV.tmp Z) (RV.tmp Z) (bA.refl _) aG.nil
def tS  (a:Int):Option (Int):=
 some (a)
def Aj (a:Int) (b:Int) (c:Bool):Option (Int):=
 if c=true then(tS  (wI .i64 ((wI .i64 (Int.tdiv a b)) - (1:Int))))else(tS  (wI .i64 (Int.tdiv a b)))
def AU (U:Nat) (b:Int) (a:Int):Option (Int):=
 if a=(0:Int)then(some (0:Int))else(ck (a≠0) (ck (a≠0) (if(Int.tmod b a)≠(0:Int)then(Aj b a (((decide (b<(0:Int))) != (decide (a<(0:Int))))))else(Aj b a (false)))))
theorem UT:aV Tryz.prog 230:=Tryz.call230
theorem Er (U:Nat) {a:Int} {b:Int} (r:Int) (h:AU U a b=some r):
  aW Tryz.prog 230 #[vI (a),vI (b)] [] (λx:Unit=>vI (r)) (λx l=>l) (λ_ l=>l):=by
 refine aW.of Tryz.func230 Z Tryz.ntmps230 Z λc=>?_;refine aR<|aB Z<|aL<|aK<|aR<|aA Z<|bS Z<|aL ?_;refine d_ h Z (λh=>?_) λh=>?_
 ·refine aR<|aB Z<|aL<|aQ<|aI ?_;cases h;exact fW Z
 refine cE<|aR<|aA Z<|aA Z<|dW h λj h=>aC (Tp Z Z j) Z<|aB Z<|aL<|aK<|dK (λd=>tS  d=some r) (λd g=>[(5,vI (d))]) (λd g=>[]) ?_ ?_
 ·refine aK<|dK (λe=>Aj a b e=some r) (λe i=>[(5,vI (wI .i64 (Int.tdiv a b))),(21,vB (e))]) (λe i=>[]) ?_ ?_
  ·refine aO<|aA Z<|aA Z<|dW h λf h=>aC (NO Z Z f) Z<|jQ Z<|aA Z ?_;refine wN h Z (λ_ h=>?_) λ_ h=>?_
   ·refine bZ Z<|aM Z (BD Z Z) Z<|bZ Z<|aM Z (BD Z Z) Z<|aM Z (Yd Z Z Z) Z<|dA Z<|aL ?_;exact eW (((decide (a<(0:Int))) != (decide (b<(0:Int))))) () h SF Z
   refine aE Z<|aE Z<|aE Z<|aE Z<|aE Z<|c_ Z<|aL ?_;exact eW (false) () h SF Z
  intro e i h;refine tT h Z (λ_ h=>?_) λ_ h=>?_
  ·refine aO<|aA Z<|aC (lO Z Z) Z<|aB Z<|aL ?_;exact eW (wI .i64 ((wI .i64 (Int.tdiv a b)) - (1:Int))) () h SF Z
  refine cE ?_;exact eW (wI .i64 (Int.tdiv a b)) () h SF Z
 intro d g h;unfold tS at h;refine aR<|aA Z<|aB Z<|aL<|aQ ?_;cases h;exact fW Z
def Ah  (a:Int):Option (Int):=
 some (a)
def Ai  (a:Int):Option (Int):=
 some (a)
def qH (U:Nat) (c:Int) (b:Int) (a:Int):Option (Int):=
 if c=(30:Int)then(some (wI .i64 (b*a)))else(if c=(31:Int)then(Option.bind (AU U b a) λn=>(some (n)))else(if c=(32:Int)then(if a=(0:Int)then(some (0:Int))else(Option.bind (AU U b a) λo=>(some (wI .i64 (b - (wI .i64 (a*o)))))))else(if c=(33:Int)then(some (wI .i64 (b+a)))else(if c=(34:Int)then(some (wI .i64 (b - a)))else(if c=(35:Int)then(Option.bind (fH U (decide (b=a))) λd=>(some (d)))else(if c=(36:Int)then(Option.bind (fH U (decide (b≠a))) λe=>(some (e)))else(if c=(37:Int)then(Option.bind (fH U (decide (b<a))) λf=>(some (f)))else(if c=(38:Int)then(Option.bind (fH U (decide (b<=a))) λg=>(some (g)))else(if c=(39:Int)then(Option.bind (fH U (decide (a<b))) λh=>(some (h)))else(if c=(40:Int)then(Option.bind (fH U (decide (a<=b))) λi=>(some (i)))else(if c=(41:Int)then(if b≠(0:Int)then(Option.bind (fH U (decide (a≠(0:Int)))) λj=>(Ah  (j)))else(Option.bind (fH U false) λk=>(Ah  (k))))else(if b≠(0:Int)then(Option.bind (fH U true) λl=>(Ai  (l)))else(Option.bind (fH U (decide (a≠(0:Int)))) λm=>(Ai  (m)))))))))))))))
theorem abS:aV Tryz.prog 203:=Tryz.call203
theorem Nt (U:Nat) {D:Int} {E:Int} {F:Int} (r:Int) (h:qH U D E F=some r):
  aW Tryz.prog 203 #[vI (D),vI (E),vI (F)] [] (λx:Unit=>vI (r)) (λx l=>l) (λ_ l=>l):=by
 refine aW.of Tryz.func203 Z Tryz.ntmps203 Z λc=>?_;refine aR<|aB Z<|aL<|aK<|aR<|aA Z<|aL<|aS<|aR<|bS Z<|aB Z<|aL ?_;refine d_ h Z (λh=>?_) λh=>?_
 ·refine aR<|aA Z<|aA Z<|aC (zH Z Z) Z<|aB Z<|aL<|aQ<|bG<|aI ?_;cases h;exact fW Z
 refine aR<|bS Z<|aB Z<|aL ?_;refine d_ h Z (λh=>?_) λh=>?_
 ·refine aR<|aA Z<|aA Z<|dZ h λG I h=>aH (zBg UT (Er U  G I) Z .nil) Z λW=>aB Z<|aL<|aQ<|bG<|aI ?_;cases h;exact fW Z
 refine aR<|bS Z<|aB Z<|aL ?_;refine d_ h Z (λh=>?_) λh=>?_
 ·refine aK<|aR<|aA Z<|bS Z<|aL ?_;refine d_ h Z (λh=>?_) λh=>?_
  ·refine aR<|aB Z<|aL<|aQ<|aI<|bG<|aI ?_;cases h;exact fW Z
  refine cE<|aR<|aA Z<|aA Z<|aA Z<|aA Z<|dZ h λH J h=>aH (zBg UT (Er U  H J) Z .nil) Z λK=>aC (zH Z Z) Z<|aC (lO Z Z) Z<|aB Z<|aL<|aQ<|bG<|aI ?_;cases h;exact fW Z
 refine aR<|bS Z<|aB Z<|aL ?_;refine d_ h Z (λh=>?_) λh=>?_
 ·refine aR<|aA Z<|aA Z<|cD Z<|aB Z<|aL<|aQ<|bG<|aI ?_;cases h;exact fW Z
 refine aR<|bS Z<|aB Z<|aL ?_;refine d_ h Z (λh=>?_) λh=>?_
 ·refine aR<|aA Z<|aA Z<|aC (lO Z Z) Z<|aB Z<|aL<|aQ<|bG<|aI ?_;cases h;exact fW Z
 refine aR<|bS Z<|aB Z<|aL ?_;refine d_ h Z (λh=>?_) λh=>?_
 ·refine aR<|aA Z<|aA Z<|bS Z<|dZ h λk s h=>aH (zBg sA (fT U  k s) Z .nil) Z λL=>aB Z<|aL<|aQ<|bG<|aI ?_;cases h;exact fW Z
 refine aR<|bS Z<|aB Z<|aL ?_;refine d_ h Z (λh=>?_) λh=>?_
 ·refine aR<|aA Z<|aA Z<|jQ Z<|dZ h λm t h=>aH (zBg sA (fT U  m t) Z .nil) Z λM=>aB Z<|aL<|aQ<|bG<|aI ?_;cases h;exact fW Z
 refine aR<|bS Z<|aB Z<|aL ?_;refine d_ h Z (λh=>?_) λh=>?_
 ·refine aR<|aA Z<|aA Z<|cZ Z<|dZ h λn u h=>aH (zBg sA (fT U  n u) Z .nil) Z λN=>aB Z<|aL<|aQ<|bG<|aI ?_;cases h;exact fW Z
 refine aR<|bS Z<|aB Z<|aL ?_;refine d_ h Z (λh=>?_) λh=>?_
 ·refine aR<|aA Z<|aA Z<|aC (uF Z Z) Z<|dZ h λo v h=>aH (zBg sA (fT U  o v) Z .nil) Z λO=>aB Z<|aL<|aQ<|bG<|aI ?_;cases h;exact fW Z
 refine aR<|bS Z<|aB Z<|aL ?_;refine d_ h Z (λh=>?_) λh=>?_
 ·refine aR<|aA Z<|aA Z<|aC (uE Z Z) Z<|dZ h λp w h=>aH (zBg sA (fT U  p w) Z .nil) Z λP=>aB Z<|aL<|aQ<|bG<|aI ?_;cases h;exact fW Z
 refine aR<|bS Z<|aB Z<|aL ?_;refine d_ h Z (λh=>?_) λh=>?_
 ·refine aR<|aA Z<|aA Z<|aC (wC Z Z) Z<|dZ h λq y h=>aH (zBg sA (fT U  q y) Z .nil) Z λQ=>aB Z<|aL<|aQ<|bG<|aI ?_;cases h;exact fW Z
 refine aR<|bS Z<|aB Z<|aL ?_;refine d_ h Z (λh=>?_) λh=>?_
 ·refine aK<|dK (λa=>Ah  a=some r) (λa d=>[(6,vI (a))]) (λa d=>[]) ?_ ?_
  ·refine aO<|aA Z<|jQ Z<|aA Z ?_;refine wN h Z (λ_ h=>?_) λ_ h=>?_
   ·refine bZ Z<|aM Z (Dd Z Z) Z<|dA Z<|dZ h λf z h=>aH (zBg sA (fT U  f z) Z .nil) Z λR=>aB Z<|aL ?_;exact eW (f) () h SF Z
   refine aE Z<|aE Z<|c_ Z<|dZ h λg A h=>aH (zBg sA (fT U  g A) Z .nil) Z λS=>aB Z<|aL ?_;exact eW (g) () h SF Z
  intro a d h;unfold Ah at h;refine aQ<|bG<|aI ?_;cases h;exact fW Z
 refine dM<|jH<|aK<|dK (λb=>Ai  b=some r) (λb e=>[(6,vI (b))]) (λb e=>[]) ?_ ?_
 ·refine aO<|aA Z<|jQ Z<|aA Z ?_;refine wN h Z (λ_ h=>?_) λ_ h=>?_
  ·refine aE Z<|aE Z<|dA Z<|dZ h λi B h=>aH (zBg sA (fT U  i B) Z .nil) Z λT=>aB Z<|aL ?_;exact eW (i) () h SF Z
  refine bZ Z<|aM Z (Dd Z Z) Z<|c_ Z<|dZ h λj C h=>aH (zBg sA (fT U  j C) Z .nil) Z λV=>aB Z<|aL ?_;exact eW (j) () h SF Z
 intro b e h;unfold Ai at h;refine aQ ?_;cases h;exact fW Z
def pN (U:Nat) (b:Int) (c:Int) (d:Int) (a:Bool):Option gC:=
 if a=true then(some ((0:Int),(2:Int)))else(Option.bind (qH U b c d) λe=>(Option.bind (nW U e) λf=>(some (f,(0:Int)))))
def CK (U:Nat) (a:Int) (b:Int) (c:Int):Option gC:=
 if a<(30:Int)then(pN U a b c (true))else(if(42:Int)<a then(pN U a b c (true))else(Option.bind (oO U b) λd=>(if(!d)=true then(pN U a b c (true))else(Option.bind (oO U c) λe=>(pN U a b c ((!e)))))))
theorem abH:aV Tryz.prog 167:=Tryz.call167
theorem MB (U:Nat) {e:Int} {f:Int} {g:Int} (r:eL) (h:CK U e f g=some r):
  aW Tryz.prog 167 #[vI (e),vI (f),vI (g)] [] (λx:Unit=>Value.tuple #[vI (r.1),vI (r.2)]) (λx l=>l) (λ_ l=>l):=by
 refine aW.of Tryz.func167 Z Tryz.ntmps167 Z λc=>?_;refine aR<|aB Z<|aB Z<|aL<|aK<|aK<|dK (λb=>pN U e f g b=some r) (λb m=>[(0,vI (e)),(1,vI (f)),(2,vI (g)),(23,vB (b))]) (λb m=>[]) ?_ ?_
 ·refine aO<|aA Z<|cZ Z<|aA Z ?_;refine wN h Z (λ_ h=>?_) λ_ h=>?_
  ·refine aE Z<|aE Z<|dA Z<|aA Z<|aE Z<|aE Z<|aE Z<|dA Z<|aA Z<|aE Z<|aE Z<|aE Z<|dA Z<|aL ?_;exact eW (true) () h SF Z
  refine bZ Z<|aM Z (uE Z Z) Z<|c_ Z<|aA Z ?_;refine wN h Z (λ_ h=>?_) λ_ h=>?_
  ·refine aE Z<|aE Z<|aE Z<|dA Z<|aA Z<|aE Z<|aE Z<|aE Z<|dA Z<|aL ?_;exact eW (true) () h SF Z
  refine bZ Z<|dZ h λi j h=>kJ Z (zBg KJ (As U  i j) Z .nil) Z λt=>aM Z (lV Z) Z<|c_ Z<|aA Z ?_;refine rZ (by exact rfl) (by exact rfl) (λa=>?_) (λa=>?_)
  ·have h:=LS a h;refine aE Z<|aE Z<|aE Z<|dA Z<|aL ?_;exact eW (true) () h SF Z
  have h:=HU a h;refine bZ Z<|dZ h λd k h=>kJ Z (zBg KJ (As U  d k) Z .nil) Z λu=>aM Z (lV Z) Z<|c_ Z<|aL ?_;exact eW ((!d)) () h SF Z
 intro b m h;refine tT h Z (λ_ h=>?_) λ_ h=>?_
 ·refine aR<|aB Z<|aB Z<|aL<|aQ<|aI ?_;cases h;exact eD () Z Z (RV.tmp Z) (RV.tmp Z) (bA.refl _) aG.nil
 refine cE<|aR<|aA Z<|aA Z<|aA Z<|dZ h λn p h=>aH (zBg abS (Nt U  n p) Z .nil) Z λv=>dZ h λo q h=>aH (zBg UQ (Ep U  o q) Z .nil) Z λs=>aB Z<|aB Z<|aL<|aQ ?_;cases h;exact eD () Z Z (RV.tmp Z) (RV.tmp Z) (bA.refl _) aG.nil
def EW  (a:Unit):Option (Int):=
 some (-1:Int)
def IL (U:Nat) (d:eY) (a:eL) (c:gC->Option (Int)):Option (Int):=
 if a.2<(d.length:Int)then(ck (0<=a.2∧a.2<(d.length:Int)) (Option.bind (jK U ((at' d a.2).1)) λb=>(if b<(0:Int)then(some (-1:Int))else(if(wI .i64 (a.1+(wI .i64 (b - (1:Int)))))=(0:Int)then(some (wI .i64 (a.2+(1:Int))))else(c ((wI .i64 (a.1+(wI .i64 (b - (1:Int))))),(wI .i64 (a.2+(1:Int)))))))))else(EW  (()))
def EV (U:Nat) (b:eY) (c:Int) (a:Bool):Option (Int):=
 if a=true then(some (-1:Int))else(bK (IL U b) U ((1:Int),c))
def FZ (U:Nat) (b:eY) (a:Int):Option (Int):=
 if a<(0:Int)then(EV U b a (true))else(EV U b a (decide ((b.length:Int)<=a)))
theorem UR:aV Tryz.prog 204:=Tryz.call204
theorem Kl (U:Nat) {g:eY} {b:Int} (k:Value) (r:Int) (h:FZ U g b=some r):
  aW Tryz.prog 204 #[k,vI (b)] [Sl bD k g] (λx:Unit=>vI (r)) (λx l=>l) (λ_ l=>l):=by
 refine aW.of Tryz.func204 Z Tryz.ntmps204 Z λc=>?_;refine aR<|aB Z<|aL<|aK<|aK<|dK (λd=>EV U g b d=some r) (λd n=>[(0,k),(1,vI (b)),(15,vB (d))]) (λd n=>[]) ?_ ?_
 ·refine aO<|aA Z<|cZ Z<|aA Z ?_;refine wN h Z (λ_ h=>?_) λ_ h=>?_
  ·refine aE Z<|aE Z<|aE Z<|aE Z<|dA Z<|aL ?_;exact eW (true) () h SF Z
  refine bZ Z<|bZ Z<|aM Z (fX Z (aD.fact 0 Z) Z) Z<|aM Z (wC Z Z) Z<|c_ Z<|aL ?_;exact eW (decide ((g.length:Int)<=b)) () h SF Z
 intro d n h;refine tT h Z (λ_ h=>?_) λ_ h=>?_
 ·refine aR<|aB Z<|aL<|aQ<|aI ?_;cases h;exact fW Z
 refine cE<|aR<|aB Z<|aL<|aK<|dK (λj=>EW  j=some r) (λj o=>[]) (λj o=>[]) ?_ ?_
 ·refine aR<|aA Z<|aB Z<|aL<|aS<|eB (IL U g) (λa e=>[(0,k),(5,vI (a.1)),(6,vI (a.2))]) (λa e=>[]) ((1:Int),b) () h SF (bA.refl _) ?_;intro p a e h;refine aK<|aR<|aA Z<|aA Z<|iF (aD.fact 0 Z) Z<|cZ Z<|aL ?_;refine d_ h Z (λh=>?_) λh=>?_
  ·refine cE<|aK<|aS<|aR<|aA Z<|aA Z<|dW h λf h=>aC (a_ Z Z (aD.fact 0 Z) Z Z f) Z<|aC (dX Z Z Z Z Z) Z<|aC (e_ Z (aD.fact 0 Z) Z Z Z jS f) Z<|dZ h λi m h=>aH (zBg OY (DT U  i m) Z .nil) Z λq=>aB Z<|aL<|aK<|aR<|aA Z<|cZ Z<|aL ?_;refine d_ h Z (λh=>?_) λh=>?_
   ·refine aR<|aB Z<|aL<|aQ<|aI<|bG<|aI<|aI<|bG<|aI ?_;cases h;exact fW Z
   refine cE<|aR<|aA Z<|aA Z<|aC (lO Z Z) Z<|cD Z<|aB Z<|aL<|aR<|aA Z<|bS Z<|aL ?_;refine d_ h Z (λh=>?_) λh=>?_
   ·refine aR<|aA Z<|cD Z<|aB Z<|aL<|aQ<|bG<|aI<|aI<|bG<|aI ?_;cases h;exact fW Z
   refine dM<|jH<|aO<|aA Z<|cD Z<|aB Z<|aL ?_;exact tV ((wI .i64 (a.1+(wI .i64 (i - (1:Int))))),(wI .i64 (a.2+(1:Int)))) () h SF Z
  refine eS ?_;exact eW () (()) h SF Z
 intro j o h;unfold EW at h;refine aR<|aB Z<|aL<|aQ ?_;cases h;exact fW Z
def AV  (a:Int):Option (Int):=
 some (a)
def Em (U:Nat) (d:eY) (e:Int) (a:eL) (b:gC->Option (Int)):Option (Int):=
 if a.2<e then(Option.bind (FZ U d a.1) λc=>(b (c,(wI .i64 (a.2+(1:Int))))))else(AV  (a.1))
def vY (U:Nat) (b:eY) (c:Int) (d:Int) (a:Bool):Option (Int):=
 if a=true then(some (-1:Int))else(bK (Em U b d) U ((wI .i64 (c+(1:Int))),(0:Int)))
def sP (U:Nat) (b:eY) (a:Int) (c:Int):Option (Int):=
 Option.bind (FZ U b a) λd=>(if d<(0:Int)then(vY U b a c (true))else(if c<(0:Int)then(vY U b a c (true))else(ck (0<=a∧a<(b.length:Int)) (Option.bind (jK U ((at' b a).1)) λe=>(vY U b a c (decide (e<=c)))))))
theorem OZ:aV Tryz.prog 168:=Tryz.call168
theorem BX (U:Nat) {n:eY} {j:Int} {b:Int} (d:Value) (r:Int) (h:sP U n j b=some r):
  aW Tryz.prog 168 #[d,vI (j),vI (b)] [Sl bD d n] (λx:Unit=>vI (r)) (λx l=>l) (λ_ l=>l):=by
 refine aW.of Tryz.func168 Z Tryz.ntmps168 Z λc=>?_;refine aR<|aB Z<|aL<|aK<|aK<|dK (λe=>vY U n j b e=some r) (λe t=>[(0,d),(1,vI (j)),(2,vI (b)),(26,vB (e))]) (λe t=>[]) ?_ ?_
 ·refine aO<|aA Z<|aA Z<|dZ h λo q h=>aH (zBg UR (Kl U d o q) Z (jP [0] Z)) Z λy=>cZ Z<|aA Z ?_;refine wN h Z (λ_ h=>?_) λ_ h=>?_
  ·refine aE Z<|aE Z<|dA Z<|aA Z<|aE Z<|aE Z<|aE Z<|aE Z<|aE Z<|aE Z<|aE Z<|aE Z<|dA Z<|aL ?_;exact eW (true) () h SF Z
  refine bZ Z<|aM Z (BD Z Z) Z<|c_ Z<|aA Z ?_;refine wN h Z (λ_ h=>?_) λ_ h=>?_
  ·refine aE Z<|aE Z<|aE Z<|aE Z<|aE Z<|aE Z<|aE Z<|aE Z<|dA Z<|aL ?_;exact eW (true) () h SF Z
  refine bZ Z<|bZ Z<|bZ Z<|dW h λi h=>aM Z (a_ Z Z (aD.fact 0 Z) Z Z i) Z<|aM Z (dX Z Z Z Z Z) Z<|aM Z (e_ Z (aD.fact 0 Z) Z Z Z jS i) Z<|dZ h λm s h=>kJ Z (zBg OY (DT U  m s) Z .nil) Z λz=>aM Z (wC Z Z) Z<|c_ Z<|aL ?_;exact eW (decide (m<=b)) () h SF Z
 intro e t h;refine tT h Z (λ_ h=>?_) λ_ h=>?_
 ·refine aR<|aB Z<|aL<|aQ<|aI ?_;cases h;exact fW Z
 refine cE<|aR<|aA Z<|cD Z<|aB Z<|aL<|aK<|dK (λf=>AV  f=some r) (λf u=>[(7,vI (f))]) (λf u=>[]) ?_ ?_
 ·refine aR<|aB Z<|aL<|aS<|eB (Em U n b) (λa g=>[(0,d),(2,vI (b)),(7,vI (a.1)),(8,vI (a.2))]) (λa g=>[]) ((wI .i64 (j+(1:Int))),(0:Int)) () h SF (bA.refl _) ?_;intro v a g h;refine aK<|aR<|aA Z<|aA Z<|cZ Z<|aL ?_;refine d_ h Z (λh=>?_) λh=>?_
  ·refine cE<|aK<|aS<|aO<|aA Z<|aA Z<|dZ h λk p h=>aH (zBg UR (Kl U d k p) Z (jP [0] Z)) Z λw=>aB Z<|eN<|jH<|aO<|aA Z<|cD Z<|aB Z<|aL ?_;exact tV (k,(wI .i64 (a.2+(1:Int)))) () h SF Z
  refine eS ?_;exact eW (a.1) () h SF Z
 intro f u h;unfold AV at h;refine aR<|aA Z<|aB Z<|aL<|aQ ?_;cases h;exact fW Z
end Go.Proofs.YtahgemjmgopleaaGreatDoor