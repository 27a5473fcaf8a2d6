/- Models and proofs. Conditions: none. -/
import Derived.Test.YtflciafboapaaaaGreatZRSp10
import Derived.Test.YtflciafboapaaaaGreatZRSp7
import Derived.Test.YtflciafboapaaaaGreatZRSp5
import Derived.Test.YtflciafboapaaaaGreatZRSp9
import Derived.Test.YtflciafboapaaaaGreatZRSp2
import Derived.Test.YtflciafboapaaaaGreatZRSp6
import Derived.Test.YtflciafboapaaaaGreatZRSp8
import Derived.Test.YtflciafboapaaaaGreatZRSp1
import Derived.OpenShut
set_option linter.unusedVariables false
set_option linter.unusedSimpArgs false
set_option maxHeartbeats 4000000
set_option maxRecDepth 20000
namespace Go.Proofs.YtflciafboapaaaaGreat
open Go Go.Sx
def ZW:List EC:=RJ (ByteArray.mk #[100]) (ByteArray.mk #[112]) 1
def ZV (z:List zB):Fh:=(ByteArray.mk #[98,102,115],ZW,z)
theorem Yl:Eo 1000=some true:=rfl
theorem Pu (c:bQ) (h:c.length<900) (d:∀v:Nat,v<c.length->(at' c (v:Int)).length<900):wC 1000 c c=some true:=by
 unfold wC;rw[if_neg (by simp)];refine dJ (step:=xP 1000 c c) (K:=some true) c.length (λk=>(k:Int)) (λk a b=> ?_) (λa=> ?_) 1000 (by omega)
 ·unfold xP;rw[if_pos (by omega),cF (by omega),cF (by omega),bH (YT _ _ (d k b)),zA4 Z,if_neg (by decide),cV (by omega)]
 ·unfold xP Ca;rw[if_neg (by omega)]
theorem afs {g:GR} {d:List EC} {e:Nat} {y:AZ} (l:VG g) (h:VY g d e y) (t:e<=8) (u:d.length<=20):sC 1000 y y=some true:=by
 have n:=l.n24;have A:=h.sh.c;have z:=h.sh.a.len;have B:=h.sh.w.len;unfold sC;rw[bH (Pu y.1 (by omega) λv b=>by rw[h.rowc (by omega)];omega),if_neg (by decide),if_neg (by simp),zA3 (by simp)];unfold xV;rw[if_neg (by decide)];refine dJ (step:=xX 1000 y y) (K:=some true) y.2.1.length (λk=>(k:Int)) (λk f r=> ?_) (λf=> ?_) 1000 (by omega)
 ·have b:k<g.2.length:=by omega
  have o:=(l.node k b).deg;have C:=h.sh.a.row k b;unfold xX;rw[if_pos (by omega),cF (by omega),cF (by omega),bH (Pu (at' y.2.1 (k:Int)) (by omega) λi p=>by have:=h.rowa l b (i:=i) (by omega);show(nS y.2.1 k i).length<900;omega),if_neg (by decide),cV (by omega)]
 ·unfold xX;rw[if_neg (by omega)];unfold Ci;refine dJ (step:=qA 1000 y y) (K:=some true) y.2.2.length (λk=>(k:Int)) (λk f r=> ?_) (λf=> ?_) 1000 (by omega)
  ·have b:k<g.2.length:=by omega
   have o:=(l.node k b).deg;have s:=h.sh.w.row k b;unfold qA;rw[if_pos (by omega),cF (by omega),cF (by omega),if_neg (by simp)];refine dJ (step:=xW 1000 y y (k:Int) f) (at' y.2.2 (k:Int)).length (λi=>(i:Int)) (λi m p=> ?_) (λm=> ?_) 1000 (by omega)
   ·have x:=h.cp k i b (by omega);unfold xW;rw[cF (by omega),if_pos (by omega),cF (by omega),cF (by omega),cF (by omega),cF (by omega),bH (Pu (at' (at' y.2.2 (k:Int)) (i:Int)) (by show(nS y.2.2 k i).length<900;omega) λj q=>by have:=h.roww b (i:=i) (k:=j) (by omega) q;show(at' (nS y.2.2 k i) (j:Int)).length<900;omega),if_neg (by decide),cV (by omega)]
   ·unfold xW Ck;rw[cF (by omega),if_neg (by omega),cV (by omega)]
  ·unfold qA Cj;rw[if_neg (by omega)]
theorem YU:sC 1000 FU FU=some true:=by kernel_rfl
section
variable {g:GR} {p:Fh} {R:List RL} {cap:Int} {y:AZ} {l:List (Int×Int×Int)}
theorem Wa (a:VG g) (b:gR g p.2.1) (c:kJ p.2.1.length R=true):sC 1000 (Ps g p.2.1 (ML (dO p g) p.2.1 R) cap y l).1 (Ps g p.2.1 (ML (dO p g) p.2.1 R) cap y l).1=some true:=by
 unfold Ps;split
 ·rename_i f;split
  ·rename_i e;split
   ·rename_i d;obtain⟨_,h⟩:=FS.1 e;have:=VY.perfs a h (Te (R:=R) b c) l l.length (zAh _) (pN.1 d);rw[zB2]at this;exact afs a this (by omega) b.len
   ·exact YU
  ·exact YU
 ·exact YU
end
theorem Su (f:Nat) {o:Int} (c:1<=o) (e:o<=43):nQ f o=some (if o<=17 then 0 else if o<=29 then 1 else if o<=42 then 2 else 3):=by
 unfold nQ An Ao Ap;rw[if_pos c];by_cases a:o<=17
 ·rw[zA4 a,if_pos Z,if_pos a]
 rw[zA3 a,if_neg (by decide),if_pos (by omega),if_neg a];by_cases b:o<=29
 ·rw[zA4 b,if_pos Z,if_pos b]
 rw[zA3 b,if_neg (by decide),if_pos (by omega),if_neg b];by_cases d:o<=42
 ·rw[zA4 d,if_pos Z,if_pos d]
 rw[zA3 d,if_neg (by decide),if_pos (by omega),if_neg d]
theorem afn (f:Nat) (a b:Int):mB f a b=some (Q_ a b):=by
 unfold mB Q_;by_cases c:b=0
 ·rw[if_pos c,if_pos c]
 ·rw[if_neg c,if_neg c,cF c,cF c];unfold t_ pR;by_cases h:Int.tmod a b≠0
  ·rw[if_pos h];cases d:(decide (a<0)) != (decide (b<0))with
   |true=>rw[if_pos Z,if_pos ⟨h,rfl⟩]
   |false=>rw[if_neg (by decide),if_neg (λq=>by cases q.2)]
  ·rw[if_neg h,if_neg (by decide),if_neg (λq=>h q.1)]
theorem Rm (b:Bool):max (-1073741824) (min (RX b) 1073741824)=RX b:=by cases b<;>rfl
theorem acJ (f:Nat) {o:Int} (x y:Int) (g:30<=o) (i:o<=42):∃z,Es f o x y=some z/\max (-1073741824) (min z 1073741824)=biD o x y:=by
 have a:∀b:Bool,(Option.bind (dX f b) λr=>some r)=some (RX b):=λb=>by rw[PV];rfl
 rcases(show o=30\/o=31\/o=32\/o=33\/o=34\/o=35\/o=36\/o=37\/o=38\/o=39\/o=40\/o=41\/o=42 by omega)with rfl|rfl|rfl|rfl|rfl|rfl|rfl|rfl|rfl|rfl|rfl|rfl|rfl
 ·exact⟨_,rfl,rfl⟩
 ·refine⟨Q_ x y,?_,rfl⟩
  show(Option.bind (mB f x y) λd=>some d)=_;rw[afn];rfl
 ·by_cases c:y=0
  ·refine⟨0,?_,?_⟩
   ·show(if y=0 then _ else _)=_;rw[if_pos c]
   ·show _=if y=0 then _ else _;rw[if_pos c];rfl
  ·refine⟨wI .i64 (x - wI .i64 (y*Q_ x y)),?_,?_⟩
   ·show(if y=0 then _ else Option.bind (mB f x y) λe=>some (wI .i64 (x - wI .i64 (y*e))))=_;rw[if_neg c,afn];rfl
   ·show _=if y=0 then _ else _;rw[if_neg c];rfl
 ·exact⟨_,rfl,rfl⟩
 ·exact⟨_,rfl,rfl⟩
 ·exact⟨_,a (decide (x=y)),Rm _⟩
 ·exact⟨_,a (decide (x≠y)),Rm _⟩
 ·exact⟨_,a (decide (x<y)),Rm _⟩
 ·exact⟨_,a (decide (x<=y)),Rm _⟩
 ·exact⟨_,a (decide (y<x)),Rm _⟩
 ·exact⟨_,a (decide (y<=x)),Rm _⟩
 ·refine⟨RX (decide (x≠0)&&decide (y≠0)),?_,Rm _⟩
  show(if x≠0 then Option.bind (dX f (decide (y≠0))) _ else Option.bind (dX f false) _)=_;by_cases h:x=0
  ·rw[if_neg (by simpa using h),show decide (x≠0)=false by simp[h],Bool.false_and];exact a false
  ·rw[if_pos h,zA4 h,zAs];exact a _
 ·refine⟨RX (decide (x≠0)||decide (y≠0)),?_,Rm _⟩
  show(if x≠0 then Option.bind (dX f true) _ else Option.bind (dX f (decide (y≠0))) _)=_;by_cases h:x=0
  ·rw[if_neg (by simpa using h),show decide (x≠0)=false by simp[h],Bool.false_or];exact a _
  ·rw[if_pos h,zA4 h,Bool.true_or];exact a true
theorem agY (f:Nat) {o x y:Int} (a:30<=o) (b:o<=42) (d:tJ x) (g:tJ y):Ad f o x y=some (biD o x y,0)/\tJ (biD o x y):=by
 obtain⟨z,h,e⟩:=acJ f x y a b;refine⟨?_,by rw[<-e];unfold tJ;omega⟩
 have c:nV f z=some (biD o x y):=by
  unfold nV;rw[<-e];exact congrArg some (by omega)
 unfold Ad pF;rw[if_neg (by omega),if_neg (by omega),bH (Ph f d),if_neg (by decide),bH (Ph f g),if_neg (by decide),bH h,bH c]
theorem Rp (l:bT):∀k,k<=l.length->l.length<=1000->(Ro l k).2.1=iM (l.take k)/\(Ro l k).2.2.1=VT (l.take k)
 |0,_,_=>⟨rfl,rfl⟩
 | k + 1, hk, hl => by
  obtain⟨d,e⟩:=Rp l k (by omega) hl;have f:=(PC l k (by omega) hl).2;unfold Ro QP;dsimp only;rw[f,d,e,nZ (by omega)];refine⟨?_,by unfold VT;rw[List.foldl_append];rfl⟩
  have b:((l.take k).length:Int)=(k:Int):=by simp;omega
  have g:iM [at' l (k:Int)]=if at' l (k:Int)≠0 then 0 else -1:=by
   rw[Gq,show iM [] = -1 from rfl];by_cases a:at' l (k:Int)=0
   ·simp[nz,a]
   ·simp[nz,a]
  rw[HD,g,b];have c : -1<=iM (l.take k):=by unfold iM;split<;>omega
  by_cases q:0<=iM (l.take k)
  ·rw[if_neg (show¬(at' l (k:Int)≠0/\iM (l.take k)<0)from λz=>by have:=z.2;omega),if_pos q]
  ·rw[if_neg q];by_cases a:at' l (k:Int)=0
   ·rw[if_neg (show¬(at' l (k:Int)≠0/\iM (l.take k)<0)from λz=>z.1 a),if_neg (show¬at' l (k:Int)≠0 from λz=>z a),if_neg (show¬(0:Int) <= -1 by decide)];omega
   ·rw[if_pos (show at' l (k:Int)≠0/\iM (l.take k)<0 from⟨a,by omega⟩),if_pos a,if_pos (show(0:Int)<=0 by decide)];omega
theorem aeT (f:Nat) {o:Int} (l:bT) (ho:o=21\/o=23\/o=24\/o=27) (hf:40<=f) (hl:l.length<=24) (hn:∀x∈l,tJ x):nL f o l=some (II o l)/\tJ (II o l):=by
 obtain⟨a,b⟩:=Rp l l.length (zAh _) (by omega);rw[zB2]at a b;rcases ho with rfl|rfl|rfl|rfl
 ·exact⟨aaW f l (by omega) (by omega),OB _⟩
 ·refine⟨?_,?_⟩
  ·rw[JD f 23 l (by omega) (by omega),a];rfl
  ·show tJ (iM l);unfold iM tJ;split
   ·rename_i i e;have:=(List.findIdx?_eq_some_iff_getElem.1 e).1;omega
   ·omega
 ·refine⟨?_,?_⟩
  ·rw[JD f 24 l (by omega) (by omega),b];rfl
  ·show tJ (VT l);have:∀(l:bT) (a:Int),tJ a->(∀x∈l,tJ x)->tJ (l.foldl min a):=by
    intro l
    induction l with
    |nil=>exact λa h _=>h
    |cons x l ih=>exact λa h hl=>ih _ (by have:=hl x (zAe ..);unfold tJ at *;omega) λy hy=>hl y (zAl _ hy)
   exact this l _ (by unfold tJ;omega) hn
 ·refine⟨aaX f l (by omega) (by omega),?_⟩
  have:=(LZ l).2.2;show tJ ((LY l:Nat):Int);unfold tJ;omega
def E.rk:E->Bool
 | .lf o a=>decide (o=1 /\ -1000000<=a/\a<=1000000)||decide (o=2\/o=3\/o=4\/o=5\/o=6\/o=7\/o=8\/o=10\/o=12)
 | .un o x=>decide (o=19)&&x.rk
 | .ag o x=>decide (o=21\/o=23\/o=24\/o=27)&&x.rk
 | .bi _ x y=>x.rk&&y.rk
 | .ite x y z=>x.rk&&y.rk&&z.rk
def Tk (T:fI):E->Nat->Nat->Bool
 | .lf o a,_,k=>decide (at' T (k:Int)=(o,a)/\k<T.length)
 | .un o x,F,k=>decide (at' T (k:Int)=(o,0)/\k<T.length)&&Tk T x (F - 1) (k+1)
 | .ag o x,F,k=>decide (at' T (k:Int)=(o,0)/\k<T.length)&&Tk T x (F - 1) (k+1)
 | .bi o x y,F,k=>decide (at' T (k:Int)=(o,0)/\k<T.length/\mZ (F - 1) T (k:Int) 1=some ((k+1+x.ts.length:Nat):Int))&&Tk T x (F - 1) (k+1)&&Tk T y (F - 1) (k+1+x.ts.length)
 | .ite x y z,F,k=>decide (at' T (k:Int)=(43,0)/\k<T.length/\mZ (F - 1) T (k:Int) 1=some ((k+1+x.ts.length:Nat):Int)/\mZ (F - 1) T (k:Int) 2=some ((k+1+x.ts.length+y.ts.length:Nat):Int))&&Tk T x (F - 1) (k+1)&&Tk T y (F - 1) (k+1+x.ts.length)&&Tk T z (F - 1) (k+1+x.ts.length+y.ts.length)
section
variable {p:Fh} {g:GR} {c:List (List Int)} {v nv:Nat}
theorem ach (i:VG g) (m:Ke g nv c) (s:∀u:Nat,u<g.2.length->∀a:Nat,a<nv->tJ (at' (at' c (u:Int)) (a:Int))) (l:v<g.2.length) {f:Nat} (B:30<=f) {b:Bool} {o a j:Int} (w:(E.lf o a).wf nv b=true) (t:(E.lf o a).rk=true) (C:Ou b (row g v).length j):
  Ae f g c (v:Int) j (o,a)=some (Pa (dO p g,c,(v:Int),[]) o a j)/\tJ (Pa (dO p g,c,(v:Int),[]) o a j):=by
 have z:=i.n24;have d:=i.len;have A:=m.len;have G:=m.row v l;have J:=EM i g.1.length (by omega);simp only[E.wf,zA6,zB1,zAa]at w;simp only[E.rk,zB1,zAa]at t;obtain⟨⟨⟨M,N⟩,I⟩,O⟩:=w;rcases t with⟨rfl,K,L⟩|rfl|rfl|rfl|rfl|rfl|rfl|rfl|rfl|rfl
 ·exact⟨rfl,by show tJ a;unfold tJ;omega⟩
 ·exact⟨rfl,by show tJ 1;unfold tJ;omega⟩
 ·exact⟨rfl,by show tJ 0;unfold tJ;omega⟩
 ·exact⟨rfl,by show tJ (-1);unfold tJ;omega⟩
 ·obtain⟨k,rfl⟩:∃k:Nat,a=k:=⟨a.toNat,by omega⟩
  refine⟨?_,s v l k (by omega)⟩
  show ck _ (ck _ (some _))=_;rw[cF (by omega),cF (by omega)];rfl
 ·have e:Pa (dO p g,c,(v:Int),[]) 6 a j=(g.2.length:Int):=by show(g.1.length:Int)=_;rw[d]
  rw[e];exact⟨rfl,by unfold tJ;omega⟩
 ·have e:Pa (dO p g,c,(v:Int),[]) 7 a j=jH g g.1.length:=by show jH g g.2.length=_;rw[d]
  rw[e];refine⟨?_,by unfold tJ;omega⟩
  show Option.bind (Option.bind (jP f (g.1,g.2)) λH=>some H) (λh=>some h)=_;rw[show jP f (g.1,g.2)=_ from NF i B];rfl
 ·have:=(i.node v l).id;refine⟨?_,by show tJ (Gs g v);unfold tJ;omega⟩
  show Option.bind (ck _ (some _)) _=_;rw[cF (show 0<=(v:Int)/\(v:Int)<(g.1.length:Int) by omega)];rfl
 ·refine⟨?_,OB _⟩
  show Option.bind (Option.bind (dX f (decide ((v:Int)=0))) λn=>some n) (λh=>some h)=_;rw[PV];rfl
 ·obtain⟨q,rfl,D⟩:=C (I.resolve_right (by decide));obtain⟨k,rfl⟩:∃k:Nat,a=k:=⟨a.toNat,by omega⟩
  obtain⟨u,r,y⟩:=i.to l D;have F:=m.row u r;have e:(at' (at' g.2 (v:Int)) (q:Int)).1=(u:Int):=y;have x:Pa (dO p g,c,(v:Int),[]) 12 (k:Int) (q:Int)=at' (at' c (u:Int)) (k:Int):=by
   show at' (at' c ((at' (at' g.2 (v:Int)) (q:Int)).1)) (k:Int)=_;rw[e]
  rw[x];refine⟨?_,s u r k (by omega)⟩
  unfold Ae;dsimp only;rw[if_neg (by decide),if_neg (by decide),if_neg (by decide),if_neg (by decide),if_neg (by decide),if_pos Z,cF (by omega),cF (by show 0<=(q:Int)/\(q:Int)<((row g v).length:Int);omega),e,cF (by omega),cF (by omega)]
theorem ahn (J:VG g) (W:Ke g nv c) (V:∀u:Nat,u<g.2.length->∀a:Nat,a<nv->tJ (at' (at' c (u:Int)) (a:Int))) (P:v<g.2.length) {T:List (Int×Int)} (hT:T.length<=900):
  ∀(e:E) (b:Bool) (F k:Nat) (d:Int),e.wf nv b=true->e.rk=true->Tk T e F k=true->Ou b (row g v).length d->e.depth+60<=F->fD F g c (v:Int) d T (k:Int)=some (e.den (Pa (dO p g,c,(v:Int),[])) (row g v).length d)/\tJ (e.den (Pa (dO p g,c,(v:Int),[])) (row g v).length d):=by
 have U:=J.n24;have hd:=(J.node v P).deg;intro e
 induction e with
 |lf o a=>
  intro b F k d i h j m t;obtain⟨f,rfl⟩:∃f,F=f+1:=⟨F - 1,by omega⟩
  obtain⟨n,I⟩:=zAx j;have O:=ach (p:=p) J W V P (f:=f) (by omega) i h m;simp only[E.wf,zA6,zB1,zAa]at i;refine⟨?_,O.2⟩
  show nA (fD f) f g c (v:Int) d T (k:Int)=_;unfold nA;rw[cF (by omega),n,bH (Su f (o:=o) (by omega) (by omega)),if_pos (by rw[if_pos (by omega)]),cF (by omega),bH (show Ae f (g.1,g.2) c (v:Int) d (o,a)=_ from O.1)];rfl
 |un o x M=>
  intro b F k d i h j m t;obtain⟨f,rfl⟩:∃f,F=f+1:=⟨F - 1,by omega⟩
  simp only[Tk,E.rk,E.wf,E.depth,zA6,zAa]at j h i t;obtain⟨⟨n,I⟩,j⟩:=j;obtain⟨rfl,h⟩:=h;have r:=M b f (k+1) d i.2 h j m (by omega);refine⟨?_,OB _⟩
  show nA (fD f) f g c (v:Int) d T (k:Int)=_;unfold nA;rw[cF (by omega),n,bH (show nQ f 19=some 1 from rfl),if_neg (by decide),if_pos Z,bH (show tU f 19=some false from rfl),if_neg (by decide),cV (by omega),bH (show fD f (g.1,g.2) c (v:Int) d T _=_ from r.1)];unfold Er;dsimp only;rw[if_pos (by decide),if_neg (by decide),bH (Ph f r.2)];unfold vJ;rw[if_neg (by decide),if_neg (by decide),bH (PV f _)];rfl
 | ag o x M =>
  intro b F k d i h j m t;obtain⟨f,rfl⟩:∃f,F=f+1:=⟨F - 1,by omega⟩
  simp only[Tk,E.rk,E.wf,E.depth,zA6,zAa]at j h i t;obtain⟨⟨n,I⟩,j⟩:=j;let D:Nat->Int:=λq=>x.den (Pa (dO p g,c,(v:Int),[])) (row g v).length ((q:Nat):Int);have r:∀q:Nat,q<(row g v).length->fD f g c (v:Int) (q:Int) T ((k+1:Nat):Int)=some (D q)/\tJ (D q):=λq H=>M true f (k+1) (q:Int) i.2 h.2 j (λ_=>⟨q,rfl,H⟩) (by omega);have Y:((List.range (row g v).length).map D).length=(row g v).length:=by simp
  have l:=aeT f (o:=o) ((List.range (row g v).length).map D) h.1 (by omega) (by omega) λy B=>by
   obtain⟨q,H,rfl⟩:=zB5.1 B;exact(r q (zAt.1 H)).2
  refine⟨?_,l.2⟩
  show nA (fD f) f g c (v:Int) d T (k:Int)=some (II o ((List.range (row g v).length).map D));unfold nA;have X:tU f o=some true:=by rcases h.1 with rfl|rfl|rfl|rfl<;>rfl
  rw[cF (by omega),n,bH (Su f (o:=o) (by omega) (by omega)),if_neg (by rw[if_neg (by omega),if_pos (by omega)];decide),if_pos (by rw[if_neg (by omega),if_pos (by omega)]),bH X,if_pos Z];refine dJ (step:=CB f (g.1,g.2) c (v:Int) T (k:Int) (fD f)) (row g v).length (λq=>((List.range q).map D,(q:Int))) (λq ag H=> ?_) (λag=> ?_) f (by omega)
  ·unfold CB;dsimp only;rw[cF (by omega),if_pos (show(q:Int)<((row g v).length:Int) by omega),cV (by omega),bH (show fD f (g.1,g.2) c (v:Int) (q:Int) T _=_ from(r q H).1),cF (by simp;omega),cV (by omega),List.range_succ,List.map_append,List.map_singleton]
  ·unfold CB GC;dsimp only;rw[cF (by omega),if_neg (show¬((row g v).length:Int)<((row g v).length:Int) by omega),n,bH l.1]
 |bi o x y C G=>
  intro b F k d i h j m t;obtain⟨f,rfl⟩:∃f,F=f+1:=⟨F - 1,by omega⟩
  simp only[Tk,E.rk,E.wf,E.depth,zA6,zAa,Nat.add_sub_cancel]at j h i t;obtain⟨⟨⟨n,I,K⟩,w⟩,A⟩:=j;have r:=C b f (k+1) d i.1.2 h.1 w m (by omega);have B:=G b f (k+1+x.ts.length) d i.2 h.2 A m (by omega);have N:=agY f (o:=o) i.1.1.1 i.1.1.2 r.2 B.2;refine⟨?_,N.2⟩
  show nA (fD f) f g c (v:Int) d T (k:Int)=_;unfold nA;rw[cF (by omega),n,bH (Su f (o:=o) (by omega) (by omega)),if_neg (by rw[if_neg (by omega),if_neg (by omega),if_pos (by omega)];decide),if_neg (by rw[if_neg (by omega),if_neg (by omega),if_pos (by omega)];decide),if_pos (by rw[if_neg (by omega),if_neg (by omega),if_pos (by omega)]),cV (by omega),bH (show fD f (g.1,g.2) c (v:Int) d T _=_ from r.1),bH K,bH (show fD f (g.1,g.2) c (v:Int) d T _=_ from B.1),bH N.1];rfl
 | ite x y z C G ihz =>
  intro b F k d i h j m t;obtain⟨f,rfl⟩:∃f,F=f+1:=⟨F - 1,by omega⟩
  simp only[Tk,E.rk,E.wf,E.depth,zA6,zAa,Nat.add_sub_cancel]at j h i t;obtain⟨⟨⟨⟨n,I,R,S⟩,w⟩,A⟩,L⟩:=j;have r:=C b f (k+1) d i.1.1 h.1.1 w m (by omega);have B:=G b f (k+1+x.ts.length) d i.1.2 h.1.2 A m (by omega);have Q:=ihz b f (k+1+x.ts.length+y.ts.length) d i.2 h.2 L m (by omega);have s:fD (f+1) g c (v:Int) d T (k:Int)=if x.den (Pa (dO p g,c,(v:Int),[])) (row g v).length d≠0 then some (y.den (Pa (dO p g,c,(v:Int),[])) (row g v).length d)else some (z.den (Pa (dO p g,c,(v:Int),[])) (row g v).length d):=by
   show nA (fD f) f g c (v:Int) d T (k:Int)=_;unfold nA;rw[cF (by omega),n,bH (show nQ f 43=some 3 from rfl),if_neg (by decide),if_neg (by decide),if_neg (by decide),cV (by omega),bH (show fD f (g.1,g.2) c (v:Int) d T _=_ from r.1),bH R,bH S,bH (show fD f (g.1,g.2) c (v:Int) d T _=_ from B.1),bH (show fD f (g.1,g.2) c (v:Int) d T _=_ from Q.1)]
  rw[s];simp only[E.den];split
  ·exact⟨rfl,B.2⟩
  ·exact⟨rfl,Q.2⟩
end
def adY (R:List RL):Bool:=R.all λr=>(r.1.rk&&Tk r.1.ts r.1 1000 0)&&r.2.all λs=>s.2.rk&&Tk s.2.ts s.2 1000 0
theorem YJ {p:Fh} {g:GR} {R:List RL} (f:VG g) (l:gR g p.2.1) (k:kJ p.2.1.length R=true) (d:adY R=true):FW p g R:=by
 intro c n v D r b;have B:=f.n24;have w:=f.len;have x:=EM f g.1.length (by omega);have C:∀u:Nat,u<g.2.length->∀a:Nat,a<p.2.1.length->tJ (at' (at' c (u:Int)) (a:Int)):=λu y a i=>by
  have j:=n.ok u y a i;have b:=l.range a i;obtain⟨⟨J,K⟩,⟨L,F⟩,M,G⟩:=l.small a i;have o:=(f.node u y).deg;unfold val lo hi at j;unfold lo at b;unfold tJ;rcases l.kind a i with e|e|e
  ·rw[if_neg (by omega),if_neg (by omega),if_neg (by omega),if_neg (by omega)]at j;have b:=(b e).1;rw[if_neg (by omega),if_neg (by omega)]at b;have H:(at' p.2.1 (a:Int)).2.2.2.2.1*(g.2.length:Int)<=100000*24:=Int.mul_le_mul F (by omega) (by omega) (by omega);have I:(at' p.2.1 (a:Int)).2.2.2.2.2*jH g g.1.length<=100000*255:=Int.mul_le_mul G x.2 x.1 (by omega);omega
  ·rw[if_pos e,if_pos e]at j;omega
  ·rw[if_neg (by omega),if_pos e,if_neg (by omega),if_pos e]at j;omega
 simp only[adY,zA7,zA6]at d;simp only[kJ,zA6,zA7,zAa]at k;have h:∀e:E,Kl p.2.1.length e=true->e.rk=true->Tk e.ts e 1000 0=true->fD 1000 g c (v:Int) (-1) e.ts 0=some (DY (dO p g) c v e):=λe t z A=>by
  simp only[Kl,zA6,zAa]at t;exact(ahn (p:=p) f n.shape C D (T:=e.ts) (by omega) e false 1000 0 (-1) t.1.1 z A (λq=>by cases q) (by omega)).1
 exact⟨h r.1 (k.2 r b).1.1 (d r b).1.1 (d r b).1.2,λs m=>h s.2 ((k.2 r b).2 s m).2 ((d r b).2 s m).1 ((d r b).2 s m).2⟩
end Go.Proofs.YtflciafboapaaaaGreat
namespace Go.Proofs.YtflciafboapaaaaGreat
open Go.Sx
def zW (U:Nat) (b:cJ) (e:AX) (a:Int) (d:bT):Option bT:=
 Option.bind (kH U ((b.1,b.2)) e d) λc=>(ck (0<=a/\a<(c.length:Int)) (some (at' c a)))
def zX (U:Nat) (h:cJ) (d:AX) (e:Int) (b:bT) (g:Int) (a:Int×bT) (c:(Int×bT)->Option bT) (f:Bool):Option bT:=
 if f=true then(ck ((b.length:Int)≠0) (ck (0<=(Int.tmod (wI .i64 (g+a.1)) (b.length:Int))/\(Int.tmod (wI .i64 (g+a.1)) (b.length:Int))<(b.length:Int)) (ck (0<=(wI .i64 ((wI .i64 (e*(d.length:Int)))+a.1))/\(wI .i64 ((wI .i64 (e*(d.length:Int)))+a.1))<(a.2.length:Int)) (c ((wI .i64 (a.1+(1:Int))),(List.set a.2 (Int.toNat (wI .i64 ((wI .i64 (e*(d.length:Int)))+a.1))) (at' b (Int.tmod (wI .i64 (g+a.1)) (b.length:Int)))))))))else(zW U h d e (a.2))
def zY (U:Nat) (e:cJ) (c:AX) (f:Int) (d:bT) (g:Int) (b:Int×bT) (a:(Int×bT)->Option bT):Option bT:=
 if b.1<(c.length:Int)then(zX U e c f d g b a (decide ((0:Int)<(d.length:Int))))else(zX U e c f d g b a (false))
def pX (U:Nat) (a:cJ) (b:AX) (c:Int) (d:bT) (e:Int):Option bT:=
 ck (0<=(wI .i64 ((a.2.length:Int)*(b.length:Int)))/\(wI .i64 ((a.2.length:Int)*(b.length:Int)))<=1099511627) (bL (zY U a b c d e) U ((0:Int),(List.replicate (Int.toNat (wI .i64 ((a.2.length:Int)*(b.length:Int)))) (0:Int))))
theorem Xj:bB Tryz.prog 44:=Tryz.call44
theorem HM (U:Nat) {g:cJ} {k:AX} {d:Int} {m:bT} {n:Int} (A B:V0) (H:kX) (q D:V0) (r:bT) (h:pX U g k d m n=some r):
  bE Tryz.prog 44 #[Value.agg #[A,B],q,vI (d),D,vI (n)] [Sl aM A g.1,S2 aY B H g.2,Sl aE q k,Sl aM D m] (λx:V0=>x) (λx l=>l) (λx l=>Sl aM x r::l):=by
 refine bE.of Tryz.func44 Z Tryz.ntmps44 Z λc=>?_;refine aU<|aJ (aQ.box (cs:=[A,B]) Z Z) Z λC=>let o:=bM C [A,B] 31;aC Z<|aP<|aU<|bV Z<|dK 0 Z<|aB (dM Z (mR Z) Z) Z<|aA Z<|iL (zI Z) Z<|aB (xA Z Z) Z<|cQ h λI h=>aJ (By (e:=fT) (0:Int) Z Z Z Z I Z Z Z) Z λp=>aC Z<|aP<|aN<|eB (λs=>zW U g k d s=some r) (λs G=>[(1,q),(2,vI (d)),(5,vP C),(11,p)]) (λs G=>[Ar fT p s,o]) ?_ ?_
 ·refine aU<|aC Z<|aP<|aT<|eW (zY U g k d m n) (λa t=>[(1,q),(2,vI (d)),(3,D),(4,vI (n)),(5,vP C),(11,p),(12,vI (a.1))]) (λa t=>[Ar fT p a.2,o]) ((0:Int),(List.replicate (Int.toNat (wI .i64 ((g.2.length:Int)*(k.length:Int)))) (0:Int))) () h SF (a_.refl _) ?_;intro F a t h;let z:=(at' m (Int.tmod (wI .i64 (n+a.1)) (m.length:Int)))
  refine aN<|aN<|eB (λb=>zX U g k d m n a (bL (zY U g k d m n) F) b=some r) (λb u=>[(1,q),(2,vI (d)),(3,D),(4,vI (n)),(5,vP C),(11,p),(12,vI (a.1)),(28,vB (b))]) (λb u=>[Ar fT p a.2,o]) ?_ ?_
  ·refine aR<|aA Z<|aA Z<|iL (zI Z) Z<|cU Z<|aA Z ?_;refine Ds h Z (λ_ h=>?_) λ_ h=>?_
   ·refine dD Z<|aW Z (fH Z (Bh Z) Z) Z<|aW Z (wY Z Z) Z<|d_ Z<|aP ?_;exact f_ (decide ((0:Int)<(m.length:Int))) () h SF Z
   refine aO Z<|aO Z<|aO Z<|eR Z<|aP ?_;exact f_ (false) () h SF Z
  intro b u h;refine rR h Z (λ_ h=>?_) λ_ h=>?_
  ·refine cL<|aN<|aT<|aR<|aA Z<|aA Z<|aA Z<|iL (zI Z) Z<|aB (xA Z Z) Z<|aA Z<|cN Z<|aA Z<|aA Z<|aA Z<|cN Z<|aA Z<|iL (Bh Z) Z<|cQ h λE h=>aB (Nr Z Z E) Z<|cQ h λw h=>aB (bG Z Z (Bh Z) Z Z w) Z<|aB (cI Z (Bh Z) Z Z Z eZ w) Z<|cQ h λy h=>aB (bG Z Z (dR (aI.res 0 Z) iY) Z Z y) Z<|Lo 0 z y Z Z Z Z Z Z Z<|eS<|lA<|aR<|aA Z<|cN Z<|aC Z<|aP ?_;exact xD ((wI .i64 (a.1+(1:Int))),(List.set a.2 (Int.toNat (wI .i64 ((wI .i64 (d*(k.length:Int)))+a.1))) z)) () h SF Z
  refine eP ?_;exact f_ (a.2) () h SF Z
 intro s G h;refine aU<|cM 1 Z<|aA Z<|aA Z<|eI h λJ K h=>aJ (zBb Xi (GN U A B H q p J K) Z (aH.cons (b_ Z) (aH.cons (mR Z) (aH.cons (zI Z) (aH.cons (dR (aI.res 0 Z) iY) .nil))))) Z λL=>bZ (fZ 1 Z (lH (j:=0) Z iY))<|aA Z<|cQ h λf h=>aB (bK Z Z (cK (i:=0) (j:=0) Z Z) Z Z f) Z<|bD (aX (b_ Z)) λv=>aB (gE 0 Z Z v Z Z f) Z<|aC Z<|aP<|aS ?_;cases h;exact kY (at' L.2 d) Z Z (RV.tmp Z) .nil (aH.cons (bO (b_ Z) f.1 f.2) aH.nil)
def uL (b:bQ) (a:List bQ×List (List bQ)):Option Bn:=
 some ((b,a.1,a.2))
def pL (c:NW) (b:UQ->Option Bn) (a:Int×List (List bQ)×List bQ):Option Bn:=
 b (a.1,(wI .i64 (c.2.1+(1:Int))),a.2.2,a.2.1)
def uM (a:NW) (c:UQ->Option Bn) (b:Int×bQ×List bQ):Option Bn:=
 ck ((a.2.2.1.length:Int)+(List.length ([b.2.1]):Int)<=1099511627) (ck ((a.2.2.2.length:Int)+(List.length ([b.2.2]):Int)<=1099511627) (pL a c (b.1,(a.2.2.2++[b.2.2]),(a.2.2.1++[b.2.1]))))
def uN (a:Int×bQ×List bQ×Int) (c:(Int×bQ×List bQ×Int)->Option Bn) (d:bT) (b:bQ):Option Bn:=
 ck ((a.2.2.1.length:Int)+(List.length ([b]):Int)<=1099511627) (c ((wI .i64 (a.1+(1:Int))),(a.2.1++[d]),(a.2.2.1++[b]),(wI .i64 (a.2.2.2+(1:Int)))))
def uO (U:Nat) (j:Kx) (i:cJ) (k:AX) (h:NW) (b:Int×bQ×List bQ×Int) (d:(Int×bQ×List bQ×Int)->Option Bn) (g:bT) (f:Int) (a:bQ×Int) (e:(bQ×Int)->Option Bn):Option Bn:=
 if a.2<f then(Option.bind (pX U ((i.1,i.2)) k h.2.1 j.2.2.1 (wI .i64 ((wI .i64 ((5:Int)*b.1))+(wI .i64 ((2:Int)*a.2))))) λc=>(ck ((a.1.length:Int)+(List.length ([c]):Int)<=1099511627) (e ((a.1++[c]),(wI .i64 (a.2+(1:Int)))))))else(uN b d g (a.1))
def kQ (U:Nat) (f:Kx) (g:cJ) (h:AX) (e:NW) (b:Int×bQ×List bQ×Int) (a:(Int×bQ×List bQ×Int)->Option Bn) (d:bT) (c:Int):Option Bn:=
 bL (uO U f g h e b a d c) U (([]:bQ),(0:Int))
def kR (U:Nat) (e:Kx) (f:cJ) (i:AX) (j:Int) (b:NW) (g:UQ->Option Bn) (a:Int×bQ×List bQ×Int) (c:(Int×bQ×List bQ×Int)->Option Bn):Option Bn:=
 ck (0<=b.2.1/\b.2.1<(f.2.length:Int)) (if a.2.2.2<((at' f.2 b.2.1).length:Int)then(ck (0<=b.2.1/\b.2.1<(f.2.length:Int)) (ck (0<=a.2.2.2/\a.2.2.2<((at' f.2 b.2.1).length:Int)) (Option.bind (pX U ((f.1,f.2)) i ((at' (at' f.2 b.2.1) a.2.2.2).1) e.2.1 (wI .i64 ((3:Int)*a.1))) λd=>(ck ((a.2.1.length:Int)+(List.length ([d]):Int)<=1099511627) (if(0:Int)<(e.2.2.2.length:Int)then(ck ((e.2.2.2.length:Int)≠0) (ck (0<=(Int.tmod a.1 (e.2.2.2.length:Int))/\(Int.tmod a.1 (e.2.2.2.length:Int))<(e.2.2.2.length:Int)) (Option.bind (iD U (at' e.2.2.2 (Int.tmod a.1 (e.2.2.2.length:Int))) (wI .i64 (j+(1:Int)))) λh=>(kQ U e f i b a c d (h)))))else(kQ U e f i b a c d (0:Int)))))))else(uM b g (a.1,a.2.1,a.2.2.1)))
def gK (U:Nat) (d:Kx) (c:cJ) (e:AX) (f:Int) (g:bQ) (a:NW) (b:UQ->Option Bn):Option Bn:=
 if a.2.1<(c.2.length:Int)then(bL (kR U d c e f a b) U (a.1,([]:bQ),([]:rV),(0:Int)))else(uL g (a.2.2.1,a.2.2.2))
def nF (U:Nat) (b:Kx) (a:cJ) (c:AX) (d:Int):Option Bn:=
 Option.bind (kH U ((a.1,a.2)) c b.1) λe=>(bL (gK U b a c d e) U ((0:Int),(0:Int),([]:rV),([]:CW)))
theorem acQ:bB Tryz.prog 11:=Tryz.call11
theorem Hw (U:Nat) {S:Kx} {p1:cJ} {p2:AX} {p3:Int} (v0 v1 v2 v3 v4 v5:V0) (z6:kX) (T:V0) (r:(bQ×List bQ×List (List bQ))) (h:nF U S p1 p2 p3=some r):
  bE Tryz.prog 11 #[Value.agg #[v0,v1,v2,v3],Value.agg #[v4,v5],T,vI (p3)] [Sl aM v0 S.1,Sl aM v1 S.2.1,Sl aM v2 S.2.2.1,Sl aM v3 S.2.2.2,Sl aM v4 p1.1,S2 aY v5 z6 p1.2,Sl aE T p2] (λx:Rx=>Value.agg #[x.1,x.2.2.1,x.2.2.2.2.1]) (λx l=>l) (λx l=>S2 aM x.1 x.2.1 r.1::S3 aM x.2.2.1 x.2.2.2.1 r.2.1::S4 aM x.2.2.2.2.1 x.2.2.2.2.2 r.2.2::l):=by
 let ai:=(tg 1 ([]:fL))
 let L:=Sl aM v1 S.2.1;let K:=S2 aY v5 z6 p1.2;let am:=Sl aM v3 S.2.2.2;let al:=Sl aM v2 S.2.2.1;refine bE.of Tryz.func11 Z Tryz.ntmps11 Z λc=>?_;refine aU<|aJ (aQ.box (cs:=[v0,v1,v2,v3]) Z Z) Z λb1=>let ao:=bM b1 [v0,v1,v2,v3] 26;aJ (aQ.box (cs:=[v4,v5]) Z Z) Z λb2=>let P:=bM b2 [v4,v5] 31;aJ (aQ.alloc (cs:=[cW,cW,cW]) Z Z) Z λb3=>let ak:=bM b3 [cW,cW,cW] 43;aP<|aU<|cM 1 Z<|aA Z<|bV Z<|dK 2 Z<|eI h λr4 w5 h=>let aq:=(gK U S p1 p2 p3 r4);aJ (zBb Xi (GN U v4 v5 z6 T v0 r4 w5) Z (iB [4,5,6,0] Z)) Z λQ=>let aj:=Ar bJ.raw Q.1 Q.2;bZ (fZ 1 Z (lH (j:=0) Z iY))<|bD (tM (cK (i:=0) (j:=0) Z Z)) λbC=>?_
 refine aB (Oy (r:=Value.agg #[Q.1,cW,cW]) Z (by intro w;simp[Instr.build,Instr.fill,gT,fN,e_,gU,gV,fO,iS,iF bC])) Z ?_;refine aJ (aQ.alloc (cs:=[cW,cW,cW]) Z Z) Z λb8=>bD (tM (cK (i:=1) (j:=0) Z Z)) λbF=>cD 0 (vs:=[Q.1,cW,cW]) Z Z (fY bF (fY Z (fY Z Z))) Z Z Z<|aP<|aU<|aC Z<|aP<|aN<|jW (B:=NV) (λV=>uL r4 V=some r) (λV d=>[(8,vP b3),(9,vP b8)]) (λV d=>[bM b8 [Q.1,d.1,d.2.2.2.1] 43,aj,ak,Ar bJ.raw d.1 d.2.1,fQ bJ.raw d.2.1 d.2.2.1,Ar bJ.raw d.2.2.2.1 d.2.2.2.2.1,tC bJ.raw d.2.2.2.2.1 d.2.2.2.2.2.1 d.2.2.2.2.2.2]) (λV d=>[mT aM Q.2 r4,Sl aM v0 S.1,L,al,am,Sl aM v4 p1.1,K,Sl aE T p2,wX aM d.2.2.1 V.1,Bz aM d.2.2.2.2.2.2 V.2]) ?_ ?_
 ·refine aU<|aC Z<|aP<|aT<|bZ (gC bJ.raw)<|bZ (iJ bJ.raw)<|bZ (cG (eC:aI _ _ (wX aM (tg 1 ([]:Bp)) ([]:rV))))<|bZ (gC bJ.raw)<|bZ (uG bJ.raw)<|bZ (cG (eC:aI _ _ (Bz aM (tg 2 ([]:MB)) ([]:CW))))<|nH (B:=NV) aq (λk g=>[(2,T),(3,vI (p3)),(4,vP b1),(5,vP b2),(8,vP b3),(9,vP b8),(10,vI (k.1)),(11,vI (k.2.1))]) (λk g=>[bM b8 [Q.1,g.1,g.2.2.2.1] 43,aj,ak,P,ao,Ar bJ.raw g.1 g.2.1,fQ bJ.raw g.2.1 g.2.2.1,Ar bJ.raw g.2.2.2.1 g.2.2.2.2.1,tC bJ.raw g.2.2.2.2.1 g.2.2.2.2.2.1 g.2.2.2.2.2.2]) (λk g=>[mT aM Q.2 r4,Sl aM v0 S.1,L,al,am,Sl aM v4 p1.1,K,Sl aE T p2,wX aM g.2.2.1 k.2.2.1,Bz aM g.2.2.2.2.2.2 k.2.2.2]) ((0:Int),(0:Int),([]:rV),([]:CW)) ((tg 1 (cW)),ai,(tg 1 ([]:Bp)),(tg 2 (cW)),(tg 2 ([]:fL)),(tg 2 ([]:Bp)),(tg 2 ([]:MB))) h SF (a_.ix [4,5,6,7,8,3,2,1,0] Z Z) (iB [2,3,4,5,6,7,8,9,1,0] Z) ?_;intro bm k g h;let ag:=Ar bJ.raw g.1 g.2.1;let ae:=wX aM g.2.2.1 k.2.2.1;let ac:=fQ bJ.raw g.2.1 g.2.2.1;let bb:=(kR U S p1 p2 p3 k (bL aq bm))
  let y:=g.2.2.2;let ah:=Ar bJ.raw y.1 y.2.1;let af:=Bz aM y.2.2.2 k.2.2.2;let ad:=bM b8 [Q.1,g.1,y.1] 43;let a8:=tC bJ.raw y.2.1 y.2.2.1 y.2.2.2;refine aN<|aU<|aA Z<|bV Z<|dK 3 Z<|aB (dM Z (Fy Z) Z) Z<|cU Z<|aP ?_;refine eG h Z (λh=>?_) λh=>?_
  ·refine cL<|aN<|jW (B:=V0×V0×List V0×List (List V0)×List V0×List (List V0)×List (List (List V0))) (λN=>pL k (bL aq bm) N=some r) (λN n=>[(2,T),(3,vI (p3)),(4,vP b1),(5,vP b2),(8,vP b3),(9,vP b8),(10,vI (N.1)),(11,vI (k.2.1))]) (λN n=>[bM b8 [Q.1,n.1,n.2.1] 43,aj,ak,P,ao,Ar bJ.raw n.1 n.2.2.1,fQ bJ.raw n.2.2.1 n.2.2.2.1,Ar bJ.raw n.2.1 n.2.2.2.2.1,tC bJ.raw n.2.2.2.2.1 n.2.2.2.2.2.1 n.2.2.2.2.2.2]) (λN n=>[Bz aM n.2.2.2.2.2.2 N.2.1,wX aM n.2.2.2.1 N.2.2,mT aM Q.2 r4,Sl aM v0 S.1,L,al,am,Sl aM v4 p1.1,K,Sl aE T p2]) ?_ ?_
   ·refine aT<|aU<|aC Z<|aP<|aU<|aC Z<|aP<|aN<|jW (B:=V0×List V0×V0×List V0×List (List V0)) (λO=>uM k (bL aq bm) O=some r) (λO m=>[(2,T),(3,vI (p3)),(4,vP b1),(5,vP b2),(8,vP b3),(9,vP b8),(10,vI (O.1)),(11,vI (k.2.1)),(12,m.1),(13,m.2.2.1)]) (λO m=>[ad,aj,ak,P,ao,ag,ac,ah,a8,Ar bJ.raw m.1 m.2.1,Ar bJ.raw m.2.2.1 m.2.2.2.1,fQ bJ.raw m.2.2.2.1 m.2.2.2.2]) (λO m=>[mT aM Q.2 r4,Sl aM v0 S.1,L,al,am,Sl aM v4 p1.1,K,Sl aE T p2,ae,af,mT aM m.2.1 O.2.1,wX aM m.2.2.2.2 O.2.2]) ?_ ?_
    ·refine aU<|aC Z<|aP<|aT<|bZ (gC bJ.raw)<|bZ (cG (eC:aI _ _ (mT aM ai ([]:bQ))))<|bZ (gC bJ.raw)<|bZ (iJ bJ.raw)<|bZ (cG (eC:aI _ _ (wX aM (tg 2 ([]:Bp)) ([]:rV))))<|nH (B:=V0×List V0×V0×List V0×List (List V0)) bb (λa f=>[(2,T),(3,vI (p3)),(4,vP b1),(5,vP b2),(8,vP b3),(9,vP b8),(10,vI (a.1)),(11,vI (k.2.1)),(12,f.1),(13,f.2.2.1),(14,vI (a.2.2.2))]) (λa f=>[ad,aj,ak,P,ao,ag,ac,ah,a8,Ar bJ.raw f.1 f.2.1,Ar bJ.raw f.2.2.1 f.2.2.2.1,fQ bJ.raw f.2.2.2.1 f.2.2.2.2]) (λa f=>[mT aM Q.2 r4,Sl aM v0 S.1,L,al,am,Sl aM v4 p1.1,K,Sl aE T p2,ae,af,mT aM f.2.1 a.2.1,wX aM f.2.2.2.2 a.2.2.1]) (k.1,([]:bQ),([]:rV),(0:Int)) ((tg 1 (cW)),ai,(tg 2 (cW)),(tg 2 ([]:fL)),(tg 2 ([]:Bp))) h SF (a_.ix [3,4,5,6,7,8,9,10,11,2,1,0] Z Z) (iB [2,3,4,5,6,7,8,9,10,11,1,0] Z) ?_;intro a2 a f h;let C:=f.2.2;let a7:=Ar bJ.raw C.1 C.2.1;let a6:=wX aM C.2.2 a.2.2.1;let a5:=fQ bJ.raw C.2.1 C.2.2;refine aN<|aU<|aA Z<|bV Z<|dK 3 Z<|aA Z<|cQ h λap h=>aB (bK Z Z (Fy Z) Z Z ap) Z<|aB (bS Z (Fy Z) Z Z ap) Z<|aB (fH Z (zBc (Fy Z) ap.1 ap.2) Z) Z<|cU Z<|aP ?_;refine eG h Z (λh=>?_) λh=>?_
     ·refine cL<|aN<|aT<|aN ?_;refine rP [0,0,0,0,8,0,56,120,0,504,1016,2040,0,4096,0,16384,65534,131070,262143,524287] 18 mixedOrders ?_;refine aV Z<|jA 3 Z<|aV Z<|cC Z<|eQ 3 Z<|aV Z<|cQ h λR h=>bA Z .nil (eV 6 Z) (bK Z Z (b_ Z) Z Z R) aL.z<|bA Z .nil (eV 6 Z) (bS Z (b_ Z) Z Z R) aL.z<|aV Z<|cQ h λbe h=>bA Z .nil (eV 6 Z) (bG Z Z (zBc (b_ Z) R.1 R.2) Z Z be) aL.z<|eN Z (dC Z Z Z Z Z)<|bA Z .nil (eV 6 Z) (eL Z (zBc (b_ Z) R.1 R.2) Z Z Z gA be) aL.z<|cC Z<|eQ 4 Z<|aV Z<|eN Z (xA Z Z)<|eI h λA bx h=>zBd Z Z Z (aQ.call Xj (HM U v4 v5 z6 T v1 A bx) Z (gQ.cons (zA0 (i:=5) Z) (gQ.cons (zA0 (i:=6) Z) (gQ.cons (zA0 (i:=7) Z) (eV 2 Z)))) (λ_ _=>rfl) (λ_ _=>rfl)) Z (λu=>(nK [] Z)) λu=>let a3:=mT aM (f.2.1++[u]) (a.2.1++[A]);aZ (Know.one ((b_ Z))) λaW=>zBe (cG (hJ (b_ Z) eC))<|zBd Z Z Z (cX (e:=bJ.raw) ([u]) [(0,u)] Z Z Z Z (jU (u) aW) Z Z (fY aW Z)) Z (λbt=>(nK [] Z)) λbt=>bN 18 Z Z<|bD (aX (Da Z)) λax=>bD (aX (b_ Z)) λay=>cQ h λbf h=>bZ (cG (gH (Da Z) (b_ Z))) ?_
      refine aJ (aQ.append 10 0 Z Z Z Z Z Z Z (by have q:=bf;have q0:=ax;have q1:=ay;(try simp only[zA8,zAg,zA5]at *);omega) (by have q:=bf;have q0:=ax;have q1:=ay;(try simp only[zA8,zAg,zA5]at *);omega) Z) Z λan=>let a4:=Ar bJ.raw an (f.2.1++[u]);?_
      refine aC Z<|aP<|aU<|aC Z<|aP<|aU<|aC Z<|aP<|aN<|jW (B:=Unit) (λD=>kQ U S p1 p2 k a (bL bb a2) A D=some r) (λD aw=>[(2,T),(3,vI (p3)),(4,vP b1),(5,vP b2),(8,vP b3),(9,vP b8),(10,vI (a.1)),(11,vI (k.2.1)),(12,an),(13,C.1),(14,vI (a.2.2.2)),(15,cW),(16,vI (D))]) (λD aw=>[ad,aj,ak,P,ao,ag,ac,ah,a8,a4,a7,a5]) (λD aw=>[a3,Sl aM u A,mT aM Q.2 r4,Sl aM v0 S.1,L,al,am,Sl aM v4 p1.1,K,Sl aE T p2,ae,af,a6]) ?_ ?_
      ·refine aU<|bV Z<|dK 5 Z<|iL (z_ Z) Z<|aB (wY Z Z) Z<|aP ?_;refine eG h Z (λh=>?_) λh=>?_
       ·refine rP [0,1,0,0,8,24,60,127,255,0,512,2047,4095] 11 mixedOrders ?_;refine cC Z<|eQ 5 Z<|aV Z<|cC Z<|eQ 5 Z<|bA Z .nil (eV 7 Z) (fH Z (b_ Z) Z) aL.z<|cQ h λbs h=>eN Z (Nr Z Z bs)<|cQ h λbi h=>bA Z .nil (eV 7 Z) (bG Z Z (b_ Z) Z Z bi) aL.z<|bA Z .nil (eV 7 Z) (cI Z (b_ Z) Z Z Z eZ bi) aL.z<|aV Z<|eN Z (zN Z Z)<|bN 11 Z Z<|eI h λbl bB h=>aJ (zBb El (kK U bl bB) Z .nil) Z λbP=>aC Z<|aP ?_;exact cB (bl) () h SF (a_.ix [1,2,3,4,5,6,7,8,9,10,11,12] Z Z) (iB [0,2,3,4,5,6,7,8,9,10,11,12,14] Z)
       refine cL ?_;exact cB (0:Int) () h SF (a_.ix [1,2,3,4,5,6,7,8,9,10,11,12] Z Z) (iB [0,2,3,4,5,6,7,8,9,10,11,12,14] Z)
      intro D aw h;unfold kQ at h;refine aN<|jW (B:=DN) (λM=>uN a (bL bb a2) A M=some r) (λM p=>[(2,T),(3,vI (p3)),(4,vP b1),(5,vP b2),(8,vP b3),(9,vP b8),(10,vI (a.1)),(11,vI (k.2.1)),(12,an),(13,C.1),(14,vI (a.2.2.2)),(15,p.1)]) (λM p=>[ad,aj,ak,P,ao,ag,ac,ah,a8,a4,a7,a5,Ar bJ.raw p.1 p.2]) (λM p=>[a3,Sl aM u A,mT aM Q.2 r4,Sl aM v0 S.1,L,al,am,Sl aM v4 p1.1,K,Sl aE T p2,ae,af,a6,mT aM p.2 M]) ?_ ?_
      ·refine aU<|aC Z<|aP<|aT<|bZ (gC bJ.raw)<|bZ (cG (eC:aI _ _ (mT aM ai ([]:bQ))))<|nH (B:=DN) (uO U S p1 p2 k a (bL bb a2) A D) (λE s=>[(2,T),(3,vI (p3)),(4,vP b1),(5,vP b2),(8,vP b3),(9,vP b8),(10,vI (a.1)),(11,vI (k.2.1)),(12,an),(13,C.1),(14,vI (a.2.2.2)),(15,s.1),(16,vI (D)),(17,vI (E.2))]) (λE s=>[ad,aj,ak,P,ao,ag,ac,ah,a8,a4,a7,a5,Ar bJ.raw s.1 s.2]) (λE s=>[a3,Sl aM u A,mT aM Q.2 r4,Sl aM v0 S.1,L,al,am,Sl aM v4 p1.1,K,Sl aE T p2,ae,af,a6,mT aM s.2 E.1]) (([]:bQ),(0:Int)) ((tg 1 (cW)),ai) h SF (a_.ix [1,2,3,4,5,6,7,8,9,10,11,12,0] Z Z) (iB [1,2,3,4,5,6,7,8,9,10,11,12,13,0] Z) ?_;intro bH E s h;refine aN<|aU<|aA Z<|aA Z<|cU Z<|aP ?_;refine eG h Z (λh=>?_) λh=>?_
       ·refine cL<|aN<|aT<|aR<|aA Z<|cM 3 Z<|aA Z<|aA Z<|bV Z<|dK 4 Z<|aA Z<|aB (xA Z Z) Z<|aA Z<|aB (xA Z Z) Z<|cN Z<|eI h λbk bz h=>aJ (aQ.call Xj (HM U v4 v5 z6 T v2 bk bz) Z (gQ.cons (zA0 (i:=7) Z) (gQ.cons (zA0 (i:=8) Z) (gQ.cons (zA0 (i:=9) Z) (eV 5 Z)))) (λ_ _=>rfl) (λ_ _=>rfl)) Z λar=>bD (Know.one ((b_ Z))) λa1=>bZ (cG (hJ (b_ Z) eC))<|aJ (cX (e:=bJ.raw) ([ar]) [(0,ar)] Z Z Z Z (jU (ar) a1) Z Z (fY a1 Z)) Z λbO=>bD (aX (aI.fact 15 Z)) λaK=>bD (aX (b_ Z)) λaO=>cQ h λbh h=>bZ (cG (gH (aI.fact 15 Z) (b_ Z))) ?_;refine aJ (aQ.append 13 0 Z Z Z Z Z Z Z (by have q:=bh;have q0:=aK;have q1:=aO;(try simp only[zA8,zAg,zA5]at *);omega) (by have q:=bh;have q0:=aK;have q1:=aO;(try simp only[zA8,zAg,zA5]at *);omega) Z) Z λbw=>?_;refine aC Z<|eS<|lA<|aR<|aA Z<|cN Z<|aC Z<|aP ?_;exact iP ((E.1++[bk]),(wI .i64 (E.2+(1:Int)))) (bw,(s.2++[ar])) h SF (a_.ix [1,2,3,4,5,6,7,8,9,10,11,12,13] Z Z) (iB [3,4,5,6,7,8,9,10,11,12,13,14,15,0] Z)
       refine eP ?_;exact f_ (E.1) (s.1,s.2) h SF Z
      intro M p h;refine aU<|aA Z<|aA Z<|bD (tM (cK (i:=12) (j:=13) Z Z)) λa0=>bZ (iJ bJ.raw)<|bZ (rX 0 13 Z Z Z)<|bZ (cG (hJ (aI.fact 13 Z) eC))<|aJ (cX (e:=bJ.raw) ([p.1]) [(0,p.1)] Z Z Z Z (jU (p.1) a0) Z Z (fY a0 Z)) Z λbI=>bD (aX (aI.fact 13 Z)) λaz=>bD (aX (b_ Z)) λaD=>bD (dQ 13 Z) λaF=>bD (dQ 1 Z) λaG=>cQ h λbg h=>bZ (cG (gH (aI.fact 13 Z) (b_ Z)))<|bZ (nP 13 1 Z Z Z) ?_;refine aJ (aQ.append 11 0 Z Z Z Z Z Z Z (by have q:=bg;have q0:=az;have q1:=aD;have q2:=aF;have q3:=aG;(try simp only[zA8,zAg,zA5]at *);omega) (by have q:=bg;have q0:=az;have q1:=aD;have q2:=aF;have q3:=aG;(try simp only[zA8,zAg,zA5]at *);omega) Z) Z λbu=>?_;refine aC Z<|aP<|aR<|aA Z<|cN Z<|aC Z<|eS<|lA<|aR<|aA Z<|cN Z<|aC Z<|aP ?_;exact iP ((wI .i64 (a.1+(1:Int))),(a.2.1++[A]),(a.2.2.1++[M]),(wI .i64 (a.2.2.2+(1:Int)))) (an,(f.2.1++[u]),bu,(C.2.1++[p.1]),(C.2.2++[p.2])) h SF (a_.ix [1,2,3,4,5,6,7,8,9,10,11,12] Z Z) (iB [4,5,6,7,8,9,10,11,12,13,2,0] Z)
     refine eP ?_;exact f_ (a.1,a.2.1,a.2.2.1) (f.1,f.2.1,C.1,C.2.1,C.2.2) h SF Z
    intro O m h;let t:=m.2.2.1;refine cQ h λau h=>cQ h λba h=>Jt [0,1,0,4,15,0,32,0,128,511,127,2047,4095,8191] 11 [[0,1,2,5,6,7,3,4,10,8,9,11,12,13],[0,1,2,5,6,7,3,8,4,10,9,11,12,13],[0,1,2,5,6,7,8,3,4,10,9,11,12,13]] mixedOrders (by decide +kernel) (by decide +kernel) ?_;intro o ho;simp only[zAn,List.not_mem_nil,or_false]at ho;rcases ho with rfl|rfl|rfl
    all_goals
     iterate 11 first
      |refine bA (i:=0) Z .nil .nil (cT Z Z Z Z Z) aL.z ?_
      |refine bA (i:=1) Z (a_.cons 0 Z .nil) .nil (dL 0 Z Z Z Z Z) aL.z ?_
      |refine bA (i:=2) Z .nil .nil (dG Z) aL.z ?_
      |refine aZ (tM (cK (i:=9) (j:=10) Z Z)) λab=>?_
       refine zBe (iJ bJ.raw)<|zBe (rX 0 10 Z Z Z)<|zBe (cG (hJ (Gw Z) eC))<|zBd (i:=3) Z Z Z (cX (e:=bJ.raw) ([m.1]) [(0,m.1)] Z Z Z Z (jU (m.1) ab) Z Z (fY ab Z)) Z (λbn=>(nK [([2],[]),([2],[])] Z)) λbn=>?_
      |refine aZ (tM (cK (i:=11) (j:=11) Z Z)) λab=>?_
       refine zBe (iJ bJ.raw)<|zBe (rX 0 12 Z Z Z)<|zBe (cG (hJ (yT Z) eC))<|zBd (i:=3) Z Z Z (cX (e:=bJ.raw) ([m.1]) [(0,m.1)] Z Z Z Z (jU (m.1) ab) Z Z (fY ab Z)) Z (λbn=>(nK [([4],[]),([4],[])] Z)) λbn=>?_
      |refine aZ (aX (Ir Z)) λF=>?_
       refine aZ (aX (b_ Z)) λG=>aZ (dQ 8 Z) λH=>aZ (dQ 1 Z) λI=>zBe (cG (gH (Ir Z) (b_ Z)))<|zBe (nP 8 1 Z Z Z) ?_;refine zBd (i:=4) Z Z Z (aQ.append 6 0 Z Z Z Z Z Z Z (by have q:=au;have q0:=F;have q1:=G;have q2:=H;have q3:=I;(try simp only[zA8,zAg,zA5]at *);omega) (by have q:=au;have q0:=F;have q1:=G;have q2:=H;have q3:=I;(try simp only[zA8,zAg,zA5]at *);omega) Z) Z (λav=>(nK [([1],[])] Z)) λav=>?_
      |refine aZ (aX (Gw Z)) λF=>?_
       refine aZ (aX (mR Z)) λG=>aZ (dQ 10 Z) λH=>aZ (dQ 3 Z) λI=>zBe (cG (gH (Gw Z) (mR Z)))<|zBe (nP 10 3 Z Z Z) ?_;refine zBd (i:=4) Z Z Z (aQ.append 8 2 Z Z Z Z Z Z Z (by have q:=au;have q0:=F;have q1:=G;have q2:=H;have q3:=I;(try simp only[zA8,zAg,zA5]at *);omega) (by have q:=au;have q0:=F;have q1:=G;have q2:=H;have q3:=I;(try simp only[zA8,zAg,zA5]at *);omega) Z) Z (λav=>(nK [([3],[])] Z)) λav=>?_
      |refine aZ (aX (Gw Z)) λF=>?_
       refine aZ (aX (b_ Z)) λG=>aZ (dQ 10 Z) λH=>aZ (dQ 1 Z) λI=>zBe (cG (gH (Gw Z) (b_ Z)))<|zBe (nP 10 1 Z Z Z) ?_;refine zBd (i:=4) Z Z Z (aQ.append 8 0 Z Z Z Z Z Z Z (by have q:=au;have q0:=F;have q1:=G;have q2:=H;have q3:=I;(try simp only[zA8,zAg,zA5]at *);omega) (by have q:=au;have q0:=F;have q1:=G;have q2:=H;have q3:=I;(try simp only[zA8,zAg,zA5]at *);omega) Z) Z (λav=>(nK [([3],[])] Z)) λav=>?_
      |refine bA (i:=5) Z .nil .nil (cT Z Z Z Z Z) aL.z ?_
      |refine bA (i:=6) Z (a_.cons 0 Z .nil) .nil (dL 0 Z Z Z Z Z) aL.z ?_
      |refine bA (i:=7) Z .nil .nil (dG Z) aL.z ?_
      |refine aZ (tM (fM (i:=10) (q:=11) (j:=13) Z Z Z)) λJ=>?_
       refine zBe (uG bJ.raw)<|zBe (G_ 11 12 Z Z Z)<|zBe (Do 0 11 Z Z Z)<|zBe (cG (hJ (aI.fact 13 Z) eC))<|zBd (i:=8) Z Z Z (cX (e:=bJ.raw) ([t]) [(0,t)] Z Z Z Z (jU (t) J) Z Z (fY J Z)) Z (λa9=>(nK [([3],[]),([3],[])] Z)) λa9=>?_
      |refine aZ (tM (fM (i:=11) (q:=12) (j:=12) Z Z Z)) λJ=>?_
       refine zBe (uG bJ.raw)<|zBe (G_ 12 13 Z Z Z)<|zBe (Do 0 12 Z Z Z)<|zBe (cG (hJ (Da Z) eC))<|zBd (i:=8) Z Z Z (cX (e:=bJ.raw) ([t]) [(0,t)] Z Z Z Z (jU (t) J) Z Z (fY J Z)) Z (λa9=>(nK [([4],[]),([4],[])] Z)) λa9=>?_
      |refine aZ (tM (fM (i:=10) (q:=11) (j:=11) Z Z Z)) λJ=>?_
       refine zBe (uG bJ.raw)<|zBe (G_ 11 12 Z Z Z)<|zBe (Do 0 11 Z Z Z)<|zBe (cG (hJ (yT Z) eC))<|zBd (i:=8) Z Z Z (cX (e:=bJ.raw) ([t]) [(0,t)] Z Z Z Z (jU (t) J) Z Z (fY J Z)) Z (λa9=>(nK [([2],[]),([2],[])] Z)) λa9=>?_
      |refine aZ (aX (Da Z)) λW=>?_
       refine aZ (aX (by first|exact aI.fact 0 Z|exact aI.fact 1 Z)) λX=>?_;refine aZ (kC 11 Z) λY=>aZ (kC 1 Z) λaa=>?_;refine zBe (cG (by first|exact gH (Da Z) (b_ Z)|exact gH (Da Z) (mR Z))) ?_;refine zBe (Fj 11 1 Z Z Z) ?_;refine zBd (i:=9) Z Z Z (aQ.append 9 0 Z Z Z Z Z Z Z (by have q:=ba;have q0:=W;have q1:=X;have q2:=Y;have q3:=aa;(try simp only[zA8,zAg,zA5]at *);omega) (by have q:=ba;have q0:=W;have q1:=X;have q2:=Y;have q3:=aa;(try simp only[zA8,zAg,zA5]at *);omega) Z) Z (λbc=>(nK [] Z)) λbc=>?_
      |refine aZ (aX (Da Z)) λW=>?_
       refine aZ (aX (zI Z)) λX=>aZ (kC 11 Z) λY=>aZ (kC 2 Z) λaa=>zBe (cG (gH (Da Z) (zI Z)))<|zBe (Fj 11 2 Z Z Z) ?_;refine zBd (i:=9) Z Z Z (aQ.append 9 1 Z Z Z Z Z Z Z (by have q:=ba;have q0:=W;have q1:=X;have q2:=Y;have q3:=aa;(try simp only[zA8,zAg,zA5]at *);omega) (by have q:=ba;have q0:=W;have q1:=X;have q2:=Y;have q3:=aa;(try simp only[zA8,zAg,zA5]at *);omega) Z) Z (λbc=>(nK [] Z)) λbc=>?_
      |refine bA (i:=10) Z .nil .nil (cT Z Z Z Z Z) (by first|exact aL.b Z (uR Z)|exact aL.b Z hkN|exact aL.b Z hkN) ?_
     refine bN 11 Z Z ?_
     first
      |refine bD (tM (fM (i:=7) (q:=8) (j:=2) Z Z Z)) λbd=>?_
      |refine bD (tM (fM (i:=7) (q:=8) (j:=1) Z Z Z)) λbd=>?_
     refine qN 2 Z Z bd Z Z Z<|bV Z<|bD (tM (gO (i:=9) (q:=10) (j:=0) Z Z Z)) λbr=>qN 2 Z Z br Z Z Z<|eS<|lA ?_;exact cB (O.1,(k.2.2.2++[O.2.2]),(k.2.2.1++[O.2.1])) (av,bc,(g.2.1++[m.1]),(g.2.2.1++[m.2.1]),(y.2.1++[t]),(y.2.2.1++[m.2.2.2.1]),(y.2.2.2++[m.2.2.2.2])) h SF (a_.ix [2,3,4,5,6,7,8,9,10] Z Z) (by first|exact aH.cons (b_ Z) (iB [2,4,5,6,7,8,9,10,11] Z)|exact aH.cons (b_ Z) (iB [1,4,5,6,7,8,9,10,11] Z))
   intro N n h;unfold pL at h;refine aR<|aA Z<|cN Z<|aC Z<|aP ?_;exact iP (N.1,(wI .i64 (k.2.1+(1:Int))),N.2.2,N.2.1) (n.1,n.2.2.1,n.2.2.2.1,n.2.1,n.2.2.2.2.1,n.2.2.2.2.2.1,n.2.2.2.2.2.2) h SF (a_.refl _) (iB [2,3,4,5,6,7,8,9,1,0] Z)
  refine eP ?_;exact cB (k.2.2.1,k.2.2.2) (g.1,g.2.1,g.2.2.1,y.1,y.2.1,y.2.2.1,y.2.2.2) h SF (a_.ix [0,1,2,5,6,7,8] Z Z) (aH.refl _ _)
 intro V d h;let v:=d.2.2.2;let bj:=tC bJ.raw v.2.1 v.2.2.1 v.2.2.2;unfold uL at h;refine aU<|cM 0 Z<|bD (tM (cK (i:=1) (j:=0) Z Z)) λbo=>bD (tM (fM (i:=3) (q:=4) (j:=8) Z Z Z)) λbp=>bD (tM (gO (i:=5) (q:=6) (j:=9) Z Z Z)) λbq=>cD 2 (vs:=[Q.1,d.1,d.2.2.2.1]) Z Z (fY bo (fY bp (fY bq Z))) Z Z Z<|aP<|aS<|bZ (fZ 1 Z (cK (i:=0) (j:=0) Z Z))<|bZ (tD [Ar bJ.raw d.1 d.2.1,fQ bJ.raw d.2.1 d.2.2.1] [bM b8 [Q.1,d.1,v.1] 43,bM b3 [Q.1,d.1,v.1] 43,Ar bJ.raw v.1 v.2.1,bj] (a_.ix [2,3,0,1,4,5] Z Z) (fM (i:=0) (q:=1) (j:=9) Z Z Z))<|bZ (tD [Ar bJ.raw v.1 v.2.1,bj] [bM b8 [Q.1,d.1,v.1] 43,bM b3 [Q.1,d.1,v.1] 43] (a_.ix [2,3,0,1] Z Z) (gO (i:=0) (q:=1) (j:=11) Z Z Z)) ?_;cases h;exact kY (Q.1,(List.zip Q.2 r4),d.1,(Z3 d.2.1 d.2.2.1 V.1),v.1,(Z4 v.2.1 v.2.2.1 v.2.2.2 V.2)) Z Z (RV.cell 1 Z Z Z Z) .nil (iB [2,1,0] Z)
end Go.Proofs.YtflciafboapaaaaGreat
namespace Go.Proofs.YtflciafboapaaaaGreat
open Go Go.Sx
theorem Za {g:GR} {a:List EC} {c:bQ} (h:Wo g c a) {v:Nat} (b:v<g.2.length):FK g a v (at' c (v:Int))=true:=Ef.2 ⟨h.row v b,λx d=>h.ok v b x d⟩
def Ve (g:GR) (a:List EC):Prop:=∀b,OK (λc=>Wo g c a) (kH 1000 g a b)
theorem Rq {g:GR} (u:VG g) {d:List EC} (n:d.length<=20) (h:Ve g d) {v:Nat} (q:v<g.2.length) (l:bT) {a:Int} (C:0<=a) (D:a<=1000000):OK (λs=>FK g d v s=true) (pX 1000 g d (v:Int) l a):=by
 have j:=u.n24;have E:g.2.length*d.length<=24*20:=Nat.mul_le_mul j n;have A:wI .i64 ((g.2.length:Int)*(d.length:Int))=((g.2.length*d.length:Nat):Int):=by
  rw[<-Int.natCast_mul,wr (by omega) (by omega)]
 have t:(v+1)*d.length<=g.2.length*d.length:=zAw _ q;rw[Nat.succ_mul]at t;have o:wI .i64 ((v:Int)*(d.length:Int))=((v*d.length:Nat):Int):=by
  rw[<-Int.natCast_mul,wr (by omega) (by omega)]
 unfold pX;rw[A,cF (by omega)];have e:∀all:bT,OK (λs=>FK g d v s=true) (zW 1000 g d (v:Int) all):=λall=>by
  obtain⟨c,w,f⟩:=h all;have:=f.len;unfold zW;rw[bH (show kH 1000 (g.1,g.2) d all=some c from w),cF (by omega)];exact⟨_,rfl,Za f q⟩
 refine C_ (Q:=λs=>FK g d v s=true) (λx=>∃k:Nat,x.1=(k:Int)/\k<=d.length/\x.2.length=g.2.length*d.length) (λx=>d.length - x.1.toNat) (λx B r m=> ?_) 1000 _ ⟨0,rfl,by omega,by rw[List.length_replicate,zAf]⟩ (by simp;omega);obtain⟨i,all⟩:=x;obtain⟨k,rfl,F,p⟩:=r;dsimp only at p;unfold zY zX;dsimp only;by_cases y:k<d.length
 ·rw[if_pos (by omega)];by_cases z:0<l.length
  ·have G:=Int.tmod_nonneg (a:=a+(k:Int)) (l.length:Int) (by omega);have H:=Int.tmod_lt_of_pos (a+(k:Int)) (b:=(l.length:Int)) (by omega);rw[if_pos (by rw[zAa];omega),cF (by omega),o,wr (x:=a+_) (by omega) (by omega),cF (by omega),wr (x:=((v*d.length:Nat):Int)+_) (by omega) (by omega),cF (by omega),cV (by omega)];exact m _ ⟨k+1,rfl,by omega,by simpa using p⟩ (by dsimp only;omega)
  ·rw[if_neg (by rw[zAa];omega)];exact e all
 ·rw[if_neg (by omega),if_neg (by decide)];exact e all
def abU (g:GR) (a:List EC) (b v j:Nat) (s:bT) (w:bQ):Prop:=FK g a (zF g v j) s=true/\w.length<=b/\∀x∈w,FK g a v x=true
theorem Ra {g:GR} (D:VG g) {vars:List EC} (L:vars.length<=20) (o:Ve g vars) (r:List Int×List Int×List Int×bT) {cap:Nat} (h8:cap<=8):OK (λy=>VY g vars cap y) (nF 1000 r g vars (cap:Int)):=by
 have ad:=D.n24;obtain⟨c,hc,I⟩:=o r.1;unfold nF;rw[bH (show kH 1000 (g.1,g.2) vars r.1=some c from hc)];refine C_ (Q:=λy=>VY g vars cap y) (λx=>∃v:Nat,x.2.1=(v:Int)/\v<=g.2.length/\(0<=x.1/\x.1<=24*(v:Int))/\x.2.2.1.length=v/\x.2.2.2.length=v/\∀w,w<v->(at' x.2.2.1 (w:Int)).length=(row g w).length/\(at' x.2.2.2 (w:Int)).length=(row g w).length/\∀j:Nat,j<(row g w).length->abU g vars cap w j (nS x.2.2.1 w j) (nS x.2.2.2 w j))
  (λx=>g.2.length - x.2.1.toNat) (λx ag F R=> ?_) 1000 _ ⟨0,rfl,by omega,⟨by decide,by decide⟩,rfl,rfl,λw O=>absurd O (Nat.not_lt_zero w)⟩ (by dsimp only;omega)
 obtain⟨k,vv,ca,wi⟩:=x;obtain⟨v,rfl,ah,⟨J,S⟩,p,t,d⟩:=F;dsimp only at J S p t d;unfold gK;dsimp only;by_cases h:v<g.2.length
 rotate_left
 ·obtain rfl:v=g.2.length:=by omega
  rw[if_neg (by omega)];exact⟨_,rfl,⟨I.len,⟨p,λv h=>(d v h).1⟩,⟨t,λv h=>(d v h).2.1⟩⟩,⟨λv h=>Za I h,λv i h B=>((d v h).2.2 i B).1,λv i h B=>((d v h).2.2 i B).2.2⟩,λv i h B=>((d v h).2.2 i B).2.1⟩
 have ab:=(D.node v h).deg;have K:at' g.2 (v:Int)=row g v:=rfl;rw[if_pos (by omega)];refine C_ (Q:=λy=>VY g vars cap y) (λz=>∃i:Nat,z.2.2.2=(i:Int)/\i<=(row g v).length/\(0<=z.1/\z.1<=24*(v:Int)+(i:Int))/\z.2.1.length=i/\z.2.2.1.length=i/\∀j:Nat,j<i->abU g vars cap v j (at' z.2.1 (j:Int)) (at' z.2.2.1 (j:Int)))
  (λz=>(row g v).length - z.2.2.2.toNat) (λz P F G=> ?_) 1000 _ ⟨0,rfl,by omega,⟨J,by dsimp only;omega⟩,rfl,rfl,λw O=>absurd O (Nat.not_lt_zero w)⟩ (by dsimp only;omega)
 obtain⟨l,kn,ws,ii⟩:=z;obtain⟨i,rfl,ae,⟨C,aa⟩,q,A,f⟩:=F;dsimp only at C aa q A f;unfold kR;dsimp only;rw[cF (by omega),K];by_cases B:i<(row g v).length
 rotate_left
 ·obtain rfl:i=(row g v).length:=by omega
  rw[if_neg (by omega)];unfold uM pL;dsimp only;rw[cF (by simp;omega),cF (by simp;omega),cV (by omega)];refine R _ ⟨v+1,rfl,by omega,⟨C,by dsimp only;omega⟩,by simp[p],by simp[t],λw O=> ?_⟩ (by dsimp only;omega);dsimp only[nS];rw[Hn ca kn (by omega),Hn wi ws (by omega),p,t];by_cases e:w<v
  ·rw[if_pos e,if_pos e];exact d w e
  ·obtain rfl:w=v:=by omega
   rw[if_neg e,if_neg e];exact⟨q,A,f⟩
 have V:=tO D h B;have W:=(Bi D h B).ul;have T:at' (row g v) (i:Int)=jM (row g v) i:=rfl;obtain⟨s,hs,U⟩:=Rq D L o W r.2.1 (a:=3*l) (by omega) (by omega);rw[if_pos (by omega),cF (by omega),cF (by omega),T,V,wr (x:=3*l) (by omega) (by omega),bH (show pX 1000 (g.1,g.2) vars _ _ _=some s from hs),cF (by simp;omega)];have E:∀m:Nat,m<=cap->OK (λy=>VY g vars cap y) (kQ 1000 r g vars (k,(v:Int),ca,wi) (l,kn,ws,(i:Int)) P s (m:Int)):=λm hm=>by
  unfold kQ;refine C_ (Q:=λy=>VY g vars cap y) (λu=>∃j:Nat,u.2=(j:Int)/\j<=m/\u.1.length=j/\∀x∈u.1,FK g vars v x=true) (λu=>m - u.2.toNat) (λu ac F H=> ?_) 1000 _ ⟨0,rfl,by omega,rfl,λx X=>absurd X List.not_mem_nil⟩ (by dsimp only;omega);obtain⟨w,jj⟩:=u;obtain⟨j,rfl,hj,M,n⟩:=F;dsimp only at M n;unfold uO;dsimp only;by_cases af:j<m
  ·obtain⟨x,X,Y⟩:=Rq D L o h r.2.2.1 (a:=5*l+2*(j:Int)) (by omega) (by omega);rw[if_pos (by omega),wr (x:=5*l) (by omega) (by omega),wr (x:=2*(j:Int)) (by omega) (by omega),wr (x:=5*l+2*(j:Int)) (by omega) (by omega),bH (show pX 1000 (g.1,g.2) vars _ _ _=some x from X),cF (by simp;omega),cV (by omega)];refine H _ ⟨j+1,rfl,by omega,by simp[M],λy N=> ?_⟩ (by dsimp only;omega);rcases List.mem_append.1 N with N|N
   ·exact n y N
   ·rw[List.mem_singleton.1 N];exact Y
  ·rw[if_neg (by omega)];unfold uN;dsimp only;rw[cF (by simp;omega),wr (x:=l+1) (by omega) (by omega),cV (by omega)];refine G _ ⟨i+1,rfl,by omega,⟨by dsimp only;omega,by dsimp only;omega⟩,by simp[q],by simp[A],λz hz=> ?_⟩ (by dsimp only;omega);dsimp only;rw[Hn kn s (by omega),Hn ws w (by omega),q,A];by_cases e:z<i
   ·rw[if_pos e,if_pos e];exact f z e
   ·obtain rfl:z=i:=by omega
    rw[if_neg e,if_neg e];exact⟨U,by omega,n⟩
 by_cases hq:0<r.2.2.2.length
 ·have t1:=Int.tmod_nonneg (a:=l) (r.2.2.2.length:Int) C;have t2:=Int.tmod_lt_of_pos l (b:=(r.2.2.2.length:Int)) (by omega);have r1:=Int.emod_nonneg (at' r.2.2.2 (Int.tmod l (r.2.2.2.length:Int))) (b:=(cap:Int)+1) (by omega);have r2:=Int.emod_lt_of_pos (at' r.2.2.2 (Int.tmod l (r.2.2.2.length:Int))) (b:=(cap:Int)+1) (by omega);rw[if_pos (by omega),cF (by omega),cF (by omega),wr (x:=(cap:Int)+1) (by omega) (by omega),bH (tI _ _ (by omega) (by omega))];obtain⟨m,hm⟩:∃m:Nat,at' r.2.2.2 (Int.tmod l (r.2.2.2.length:Int))%((cap:Int)+1)=(m:Int):=⟨_,(Int.toNat_of_nonneg r1).symm⟩
  rw[hm]at r2 ⊢;exact E m (by omega)
 ·rw[if_neg (by omega)];exact E 0 (by omega)
end Go.Proofs.YtflciafboapaaaaGreat
namespace Go.Proofs.YtflciafboapaaaaGreat
open Go.Sx
def Fz (U:Nat) : Option (ByteArray):=
 some (ByteArray.mk #[112,114,111,103,114,97,109,32,98,102,115,59,10,118,97,114,32,100,32,58,32,48,32,46,46,32,110,59,10,118,97,114,32,112,32,58,32,112,111,114,116,59,10,114,117,108,101,32,116,111,112,58,32,114,111,111,116,32,38,38,32,40,100,32,33,61,32,48,32,124,124,32,112,32,33,61,32,110,111,110,101,41,32,45,62,32,100,32,58,61,32,48,44,32,112,32,58,61,32,110,111,110,101,59,10,114,117,108,101,32,108,111,119,58,32,33,114,111,111,116,32,38,38,32,40,100,32,33,61,32,40,109,105,110,40,113,46,100,41,32,60,32,110,32,63,32,109,105,110,40,113,46,100,41,32,43,32,49,32,58,32,110,41,32,124,124,32,112,32,33,61,32,102,105,114,115,116,40,113,46,100,32,61,61,32,109,105,110,40,113,46,100,41,41,41,10,32,32,45,62,32,100,32,58,61,32,40,109,105,110,40,113,46,100,41,32,60,32,110,32,63,32,109,105,110,40,113,46,100,41,32,43,32,49,32,58,32,110,41,44,32,112,32,58,61,32,102,105,114,115,116,40,113,46,100,32,61,61,32,109,105,110,40,113,46,100,41,41,59,10])
theorem acP:bB Tryz.prog 10:=Tryz.call10
theorem Tw (U:Nat) (r:ByteArray) (h:Fz U = some r):
  bE Tryz.prog 10 #[] [] (λx:Unit=>vS (r)) (λx l=>l) (λ_ l=>l):=by
 refine bE.of Tryz.func10 Z Tryz.ntmps10 Z λc=>?_;unfold Fz at h;refine aU<|aC Z<|aP<|aU<|aC Z<|aP<|aS ?_;cases h;exact iR Z
noncomputable def h_ (a:Bool):Option Bool:=
 some (a)
noncomputable def xH (U:Nat) (g:DO) (h:Int) (d:GU) (b:ByteArray×List (ByteArray×Int×Int×Int×Int×Int)×List (fI×List (Int×fI))) (c:List zB) (a:gX):Option Bool:=
 Option.bind (Ak U ((b.1,b.2.1,c)) ((d.1,d.2)) h ((a.1,a.2.1,a.2.2)) ((g.1,g.2.1,g.2.2))) λe=>(Option.bind (Ai U ((b.1,b.2.1,c)) ((d.1,d.2)) h ((a.1,a.2.1,a.2.2)) ((g.1,g.2.1,g.2.2))) λf=>(Option.bind (Eo U) λi=>(if i=true then(if e.2=f.2 then(Option.bind (sC U ((e.1.1,e.1.2.1,e.1.2.2)) ((f.1.1,f.1.2.1,f.1.2.2))) λj=>(if j=true then(Option.bind (kG U ((b.1,b.2.1,c)) ((d.1,d.2)) h ((a.1,a.2.1,a.2.2))) λk=>(Option.bind (kF U ((b.1,b.2.1,c)) ((d.1,d.2)) h ((a.1,a.2.1,a.2.2))) λl=>(if(k==l)=true then(Option.bind (sT U ((b.1,b.2.1,c)) ((d.1,d.2)) ((a.1,a.2.1,a.2.2))) λm=>(Option.bind (m_ U ((b.1,b.2.1,c)) ((d.1,d.2)) ((a.1,a.2.1,a.2.2))) λn=>(if m=n then(Option.bind (sU U ((b.1,b.2.1,c)) ((d.1,d.2)) ((a.1,a.2.1,a.2.2))) λo=>(Option.bind (sS U ((b.1,b.2.1,c)) ((d.1,d.2)) ((a.1,a.2.1,a.2.2))) λp=>(h_ ((o==p)))))else(h_ (false)))))else(h_ (false)))))else(h_ (false))))else(h_ (false)))else(h_ (false)))))
noncomputable def yU (U:Nat) (b:Bo) (d:Kx) (k:DO) (j:Int):Option Bool:=
 Option.bind (kT U ((b.1,b.2.1,b.2.2.1,b.2.2.2.1,b.2.2.2.2.1,b.2.2.2.2.2)) (5:Int)) λf=>(Option.bind (Fz U) λe=>(Option.bind (sW U e) λc=>W_ c.2.2 λi=>(Option.bind (FA U) λg=>(Option.bind (iD U j (8:Int)) λh=>(Option.bind (nF U ((d.1,d.2.1,d.2.2.1,d.2.2.2)) ((f.1,f.2)) g (wI .i64 ((1:Int)+h))) λa=>(xH U k j f c i (a.1,a.2.1,a.2.2)))))))
theorem Ik (U:Nat) {p0:Bo} {p1:Kx} {p2:DO} {p3:Int} (Y v1 v2 v3 v4 v5 v6:V0) (r:Bool) (h:yU U p0 p1 p2 p3=some r):
  bE Tryz.prog 3 #[Value.agg #[vI (p0.1),Y,v1,v2,vB (p0.2.2.2.2.1),vB (p0.2.2.2.2.2)],Value.agg #[v3,v4,v5,v6],Value.agg #[vI (p2.1),vI (p2.2.1),vI (p2.2.2)],vI (p3)] [Sl aM Y p0.2.1,Sl aM v1 p0.2.2.1,Sl aM v2 p0.2.2.2.1,Sl aM v3 p1.1,Sl aM v4 p1.2.1,Sl aM v5 p1.2.2.1,Sl aM v6 p1.2.2.2] (λx:Unit=>vB (r)) (λx l=>l) (λ_ l=>l):=by
 refine bE.of Tryz.func3 Z Tryz.ntmps3 Z λc=>?_;refine aU<|aJ (aQ.box (cs:=[vI (p0.1),Y,v1,v2,vB (p0.2.2.2.2.1),vB (p0.2.2.2.2.2)]) Z Z) Z λb1=>let W:=bM b1 [vI (p0.1),Y,v1,v2,vB (p0.2.2.2.2.1),vB (p0.2.2.2.2.2)] 24;aJ (aQ.box (cs:=[v3,v4,v5,v6]) Z Z) Z λb2=>let H:=bM b2 [v3,v4,v5,v6] 26;aJ (aQ.box (cs:=[vI (p2.1),vI (p2.2.1),vI (p2.2.2)]) Z Z) Z λb3=>let L:=bM b3 [vI (p2.1),vI (p2.2.1),vI (p2.2.2)] 28;aC Z<|aP<|aU<|cM 2 Z<|eI h λT w5 h=>aJ (zBb aeN (EV U Y v1 v2 T w5) Z (iB [0,1,2] Z)) Z λg=>let I:=fQ bX g.2.2 T.2;let X:=Ar bJ.raw g.2.1 g.2.2;let m:=(List.zip g.2.2 T.2);aJ (aQ.alloc (cs:=[cW,cW]) Z Z) Z λb7=>let N:=bM b7 [g.1,g.2.1] 31;bD (Know.one ((dR (aI.res 1 Z) iY))) λap=>bD (tM (fG (i:=2) (j:=3) Z Z cR)) λaq=>cD 0 (vs:=[g.1,g.2.1]) Z Z (fY ap (fY aq Z)) Z Z Z<|aP<|aU<|eI h λar aF h=>aJ (zBb acP (Tw U ar aF) Z .nil) Z λbi=>eI h λy aG h=>aJ (aQ.call abX (KN U y aG) Z .nil (λ_ _=>rfl) (λ_ _=>rfl)) Z fun⟨e,f,R,am⟩=>let S:=PF (Value.agg #[vS y.1,e,f]);?_
 have h:=Vp h R am;refine aJ (aQ.alloc (cs:=[vS (ByteArray.mk #[]),cW,cW]) Z Z) Z λaa=>let M:=bM aa [vS (y.1),e,f] 36;bD (Know.one ((b_ Z))) λab=>bD (Know.one ((mR Z))) λac=>cD 0 (vs:=[vS (y.1),e,f]) Z Z (fY Z (fY ab (fY ac Z))) Z Z Z<|aP<|aN<|jW (B:=Nat×V0×(List (V0×bT))×V0×(List (V0×List (V0×bT)))×V0×(List (V0×List (V0×List (V0×bT))))) (λk=>xH U p2 p3 T y R k=some r) (λk a=>[(3,vI (p3)),(6,vP b3),(9,vP b7),(10,vP aa),(11,vP a.1)]) (λk a=>[bM a.1 [a.2.1,a.2.2.2.1,a.2.2.2.2.2.1] 43,M,N,L]) (λk a=>[S2 aY g.2.1 m T.2,Sl aM g.1 T.1,Sl aE e y.2.1,Sl aD f R,S,Sl aM Y p0.2.1,Sl aM v1 p0.2.2.1,Sl aM v2 p0.2.2.2.1,Sl aM v3 p1.1,Sl aM v4 p1.2.1,Sl aM v5 p1.2.2.1,Sl aM v6 p1.2.2.2,S2 aM a.2.1 a.2.2.1 k.1,S3 aM a.2.2.2.1 a.2.2.2.2.1 k.2.1,S4 aM a.2.2.2.2.2.1 a.2.2.2.2.2.2 k.2.2]) ?_ ?_
 ·have⟨r79,w80,h⟩:=bnd h;refine eI h λaB a6 h=>eI h λQ a7 h=>Jt [0,0,0,0,12,28,63,0,255] 8 [[0,1,3,2,4,5,6,7,8],[0,1,3,2,4,5,7,6,8],[0,1,3,2,7,4,5,6,8],[0,1,3,7,2,4,5,6,8]] mixedOrders (by decide +kernel) (by decide +kernel) ?_;intro o ho;simp only[zAn,List.not_mem_nil,or_false]at ho;rcases ho with rfl|rfl|rfl|rfl
  all_goals
   iterate 8 first
    |refine bA (i:=0) Z (a_.cons 6 Z .nil) .nil (dN 0 Z Z Z Z) aL.z ?_
    |refine bA (i:=1) Z (a_.cons 1 Z .nil) .nil (dN 0 Z Z Z Z) aL.z ?_
    |refine zBd (i:=2) Z Z Z (zBb acR (PO U r79 w80) Z .nil) Z (λJ=>(by first|exact vV.h .nil .nil (nK [([2],[]),([7],[])] Z)|exact vV.h .nil .nil (nK [([3],[]),([8],[])] Z))) λJ=>?_
    |refine bA (i:=3) Z .nil .nil (dG Z) aL.z ?_
    |refine zBd (i:=4) Z Z Z (zBb El (kK U aB a6) Z .nil) Z (λbf=>(by first|exact vV.b Z (nK [([2],[]),([7],[])] Z)|exact vV.b Z (nK [([3],[]),([8],[])] Z))) λbf=>?_
    |refine bA (i:=5) Z .nil .nil (zN Z Z) (by first|exact aL.b Z (uR Z)|exact aL.b Z hkN|exact aL.b Z hkN) ?_
    |first
      |refine zBe (fZ 3 Z (dR (aI.res 0 Z) iY)) ?_
      |refine zBe (fZ 4 Z (dR (aI.res 0 Z) iY)) ?_
     first
      |refine zBe (tD [X,I] [Ar lN J r79,M,N,L,H,W] (a_.ix [3,4,0,1,2,5,6,7] Z Z) (fG (i:=0) (j:=1) Z Z cR)) ?_
      |refine zBe (tD [X,I] [bM K [cW,cW,cW] 43,Ar lN J r79,M,N,L,H,W] (a_.ix [4,5,0,1,2,3,6,7,8] Z Z) (fG (i:=0) (j:=1) Z Z cR)) ?_
      |refine zBe (tD [X,I] [Ar lN J r79,bM K [cW,cW,cW] 43,M,N,L,H,W] (a_.ix [4,5,0,1,2,3,6,7,8] Z Z) (fG (i:=0) (j:=1) Z Z cR)) ?_
     first
      |refine zBe (fZ 0 Z (dR (aI.res 0 Z) qD)) ?_
      |refine zBe (fZ 1 Z (dR (aI.res 0 Z) qD)) ?_
     refine zBd (i:=6) Z Z Z (aQ.call acQ (Hw U v3 v4 v5 v6 g.1 g.2.1 m J Q a7) Z (gQ.cons (zA0 (i:=9) Z) (gQ.cons (zA0 (i:=10) Z) (gQ.cons (zA0 (i:=11) Z) (gQ.cons (zA0 (i:=12) Z) (gQ.cons (zA0 (i:=2) Z) (gQ.cons (zA0 (i:=1) Z) (eV 0 Z))))))) (λ_ _=>rfl) (λ_ _=>rfl)) Z (λq=>(nK [] Z)) λq=>?_
    |refine zBd (i:=7) Z Z Z (aQ.alloc (cs:=[cW,cW,cW]) Z Z) Z (λK=>(by first|exact vV.h .nil .nil (nK [([2],[]),([4],[])] Z)|exact vV.h .nil .nil (nK [([3],[]),([8],[])] Z)|exact vV.h .nil .nil (nK [([3],[]),([8],[])] Z)|exact vV.h .nil .nil (nK [([2],[]),([7],[])] Z))) λK=>?_
   refine bN 8 Z Z<|bD (tM (b_ Z)) λaj=>bD (tM (mR Z)) λak=>bD (tM (zI Z)) λal=>cD 0 (vs:=[q.1,q.2.2.1,q.2.2.2.2.1]) Z Z (fY aj (fY ak (fY al Z))) Z Z Z<|aP ?_;exact cB (Q.1,Q.2.1,Q.2.2) (K,q.1,q.2.1,q.2.2.1,q.2.2.2.1,q.2.2.2.2.1,q.2.2.2.2.2) h SF (a_.ix [0,1,2,3] Z Z) (iB [4,5,6,7,8,9,10,11,12,13,14,15,0,1,2] Z)
 intro k a h;let u:=a.2.2.1;let d:=a.2.2.2;let w:=d.2.2.2;let v:=d.2.2.1;refine aU<|cM 1 Z<|cM 2 Z<|aA Z<|cM 0 Z<|cM 3 Z<|eI h λO aR h=>aJ (aQ.call acS (PR U e f g.1 g.2.1 m a.2.1 u d.1 d.2.1 v w O aR) Z (gQ.cons (zA0 (i:=2) Z) (gQ.cons (zA0 (i:=3) Z) (gQ.cons (zA0 (i:=4) Z) (gQ.cons (zA0 (i:=1) Z) (gQ.cons (zA0 (i:=0) Z) (gQ.cons (zA0 (i:=12) Z) (gQ.cons (zA0 (i:=13) Z) (eV 14 Z)))))))) (λ_ _=>rfl) (λ_ _=>rfl)) Z λn=>let t:=n.2.2.2;aA Z<|iN Z<|iN Z<|aJ (aQ.alloc (cs:=[cW,cW,cW]) Z Z) Z λbg=>bD (tM (b_ Z)) λad=>bD (tM (mR Z)) λae=>bD (tM (zI Z)) λaf=>cD 0 (vs:=[n.1,n.2.2.1,n.2.2.2.2.1]) Z Z (fY ad (fY ae (fY af Z))) Z Z Z<|aC Z<|aP<|aU<|cM 2 Z<|cM 3 Z<|aA Z<|cM 1 Z<|cM 4 Z<|eI h λP aT h=>aJ (aQ.call acT (PQ U e f g.1 g.2.1 m a.2.1 u d.1 d.2.1 v w P aT) Z (gQ.cons (zA0 (i:=5) Z) (gQ.cons (zA0 (i:=6) Z) (gQ.cons (zA0 (i:=7) Z) (gQ.cons (zA0 (i:=4) Z) (gQ.cons (zA0 (i:=3) Z) (gQ.cons (zA0 (i:=15) Z) (gQ.cons (zA0 (i:=16) Z) (eV 17 Z)))))))) (λ_ _=>rfl) (λ_ _=>rfl)) Z λp=>let s:=p.2.2.2;aA Z<|iN Z<|iN Z<|aJ (aQ.alloc (cs:=[cW,cW,cW]) Z Z) Z λbh=>bD (tM (b_ Z)) λag=>bD (tM (mR Z)) λah=>bD (tM (zI Z)) λai=>cD 0 (vs:=[p.1,p.2.2.1,p.2.2.2.2.1]) Z Z (fY ag (fY ah (fY ai Z))) Z Z Z<|aC Z<|aP<|aN<|jW (B:=Unit) (λA=>h_ A=some r) (λA V=>[(8,vB (A))]) (λA V=>[]) (λA V=>[S2 aM p.1 p.2.1 P.1.1,S3 aM p.2.2.1 s.1 P.1.2.1,S4 aM s.2.1 s.2.2 P.1.2.2,S2 aM n.1 n.2.1 O.1.1,S3 aM n.2.2.1 t.1 O.1.2.1,S4 aM t.2.1 t.2.2 O.1.2.2,S2 aY g.2.1 m T.2,Sl aM g.1 T.1,Sl aE e y.2.1,Sl aD f R,S,Sl aM Y p0.2.1,Sl aM v1 p0.2.2.1,Sl aM v2 p0.2.2.2.1,Sl aM v3 p1.1,Sl aM v4 p1.2.1,Sl aM v5 p1.2.2.1,Sl aM v6 p1.2.2.2,S2 aM a.2.1 u k.1,S3 aM d.1 d.2.1 k.2.1,S4 aM v w k.2.2]) ?_ ?_
 ·refine JR.start [0,1,3,3,15,31,63,127,127,511,1023,2047,4095,4095,4095,4095,65535,4095,4095,4095,4095,2097151,4194303,8388607,16777215,33554431,33554431,33554431,268435455,33554431,33554431,33554431,4294967295,8589934591,17179869183,34359738367,68719476735,68719476735,68719476735,549755813887,68719476735,68719476735,68719476735,8796093022207,17592186044415,35184372088831,70368744177663] 43 mixedOrders (by decide +kernel) ?_;refine JR.open (by exact rfl)<|eI h λau aV h=>zBd Z Z Z (zBb Xf (MY U au aV) Z .nil) Z (λa8=>vV.z) λa8=>eN Z (dG Z) ?_;refine JR.guard (by exact rfl) (by exact rfl) (by exact rfl) (λC=>?_) (λC=>?_)
  ·have h:=Hh C h;refine bW Z .nil .nil (dG Z) (uR Z)<|bW Z .nil .nil (dG Z) (uR Z)<|bW Z .nil .nil (Lu Z Z) (uR Z)<|eN Z (BP Z Z)<|eN Z (dG Z) ?_;refine vX (by exact rfl) (by exact rfl) (by exact rfl) (λD=>?_) (λD=>?_)
   ·have h:=Hh D h;refine bW Z (a_.cons 1 Z .nil) .nil (dN 0 Z Z Z Z) (uR Z)<|bW Z (a_.cons 0 Z .nil) .nil (dN 0 Z Z Z Z) (uR Z)<|eI h λav aX h=>Dn Z Z Z Z (zBb acU (PP U n.1 n.2.1 n.2.2.1 t.1 t.2.1 t.2.2 p.1 p.2.1 p.2.2.1 s.1 s.2.1 s.2.2 av aX) Z (iB [3,4,5,0,1,2] Z)) Z (λa9=>(nK [] Z)) λa9=>eN Z (BP Z Z)<|eN Z (dG Z) ?_;refine JR.guard (by exact rfl) (by exact rfl) (by exact rfl) (λE=>?_) (λE=>?_)
    ·have h:=Hh E h;refine bW Z (a_.cons 3 Z .nil) .nil (dN 0 Z Z Z Z) (uR Z)<|bW Z (a_.cons 4 Z .nil) .nil (dN 0 Z Z Z Z) (uR Z)<|bW Z .nil .nil (dG Z) (uR Z)<|bW Z (a_.cons 2 Z .nil) .nil (dN 0 Z Z Z Z) (uR Z)<|eI h λaw a0 h=>Dn Z Z Z Z (zBb OG (Co U e f g.1 g.2.1 m a.2.1 u d.1 d.2.1 v w aw a0) Z (iB [8,9,10,7,6,18,19,20] Z)) Z (λba=>(nK [] Z)) λba=>bW Z (a_.cons 3 Z .nil) .nil (dN 0 Z Z Z Z) (aL.h (a_.ix [3] Z Z) .nil (uR Z))<|bW Z (a_.cons 4 Z .nil) .nil (dN 0 Z Z Z Z) (aL.h (a_.ix [4] Z Z) .nil (uR Z))<|bW Z .nil .nil (dG Z) hkN<|bW Z (a_.cons 2 Z .nil) .nil (dN 0 Z Z Z Z) (aL.h (a_.ix [2] Z Z) .nil (uR Z))<|eI h λax a1 h=>Dn Z Z Z Z (zBb OH (Cn U e f g.1 g.2.1 m a.2.1 u d.1 d.2.1 v w ax a1) Z (iB [8,9,10,7,6,18,19,20] Z)) Z (λbb=>(nK [] Z)) λbb=>bW Z .nil .nil (WS Z Z Z) (uR Z)<|eN Z (BP Z Z)<|eN Z (dG Z) ?_;refine JR.guard (by exact rfl) (by exact rfl) (by exact rfl) (λF=>?_) (λF=>?_)
     ·have h:=Hh F h;refine bW Z (a_.cons 3 Z .nil) .nil (dN 0 Z Z Z Z) (uR Z)<|bW Z (a_.cons 4 Z .nil) .nil (dN 0 Z Z Z Z) (uR Z)<|bW Z (a_.cons 2 Z .nil) .nil (dN 0 Z Z Z Z) (uR Z)<|eI h λay a2 h=>Dn Z Z Z Z (zBb acV (KL U e f g.1 g.2.1 m a.2.1 u d.1 d.2.1 v w ay a2) Z (iB [8,9,10,7,6,18,19,20] Z)) Z (λbc=>(nK [] Z)) λbc=>bW Z (a_.cons 3 Z .nil) .nil (dN 0 Z Z Z Z) (aL.h (a_.ix [3] Z Z) .nil (uR Z))<|bW Z (a_.cons 4 Z .nil) .nil (dN 0 Z Z Z Z) (aL.h (a_.ix [4] Z Z) .nil (uR Z))<|bW Z (a_.cons 2 Z .nil) .nil (dN 0 Z Z Z Z) (aL.h (a_.ix [2] Z Z) .nil (uR Z))<|eI h λaz a3 h=>Dn Z Z Z Z (zBb Xg (F_ U e f g.1 g.2.1 m a.2.1 u d.1 d.2.1 v w az a3) Z (iB [8,9,10,7,6,18,19,20] Z)) Z (λbd=>(nK [] Z)) λbd=>bW Z .nil .nil (Lu Z Z) (uR Z)<|eN Z (BP Z Z)<|eN Z (dG Z) ?_;refine vX (by exact rfl) (by exact rfl) (by exact rfl) (λG=>?_) (λG=>?_)
      ·have h:=Hh G h;refine bW Z (a_.cons 3 Z .nil) .nil (dN 0 Z Z Z Z) (uR Z)<|bW Z (a_.cons 4 Z .nil) .nil (dN 0 Z Z Z Z) (uR Z)<|bW Z (a_.cons 2 Z .nil) .nil (dN 0 Z Z Z Z) (uR Z)<|eI h λan a4 h=>Dn Z Z Z Z (zBb acW (KM U e f g.1 g.2.1 m a.2.1 u d.1 d.2.1 v w an a4) Z (iB [8,9,10,7,6,18,19,20] Z)) Z (λbe=>(nK [] Z)) λbe=>bW Z (a_.cons 3 Z .nil) .nil (dN 0 Z Z Z Z) (aL.h (a_.ix [3] Z Z) .nil (uR Z))<|bW Z (a_.cons 4 Z .nil) .nil (dN 0 Z Z Z Z) (aL.h (a_.ix [4] Z Z) .nil (uR Z))<|bW Z (a_.cons 2 Z .nil) .nil (dN 0 Z Z Z Z) (aL.h (a_.ix [2] Z Z) .nil (uR Z))<|bN 43 Z Z<|eI h λao a5 h=>oU Z (zBb acX (KJ U e f g.1 g.2.1 m a.2.1 u d.1 d.2.1 v w ao a5) Z (iB [8,9,10,7,6,18,19,20] Z)) Z λbj=>aW Z (WS Z Z Z) Z<|d_ Z<|aC Z<|aP ?_;exact cB ((an==ao)) () h SF .nil (aH.refl _ _)
      have h:=VK G h;refine aK Z Z Z Z<|aK Z Z Z Z<|aK Z Z Z Z<|aK Z Z Z Z<|aK Z Z Z Z<|aK Z Z Z Z<|aK Z Z Z Z<|bN 43 Z Z<|aO Z<|aO Z<|eR Z<|aC Z<|aP ?_;exact cB (false) () h SF .nil (aH.refl _ _)
     have h:=En F h;refine aK Z Z Z Z<|aK Z Z Z Z<|aK Z Z Z Z<|aK Z Z Z Z<|aK Z Z Z Z<|aK Z Z Z Z<|aK Z Z Z Z<|aK Z Z Z Z<|aK Z Z Z Z<|eN Z (rY Z Z)<|eN Z (dG Z)<|aK Z Z Z Z<|aK Z Z Z Z<|aK Z Z Z Z<|aK Z Z Z Z<|aK Z Z Z Z<|aK Z Z Z Z<|aK Z Z Z Z<|bN 43 Z Z<|aO Z<|aO Z<|eR Z<|aC Z<|aP ?_;exact cB (false) () h SF .nil (aH.refl _ _)
    have h:=En E h;refine aK Z Z Z Z<|aK Z Z Z Z<|aK Z Z Z Z<|aK Z Z Z Z<|aK Z Z Z Z<|aK Z Z Z Z<|aK Z Z Z Z<|aK Z Z Z Z<|aK Z Z Z Z<|aK Z Z Z Z<|aK Z Z Z Z<|eN Z (rY Z Z)<|eN Z (dG Z)<|aK Z Z Z Z<|aK Z Z Z Z<|aK Z Z Z Z<|aK Z Z Z Z<|aK Z Z Z Z<|aK Z Z Z Z<|aK Z Z Z Z<|aK Z Z Z Z<|aK Z Z Z Z<|eN Z (rY Z Z)<|eN Z (dG Z)<|aK Z Z Z Z<|aK Z Z Z Z<|aK Z Z Z Z<|aK Z Z Z Z<|aK Z Z Z Z<|aK Z Z Z Z<|aK Z Z Z Z<|bN 43 Z Z<|aO Z<|aO Z<|eR Z<|aC Z<|aP ?_;exact cB (false) () h SF .nil (aH.refl _ _)
   have h:=VK D h;refine aK Z Z Z Z<|aK Z Z Z Z<|aK Z Z Z Z<|eN Z (rY Z Z)<|eN Z (dG Z)<|aK Z Z Z Z<|aK Z Z Z Z<|aK Z Z Z Z<|aK Z Z Z Z<|aK Z Z Z Z<|aK Z Z Z Z<|aK Z Z Z Z<|aK Z Z Z Z<|aK Z Z Z Z<|aK Z Z Z Z<|aK Z Z Z Z<|eN Z (rY Z Z)<|eN Z (dG Z)<|aK Z Z Z Z<|aK Z Z Z Z<|aK Z Z Z Z<|aK Z Z Z Z<|aK Z Z Z Z<|aK Z Z Z Z<|aK Z Z Z Z<|aK Z Z Z Z<|aK Z Z Z Z<|eN Z (rY Z Z)<|eN Z (dG Z)<|aK Z Z Z Z<|aK Z Z Z Z<|aK Z Z Z Z<|aK Z Z Z Z<|aK Z Z Z Z<|aK Z Z Z Z<|aK Z Z Z Z<|bN 43 Z Z<|aO Z<|aO Z<|eR Z<|aC Z<|eS ?_;refine Fc ?_;exact cB (false) () h SF .nil (aH.refl _ _)
  have h:=En C h;refine aK Z Z Z Z<|aK Z Z Z Z<|aK Z Z Z Z<|eN Z (rY Z Z)<|eN Z (dG Z)<|aK Z Z Z Z<|aK Z Z Z Z<|aK Z Z Z Z<|eN Z (rY Z Z)<|eN Z (dG Z)<|aK Z Z Z Z<|aK Z Z Z Z<|aK Z Z Z Z<|aK Z Z Z Z<|aK Z Z Z Z<|aK Z Z Z Z<|aK Z Z Z Z<|aK Z Z Z Z<|aK Z Z Z Z<|aK Z Z Z Z<|aK Z Z Z Z<|eN Z (rY Z Z)<|eN Z (dG Z)<|aK Z Z Z Z<|aK Z Z Z Z<|aK Z Z Z Z<|aK Z Z Z Z<|aK Z Z Z Z<|aK Z Z Z Z<|aK Z Z Z Z<|aK Z Z Z Z<|aK Z Z Z Z<|eN Z (rY Z Z)<|eN Z (dG Z)<|aK Z Z Z Z<|aK Z Z Z Z<|aK Z Z Z Z<|aK Z Z Z Z<|aK Z Z Z Z<|aK Z Z Z Z<|aK Z Z Z Z<|bN 43 Z Z ?_;refine aO Z<|aO Z<|eR Z<|aC Z<|aP ?_;exact cB (false) () h SF .nil (aH.refl _ _)
 intro A V h;unfold h_ at h;refine aS ?_;cases h;exact iR Z
end Go.Proofs.YtflciafboapaaaaGreat
namespace Go.Proofs.YtflciafboapaaaaGreat
open Go Go.Sx
theorem ag_ {g:GR} (f:VG g) (a b:ByteArray) {k:Int} (d:0<=k) (e:k<=16):Ve g (RJ a b k):=λc=>Vz f _ c (show 2<=900 by decide) (TG a b d e)
theorem afo:adY RBf=true:=by decide +kernel
theorem Wd (x:Vj) (r:List Int×List Int×List Int×bT) (e:DO) (a:Int):yU 1000 x r e a=some true:=by
 obtain⟨g,l,j,o,u⟩:=OO x 5 (by omega) (by omega);have c:VG g:=j.vg;have k:kT 1000 (x.1,x.2.1,x.2.2.1,x.2.2.2.1,x.2.2.2.2.1,x.2.2.2.2.2) 5=some g:=l;have s:=Int.emod_nonneg a (b:=8) (by omega);have t:=Int.emod_lt_of_pos a (b:=8) (by omega);obtain⟨n,m⟩:∃n:Nat,1+a%8=(n:Int):=⟨(1+a%8).toNat,by omega⟩
 obtain⟨y,p,q⟩:=Ra c (vars:=ZW) (by decide) (ag_ c _ _ (by omega) (by omega)) r (cap:=n) (by omega);unfold yU;rw[bH k,bH (show Fz 1000=some If from rfl),bH (YF 1000)];refine ZS λz h=> ?_;have h:(ZV z).2.2.map sO=BE RBf:=h;have d:gR g (ZV z).2.1:=afD c _ _ (by decide) (by decide);have f:kJ (ZV z).2.1.length RBf=true:=abA;have i:FW (ZV z) g RBf:=YJ c d f afo;rw[bH (show FA 1000=some ZW from rfl),bH (tI a 8 (by omega) (by omega)),wr (by omega) (by omega),m,bH (show nF 1000 (r.1,r.2.1,r.2.2.1,r.2.2.2) (g.1,g.2) ZW (n:Int)=some y from p)];unfold xH;refine(bH (show Ak 1000 _ _ a _ _=_ from abF c d h f a y e)).trans ?_;refine(bH (show Ai 1000 _ _ a _ _=_ from abE c d i h f a y e)).trans ?_;refine(bH Yl).trans ?_;rw[if_pos Z,if_pos Z];refine(bH (show sC 1000 _ _=_ from Wa c d f)).trans ?_;rw[if_pos Z];refine(bH (show kG 1000 _ _ _ _=_ from Jn c d a y)).trans ?_;refine(bH (show kF 1000 _ _ _ _=_ from Jm c d a y)).trans ?_;rw[if_pos (by simp)];refine(bH (show sT 1000 _ _ _=_ from SL c d h f y)).trans ?_;refine(bH (show m_ 1000 _ _ _=_ from LF c d i h f y)).trans ?_;rw[if_pos Z];refine(bH (show sU 1000 _ _ _=_ from Tu c d h f y)).trans ?_;refine(bH (show sS 1000 _ _ _=_ from Tt c d i h f y)).trans ?_;unfold h_;rw[beq_self_eq_true]
end Go.Proofs.YtflciafboapaaaaGreat
namespace Go.Sx
open Go.RowKit Go.ChangeShapes Go.WideShapes Go.ChangeAt Go.Proofs Go.Joins Go.Deep
section
variable {H:Type} {enc:TypeId×V0->H} {P:Program} {w:World} {base:Nat} {spare:Nat->Bool} {held:Bool}
theorem MU {a:Type} (l:List a) (d:a):l=(List.range l.length).map λi=>l.getD i d:=by
 apply List.ext_getElem?;intro i;by_cases h:i<l.length
 ·simp[h]
 ·simp[h]
theorem Me {r:Reach} {x:Nat} {t:TypeId} {b:Array Field} {v:V0} {d:DataW H} {p:List MemPlace} (s:P.underlying t=some (.struct b)) (c:oneCellFields P b=true) (z:P.cellsOf t=b.size)
  (E:Value.okWide P w r x t v) (h:DataW.Trod enc P w base spare held t v d p):
  ∃(V:Nat->V0) (Y:Nat->DataW H×List MemPlace) (n:Nat),v = .agg ((List.range b.size).map V).toArray/\∀(i:Nat) (f:Field),b[i]? = some f->DataW.trod enc P w base spare held n f.type [V i]=some (Y i):=by
 obtain⟨a,rfl,l⟩:=okWide_struct s E;obtain⟨m,A⟩:=h;obtain⟨u,n,_,_,_,q,B⟩:=DataW.trod_struct s A;refine⟨λi=>a.toList.getD i undef,λi=>u.getD i (.nil,[]),n,?_,λi f j=> ?_⟩
 ·congr 1;apply Array.toList_inj.1;show a.toList=(List.range b.size).map λi=>a.toList.getD i undef;have y:b.size=a.toList.length:=by rw[<-z,<-l];rfl
  rw[y];exact MU a.toList undef
 ·have D:i<b.size:=(zAj.1 j).1;obtain⟨o,k⟩:=hone_of c i f j;have g:=B i f j;have e:(Value.cells (.agg a)).toList=a.toList:=rfl;have C:i<a.toList.length:=by rw[Array.length_toList];omega
  rw[o,k,e,take1_drop _ _ undef C]at g;rw[g];have F:i<u.length:=by omega
  simp[F]
theorem IP {k:IntKind} {e:TypeId} (a:P.underlying e=some (.int k)) {n:Nat} {v:V0} {x:DataW H×List MemPlace} (h:DataW.trod enc P w base spare held n e [v]=some x):∃y:Int,v = .int k y:=by
 obtain⟨y,b,_,_⟩:=DataW.trod_int a h;exact⟨y,by simpa using b⟩
theorem NJ {e:TypeId} (a:P.underlying e=some .bool) {n:Nat} {v:V0} {x:DataW H×List MemPlace} (h:DataW.trod enc P w base spare held n e [v]=some x):∃y:Bool,v = .bool y:=by
 obtain⟨y,b,_⟩:=DataW.trod_bool a h;exact⟨y,by simpa using b⟩
end
end Go.Sx