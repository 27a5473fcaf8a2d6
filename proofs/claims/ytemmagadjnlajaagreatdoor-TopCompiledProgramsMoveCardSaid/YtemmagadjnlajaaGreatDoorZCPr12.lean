/- Models and proofs. Conditions: none. -/
import Derived.Test.YtemmagadjnlajaaGreatDoorZCPr11
import Derived.LaidLaws
import Derived.LaidHandle
import Derived.Lay
import Derived.MakeChecks
set_option linter.unusedVariables false
set_option linter.unusedSimpArgs false
set_option maxHeartbeats 4000000
set_option maxRecDepth 20000
open Go.Proofs.Tryz
namespace Go.Proofs.YtemmagadjnlajaaGreatDoor
open Go Go.Sx
theorem exb {a b:Type} {x:V1 a} {y:a} {f:a->V1 b} {P:b->Prop} (h:x=some y) (k:∃r,f y=some r/\P r):∃r,x.bind f=some r/\P r:=by rw[h];exact k
theorem SH {p:PG} (h:vdP p=true):(∀k,k<p.2.1.length->HW (at' p.2.1 (k:Int))=true)/\(∀k,k<p.2.2.length->SJ (at' p.2.2 (k:Int)) p.2.1.length=true)/\(∀k,k<p.2.2.length->Wn (at' p.2.2 (k:Int)) (JU p)=true):=by
 unfold vdP at h;rw[zAa]at h;unfold chS at h;split at h
 .cases h
 split at h
 .cases h
 split at h
 .cases h
 rename_i c;split at h
 .cases h
 rename_i d;split at h
 .cases h
 rename_i e;have g:∀{b:V4},¬b=false->b=true:=λ{b} q=>by cases b<;>simp_all
 exact⟨λk a=>zA2.1 (g c) k (zAg.2 a),λk a=>zA2.1 (g d) k (zAg.2 a),λk a=>zA2.1 (g e) k (zAg.2 a)⟩
theorem FI {x:VR} (h:HW x=true):Hf x/\(x.2.1=1\/x.2.1=2\/x.2.1=3)/\(x.2.1=1->0<=x.2.2.1):=by
 unfold HW at h;unfold Hf;by_cases e:x.2.1=1
 .rw[if_neg (by simpa using e)]at h;simp only[zA5,zAa]at h;have⟨⟨⟨⟨⟨⟨a,c⟩,d⟩,f⟩,g⟩,i⟩,b⟩:=h;refine⟨⟨?_,V7,V7⟩,.inl e,λ_=>a⟩
  split at b
  .simp only[zA5,zAa]at b;omega
  .simp only[zA5,zAa]at b;omega
 .rw[if_pos (by simpa using e)]at h;simp only[zA5,zAa]at h;have⟨⟨⟨⟨a,c⟩,d⟩,f⟩,g⟩:=h;unfold US at a;rw[zAa]at a;exact⟨⟨V7,V7,V7⟩,a,λq=>absurd q e⟩
theorem YJ {g:GR} (a:VG g):tU 1000 g=some (pF g g.1.length):=by
 have d:=a.n24;have b:=a.len;unfold tU;refine gW (F:=λk:Nat=>((pF g k,(k:Int)):dJ)) g.1.length (λk c e=>?_) (λc=>?_) 1000 V7
 .unfold wY;simp only;rw[Q8,Q6,Q7];rfl
 .unfold wY wX;simp only;rw[Q0]
section
variable {p:PG} {g:GR} {c:V6 (V6 Int)} {v:Nat}
theorem ajc (a:VG g) {x:VR} (j:Hf x) (i:x.2.1=1\/x.2.1=2\/x.2.1=3) (k:v<g.2.length) : -100000<=hi g x v/\hi g x v<=100000000:=by
 have⟨⟨u,w⟩,⟨l,m⟩,n,o⟩:=j;have f:=a.n24;have e:=a.len;have b:=Hm a g.1.length V7;have d:=(a.node v k).deg;have q:0<=x.2.2.2.2.1*(g.2.length:Int):=Int.mul_nonneg l V7;have r:x.2.2.2.2.1*(g.2.length:Int)<=100000*24:=Int.mul_le_mul m V7 V7 V7;have s:0<=x.2.2.2.2.2*pF g g.1.length:=Int.mul_nonneg n b.1;have t:x.2.2.2.2.2*pF g g.1.length<=100000*255:=Int.mul_le_mul o b.2 b.1 V7;unfold hi;rcases i with h|h|h
 .rw[Q0,Q0];omega
 .rw[if_pos h];omega
 .rw[Q0,if_pos h];omega
theorem afl (b:VG g) {x:Nat} (t:x<p.2.1.length) (o:Hf (at' p.2.1 (x:Int))) (f:(at' p.2.1 (x:Int)).2.1=1\/(at' p.2.1 (x:Int)).2.1=2\/(at' p.2.1 (x:Int)).2.1=3) (q:v<g.2.length):u_ 1000 p g (v:Int) (x:Int)=some (lo g (at' p.2.1 (x:Int)) v,hi g (at' p.2.1 (x:Int)) v):=by
 have⟨⟨r,s⟩,⟨j,k⟩,l,m⟩:=o;have n:=b.n24;have i:=b.len;have d:=Hm b g.1.length V7;unfold u_;generalize u:at' p.2.1 (x:Int)=y at r s j k l m f;have w:0<=y.2.2.2.2.1*(g.2.length:Int):=Int.mul_nonneg j V7;have z:y.2.2.2.2.1*(g.2.length:Int)<=100000*24:=Int.mul_le_mul k V7 V7 V7;have A:0<=y.2.2.2.2.2*pF g g.1.length:=Int.mul_nonneg l d.1;have B:y.2.2.2.2.2*pF g g.1.length<=100000*255:=Int.mul_le_mul m d.2 d.1 V7;have a:0<=(x:Int)/\(x:Int)<(p.2.1.length:Int):=V7
 rw[dM a];unfold lo hi;rcases f with h|h|h
 .simp only[h];rw[if_neg Q2,if_neg Q2,dM a,dM a,dM a,dM a,aY (YJ b),if_neg Q2,if_neg Q2,if_neg Q2,if_neg Q2,Q7 (x:=y.2.2.2.2.1*_),Q7 (x:=y.2.2.2.2.2*_),Q7 (x:=y.2.2.2.1+_),Q7]
 .simp only[h];rw[if_pos trivial,if_pos trivial,if_pos trivial]
 .have e:=(b.node v q).deg;simp only[h];rw[if_neg Q2,if_pos trivial,Q6,if_neg Q2,if_pos trivial,if_neg Q2,if_pos trivial];show some ((-1:Int),wI .i64 (((row g v).length:Int) - 1))=_;rw[Q7]
theorem aiZ (n:Sml p):∃k,Cb 1000 p g=some k/\(k=0->vdP p=true/\VG g/\GM g p.2.1):=by
 unfold Cb;refine exb (show Ao 1000 _=_ from ahS 1000 n V7) ?_;cases y:vdP p with
 |false=>exact⟨8,rfl,λh=>by cases h⟩
 | true =>
  rw[if_neg Q2];by_cases d:VG g
  .refine exb (show mO 1000 _=_ from(Lg g).1 d) ?_;rw[if_neg Q2];obtain⟨i,-,-⟩:=SH y;have C:=d.n1;have A:=n.v;let q:Nat->V4:=λk=>decide ((at' p.2.1 (k:Int)).2.1=1->0<=hi g (at' p.2.1 (k:Int)) 0 - lo g (at' p.2.1 (k:Int)) 0/\hi g (at' p.2.1 (k:Int)) 0 - lo g (at' p.2.1 (k:Int)) 0<=4095);have e:=iB (step:=wL 1000 p g) (K:=some 0) (bad:=some 9) p.2.1.length q (λk=>(k:Int)) (λk u l=>by
    have⟨o,r,s⟩:=FI (i k l);have D:=ajc d o r (v:=0) V7;have j:=afl (p:=p) d l o r (v:=0) V7;unfold wL DZ;rw[Q8];refine(aY (show u_ 1000 _ _ (0:Int) (k:Int)=_ from j)).trans ?_;rw[Q6,Q9];by_cases b:(at' p.2.1 (k:Int)).2.1=1
    .have m:lo g (at' p.2.1 (k:Int)) 0=(at' p.2.1 (k:Int)).2.2.1:=by
      unfold lo;rw[Q0,Q0]
     have t:=s b;have B:(at' p.2.1 (k:Int)).2.2.1<=4096:=by
      have:=i k l;unfold HW at this;rw[if_neg (by simpa using b)]at this;simp only[zA5,zAa]at this;omega
     rw[if_pos b];dsimp only;rw[Q7,aY (vQ 1000 _ _ _)];have:decide (0<=hi g (at' p.2.1 (k:Int)) 0 - lo g (at' p.2.1 (k:Int)) 0/\hi g (at' p.2.1 (k:Int)) 0 - lo g (at' p.2.1 (k:Int)) 0<=4095)=q k:=by
      simp only[q];exact decide_eq_decide.2 ⟨λz _=>z,λz=>z b⟩
     rw[this];cases q k<;>rfl
    .rw[if_neg b,if_neg Q2,if_pos (by simp[q,b])]) (λu=>by
    unfold wL DY;rw[Q0]) 1000 V7
   refine⟨_,e.trans (by split<;>rfl:_=some (if(List.range p.2.1.length).all q=true then(0:Int)else 9)),λh=>?_⟩
   split at h
   .rename_i w;refine⟨rfl,d,n.v,λx f=>(FI (i x f)).1,λx f=>(FI (i x f)).2.1,λx f b=>?_⟩
    have:=zA2.1 w x (zAg.2 f);simp only[q,zAa]at this;have a:=this b;have t:=(FI (i x f)).2.2 b;have m:lo g (at' p.2.1 (x:Int)) 0=(at' p.2.1 (x:Int)).2.2.1:=by
     unfold lo;rw[Q0,Q0]
    omega
   .cases h
  .refine exb (show mO 1000 _=_ from(Lg g).2 d) ?_;exact⟨1,rfl,λh=>by cases h⟩
theorem agU (B:Sml p):∃k,Ap 1000 p g c=some k/\(k=0->vdP p=true/\VG g/\GM g p.2.1/\RCf g c p.2.1):=by
 have⟨k,A,o⟩:=aiZ (p:=p) (g:=g) B;unfold Ap;refine exb (show Cb 1000 _ _=_ from A) ?_;by_cases e:k=0
 .have⟨q,m,i⟩:=o e;rw[if_neg (by simpa using e)];by_cases r:c.length=g.2.length
  .rw[if_neg (by simp[r])];have y:=m.n24;have C:=i.len;let a:Nat->Nat->V4:=λv x=>decide (lo g (at' p.2.1 (x:Int)) v<=at' (at' c (v:Int)) (x:Int)/\at' (at' c (v:Int)) (x:Int)<=hi g (at' p.2.1 (x:Int)) v);let f:Nat->V4:=λv=>decide ((at' c (v:Int)).length=p.2.1.length)&&(List.range p.2.1.length).all (a v);have u:=iB (step:=rH 1000 p g c) (K:=some 0) (bad:=some 10) c.length f (λk=>(k:Int)) (λv j b=>by
    unfold rH;rw[Q8,Q6];by_cases t:(at' c (v:Int)).length=p.2.1.length
    .rw[Q0];have w:=iB (step:=yM 1000 p g c (v:Int) j) (K:=j ((v+1:Nat):Int)) (bad:=some 10) p.2.1.length (a v) (λx=>(x:Int)) (λx l d=>by
      have n:=afl (p:=p) m d (i.small x d) (i.kind x d) (v:=v) V7;unfold yM;rw[Q6,Q8];refine(aY (show u_ 1000 _ _ (v:Int) (x:Int)=_ from n)).trans ?_;rw[Q6,Q6,aY (vQ 1000 _ _ _),Q9];show(if(!a v x)=true then _ else _)=_;cases a v x<;>rfl) (λl=>by
      unfold yM Cs;rw[Q6,Q0,Q9]) 1000 V7
     refine w.trans ?_;simp only[f,zAc t,Bool.true_and]
    .rw[Q8,if_neg (by simp[f,t])]) (λj=>by
    unfold rH Cr;rw[Q0]) 1000 V7
   refine⟨_,u.trans (by split<;>rfl:_=some (if(List.range c.length).all f=true then(0:Int)else 10)),λh=>?_⟩
   split at h
   .rename_i z;have s:∀v,v<g.2.length->(at' c (v:Int)).length=p.2.1.length/\∀x,x<p.2.1.length->a v x=true:=λv b=>by
     have:=zA2.1 z v (zAg.2 V7);simp only[f,zA5,zAa,zA2,zAg]at this;exact this
    refine⟨q,m,i,r,λv b=>(s v b).1,λv b x d=>?_⟩
    have:=(s v b).2 x d;simp only[a,zAa]at this;exact this
   .cases h
  .rw[Q8];exact⟨10,rfl,λh=>by cases h⟩
 .rw[if_pos (by simpa using e)];exact⟨k,rfl,λh=>absurd h e⟩
theorem aba (h:vdP p=true) {x:Int} (d:0<=x) (i:x<(p.2.1.length:Int)):at' (JU p) x≠0:=by
 obtain⟨n,rfl⟩:∃n:Nat,x=(n:Int):=⟨x.toNat,V7⟩
 have a:n<p.2.1.length:=V7
 have⟨_,f,_⟩:=FI ((SH h).1 n a);have e:at' (JU p) (n:Int)=(at' p.2.1 (n:Int)).2.1:=by
  have b:=RN a;rw[HL (by rw[EP];exact a)]at b;exact Option.some.inj b
 rw[e];omega
theorem YG (h:vdP p=true) {k:Nat} (o:k<p.2.2.length):Ti p k:=by
 have⟨w,t,u⟩:=SH h;have r:=(afI h).rl k o;have m:=t k o;have f:=u k o;unfold Wn at f;unfold SJ at m;simp only[zA5,zAa,zA2,zAg]at f m;have d:=EP p;refine⟨?_,r.n6,r.var,λj b=>?_,λi j n b l=>?_⟩
 .have:=Xp (ks:=JU p) (e:=GU p k) (by rw[f.1];decide);rwa[d]at this
 .have s:=r.var j b;have:=Xp (ks:=JU p) (e:=(at' (kJ p k) (j:Int)).2) (by rw[f.2 j b];exact aba h s.1 s.2);rwa[d]at this
 .have q:=(m.2 j b).1.2;rw[OL (LD b)]at q;simp only[zB4,decide_eq_false_iff_not]at q;refine q ?_;have a:(Zh (at' p.2.2 (k:Int)))[i]?=some (at' (kJ p k) (i:Int)).1:=LD (show i<(kJ p k).length by omega);rw[l]at a;refine zAo (i:=i) ?_;rw[zAn,if_pos n];exact a
theorem Vy (p:PG) (g:GR) (c:V6 (V6 Int)):∃b,Bm 1000 p g c 0=some b/\(b=true->GK p g c):=by
 have⟨b,s,u⟩:=ajs p g;unfold Bm;refine exb (show BW 1000 _ _=_ from s) ?_;cases b with
 |false=>exact⟨false,rfl,λh=>by cases h⟩
 | true =>
  have⟨l,j⟩:=u Z;have m:=Xz l;have⟨d,n⟩:=aiV j;have⟨t,w⟩:=afC m;rw[if_pos Z];refine exb (show uY 1000 _=_ from w)<|exb (show mW 1000 _=_ from n)<|exb (show mW 1000 _=_ from n) ?_;split
  .refine exb (ahy c) ?_;split
   .rw[if_pos Q2];have⟨k,f,i⟩:=agU (p:=p) (g:=g) (c:=c) m;have x:DJ 1000 (p.1,p.2.1,p.2.2) (g.1,g.2) c=some (decide (k=0)):=by
     unfold DJ;exact(aY (show Ap 1000 _ _ c=_ from f)).trans Z
    refine⟨decide (k=0),(aY x).trans Z,λh=>?_⟩
    rw[zAa]at h;have⟨e,o,q,r⟩:=i h;have a:=afI e;exact⟨o,by rw[aih 1000 m V7,e],q,r,a.v1,a.v6,a.r12,λk f=>YG e f⟩
   .exact⟨false,rfl,λh=>by cases h⟩
  .exact⟨false,rfl,λh=>by cases h⟩
end
theorem Sd (p:PG) (g:GR) (c:fE) (z:Int):jJ 1000 p g c z=some true:=by
 have⟨b,a,d⟩:=Vy p g c;cases b with
 |true=>exact SC (d Z) z a
 |false=>
  unfold jJ;refine(aY (show Bm 1000 _ _ c 0=_ from a)).trans ?_;rw[if_pos Q2];rfl
end Go.Proofs.YtemmagadjnlajaaGreatDoor
namespace Go.Sx
open Go.RowKit Go.ChangeShapes Go.WideShapes Go.ChangeAt Go.Proofs Go.Joins Go.Deep
section
variable {H:Type} {enc:V9×V0->H} {P:Program} {w:V2} {base:Nat} {spare:Nat->V4} {held:V4}
theorem NJ {t:V9} {a:Array Field} {n:Nat} {b:V6 V0} {x:DataW H×V6 MemPlace} (v:P.underlying t=some (.struct a)) (c:oneCellFields P a=true) (l:P.cellsOf t=a.size)
  (h:DataW.trod enc P w base spare held n t b=some x):
  ∃(V:Nat->V0) (Y:Nat->DataW H×V6 MemPlace) (m:Nat),b=(List.range a.size).map V/\∀(i:Nat) (f:Field),a[i]?=some f->DataW.trod enc P w base spare held m f.type [V i]=some (Y i):=by
 have⟨r,m,_,_,p,q,u⟩:=DataW.trod_struct v h;refine⟨λi=>b.getD i undef,λi=>r.getD i (.nil,[]),m,?_,λi f d=>?_⟩
 .have s:a.size=b.length:=by rw[<-l,p]
  rw[s];exact JX b undef
 .have j:i<a.size:=(zA8.1 d).1;have⟨o,k⟩:=hone_of c i f d;have g:=u i f d;have e:i<b.length:=by rw[p,l];exact j
  rw[o,k,take1_drop _ _ undef e]at g;rw[g];have y:i<r.length:=V7
  simp[y]
theorem Ld {b c:Type} {r:iN b} {q:iN c} {S:Nat->Prop} {v:V0} {a:V6 V0} {x:b} {y:c} (d:r.R w S [v] x) (e:q.R w S a y):(iN.pair r q).R w S (v::a) (x,y):=⟨[v],a,rfl,d,e⟩
theorem Vw {e:V9} (b:P.underlying e=some .string) (n:Nat) (a:V6 V0) (x:DataW H×V6 MemPlace) (h:DataW.trod enc P w base spare held n e a=some x):∃y:ByteArray,a=[.string y]:=by
 have⟨y,c,_⟩:=DataW.trod_string b h;exact⟨y,c⟩
theorem TU {e:V9} (a:P.underlying e=some .string) {n:Nat} {v:V0} {x:DataW H×V6 MemPlace} (h:DataW.trod enc P w base spare held n e [v]=some x):∃y:ByteArray,v = .string y:=by
 have⟨y,b⟩:=Vw a n _ x h;exact⟨y,by simpa using b⟩
theorem aaz {d:Type} (r:iN d) {t e:V9} (g:P.underlying t=some (.slice e)) (f:P.cellsOf e=r.sz)
  (b:∀(n:Nat) (a:V6 V0) (x:DataW H×V6 MemPlace),DataW.trod enc P w base spare held n e a=some x->∃y:d,r.R w (λ_=>True) a y)
  (n:Nat) (a:V6 V0) (x:DataW H×V6 MemPlace) (h:DataW.trod enc P w base spare held n t a=some x):∃y:V6 d,(LV r).R w (λ_=>True) a y:=by
 obtain⟨⟨v,i⟩,rfl,c⟩:=aaA r g f b n a x h;exact⟨i,v,rfl,c⟩
end
end Go.Sx
section
set_option maxRecDepth 100000
namespace Go.Sx
open Go.RowKit Go.ChangeShapes Go.WideShapes Go.ChangeAt Go.Proofs Go.Joins
theorem VA {P:Program} {W:V2} {n:String} {b m t B:Nat} {k:IntKind} {a:bN} (h:laidMet P [(n,.agg (a.map λx=>.lit (.int k x)))] W) (I:P.globalNamed n=some b)
  (ht:(P.globals[b]?).map (·.type)=some t) (hu:P.underlying t=some (.array m B)) (w:P.underlying B=some (.int k)) (S:P.cellsOf B=1) (u:P.cellsOf t=m) (hm:0<m):(Gb b (cellsOf (iW.int k) a)).p W (λ_=>True):=by
 have⟨ps,⟨g,t2,j,F,p,q,C,D,E,M,e5,N⟩,aa,d⟩:=h;rw[I]at C;cases C;rw[ht]at D;cases D;refine⟨trivial,?_⟩
 have⟨L,ml,_,l,Y,y,V⟩:=DataW.trod_array hu M;simp only[Prod.mk.injEq,DataW.agg.injEq]at l;have e:a.length=m:=by rw[<-y];simpa using congrArg List.length l.1
 have U:j.size=m:=by rw[<-u,<-Y];simp
 have v:j.toList=cellsOf (iW.int k) a:=by
  refine List.ext_getElem? λi=>?_;by_cases X:i<m
  .have o:=V i X;rw[S,Nat.mul_one]at o;have J:a[i]?=some (a[i]'V7):=zA1 _;have G:=Bp (iW.int k) a i _ J 0 _ Z;rw[show i*(iW.int k).sz+0=i from Nat.mul_one i]at G;rw[G];have K:L[i]?=some (L[i]'V7):=zA1 _;rw[K]at o;have⟨z,hz,A,_⟩:=DataW.trod_int w o;have s:j.toList[i]?=some (.int k z):=by
    have:=congrArg (·[0]?) hz;simpa [zAn,zAq]using this
   rw[s];have r:=congrArg (·[i]?) l.1;simp only[List.getElem?_map,J,K,Option.map_some,Option.some.injEq]at r;rw[A]at r;have O:a[i]=z:=by simpa using r
   rw[O]
  .rw[zAs Q1,zAs (by rw[gH,e];show m*1<=i;omega)]
 have f:MemPlace.cell b 0∈ps:=by
  rw[N];refine List.mem_append_left _ (List.mem_append_left _ ?_);exact zB5.2 ⟨0,Q1,rfl⟩
 have⟨⟨c,T,H⟩,_⟩:=d b 0 f;refine⟨T,?_⟩
 have Q:c=j:=by
  have R:(W.var? P n)=some c:=by unfold World.var?;rw[I];simp[H]
  rw[R]at E;exact Option.some.inj E
 rw[H,Q,<-v]
theorem TS {H:Type} {enc:V9×V0->H} {os:Os} (D:V6 (String×DataW Unit)) (N:(D.all λx=>x.2.handleName?.isNone)=true) (l:os.Started) {f:FuncId} {c:Func} {s:ChangeSpec} {r:V4} (L:prog.funcs[f]?=some c) (n:prog.inits.idxOf? f=none)
  (o:(c.params.toList.all λt=>prog.readableRec t&&decide (t<prog.types.size))=true) (A:c.resultTypes = #[4]) (k:s.vars=[])
  (u:∀a:V6 (DataW H),a.length=c.params.toList.length->s.fn H a={results:=[.lit (.bool true)],args:=a})
  (m:∃(w:V2) (b:Tape) (i:Input),w.os=os/\(w.forCall b i).Shaped prog/\i.vars=[]/\Input.okWide prog (w.forCall b i) .any w.heap.size f i/\
   ((s.pre enc prog c [] false (w.forCall b i).memory i.args/\laidMetH prog D (w.forCall b i).memory)/\sizedMet enc prog c (OpenSpec.ofChange s) false (w.forCall b i).memory i.args)/\({}:Assume).holds prog (lone (Frame.enter prog f i.args .normal) [] (w.forCall b i)))
  (E:∀(W:V2) (g:Nat) (args:Array V0) (a:V6 (DataW H)) (p:V6 MemPlace),laidMetH prog D W->(∀(j:Nat) t v,c.params[j]?=some t->args[j]?=some v->Value.okWide prog W .any g t v)->
   DataW.TrodAll enc prog W 0 (λ_=>true) true c.params.toList args.toList a p->Calls prog f args W λe P=>e = .returned (.bool true)/\UN W P):
  ReturnsInHanded {} Go.Proofs.YtemmagadjnlajaaGreatDoor.Tryz.pinned.checked os f .any (λw args=>(s.pre enc prog c [] false w args/\laidMetH prog D w)/\sizedMet enc prog c (OpenSpec.ofChange s) false w args) (s.post enc prog c false r false false):=by
 refine returnsInHanded_of_change_and (C:=Go.Proofs.YtemmagadjnlajaaGreatDoor.Tryz.pinned.checked) (X:=λw _=>laidMetH prog D w) (λ_ _ _ U h=>by rw[MakeChecks.laidMetH_plain _ _ _ N]at h ⊢;exact h.of_heap U) alr l n L m ?_;intro W g args a Y G B J _ _ T _;have M:=J.lt;have K:=J;obtain⟨p,q,I,Q,rfl,_,_⟩:=J;rw[k]at Q;obtain⟨rfl,rfl⟩:=trodVars_none Q;refine(E W g args a p T B I).mono ?_;rintro e P ⟨rfl,R⟩;refine⟨_,rfl,?_⟩
 have z:a.length=c.params.toList.length:=by
  have:∀(F:V6 V9) (y:oA) (a:V6 (DataW H)) (p:V6 MemPlace),DataW.TrodAll enc prog W 0 (λ_=>true) true F y a p->a.length=F.length:=by
   intro F
   induction F with
   |nil=>intro y a p h;cases y<;>cases a<;>first|rfl|exact h.elim
   | cons t F ih =>
    intro y a p h;cases y with
    |nil=>exact h.elim
    |cons v y=>
     cases a with
     |nil=>exact h.elim
     |cons d a=>have⟨_,_,_,S,_⟩:=h;simp[ih y a _ S]
  exact this _ _ _ _ I
 have O:s.fn H (a++[])={results:=[.lit (.bool true)],args:=a}:=by rw[List.append_nil];exact u a z
 refine⟨a,[],p++[],[],p,[],K,?_,?_,?_,R.frame _,λh=>by cases h⟩
 .rw[O,A];exact trodAll_mk1 (shut_bool underlying4 true)
 .rw[O];exact Kh aji R _ _ _ _ o I (λx V=>M x (List.mem_append_left _ V))
 .rw[O,k];exact rfl
theorem YQ {P:Program} {n:String} {k:IntKind} {a:bN} {W:V2} (h:laidMetH P [(n,.agg (a.map λx=>.lit (.int k x)))] W):laidMet P [(n,.agg (a.map λx=>.lit (.int k x)))] W:=by
 rw[MakeChecks.laidMetH_plain _ _ _ (by rfl)]at h;exact h
end Go.Sx
end
