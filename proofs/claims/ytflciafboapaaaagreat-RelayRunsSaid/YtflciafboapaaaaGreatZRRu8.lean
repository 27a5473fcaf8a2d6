/- Models and proofs. Conditions: none. -/
import Derived.Test.YtflciafboapaaaaGreatZRRu7
import Derived.Test.YtflciafboapaaaaGreatZRRu5
import Derived.Test.YtflciafboapaaaaGreatZRRu6
import Derived.Test.YtflciafboapaaaaGreatZRRu2
set_option linter.unusedVariables false
set_option linter.unusedSimpArgs false
set_option maxHeartbeats 4000000
set_option maxRecDepth 20000
namespace Go.Proofs.YtflciafboapaaaaGreat
open Go Go.Sx
theorem NB {g:GR} (a:VG g) {f:Nat} (e:30<=f):jL f g=some (jF g g.1.length):=by
 have d:=a.n24;have b:=a.len;unfold jL;refine dJ (F:=λk:Nat=>((jF g k,(k:Int)):gK)) g.1.length (λk c h=> ?_) (λc=> ?_) f (by omega)
 ·unfold tQ;simp only;rw[if_pos (by omega),cF (by omega),wr (by omega) (by omega)];rfl
 ·unfold tQ tP;simp only;rw[if_neg (by omega)]
theorem Vx {g:GR} (a:VG g):jL 1000 g=some (jF g g.1.length):=NB a (by omega)
section
variable {p:Fz} {g:GR} {R:List RL} {c:List (List Int)} {v:Nat}
theorem Qu (b:VG g) (j:jR g p.2.1) {x:Nat} (k:x<p.2.1.length) (r:v<g.2.length):jK 1000 p g (v:Int) (x:Int)=some (qF g p.2.1 v x):=by
 obtain⟨⟨s,t⟩,⟨l,m⟩,n,o⟩:=j.small x k;have f:=j.kind x k;have q:=b.n24;have i:=b.len;have d:=BU b g.1.length (by omega);show jK 1000 p g (v:Int) (x:Int)=some (lo g (at' p.2.1 (x:Int)) v,hi g (at' p.2.1 (x:Int)) v);unfold jK;generalize u:at' p.2.1 (x:Int)=y at s t l m n o f;have w:0<=y.2.2.2.2.1*(g.2.length:Int):=Int.mul_nonneg l (by omega);have z:y.2.2.2.2.1*(g.2.length:Int)<=100000*24:=Int.mul_le_mul m (by omega) (by omega) (by omega);have A:0<=y.2.2.2.2.2*jF g g.1.length:=Int.mul_nonneg n d.1;have B:y.2.2.2.2.2*jF g g.1.length<=100000*255:=Int.mul_le_mul o d.2 d.1 (by omega);have a:0<=(x:Int)/\(x:Int)<(p.2.1.length:Int):=by omega
 rw[cF a];unfold lo hi;rcases f with h|h|h
 ·simp only[h];rw[if_neg (by decide),if_neg (by decide),cF a,cF a,cF a,cF a,bG (Vx b),if_neg (by decide),if_neg (by decide),if_neg (by decide),if_neg (by decide),wr (x:=y.2.2.2.2.1*_) (by omega) (by omega),wr (x:=y.2.2.2.2.2*_) (by omega) (by omega),wr (x:=y.2.2.2.1+_) (by omega) (by omega),wr (by omega) (by omega)]
 ·simp only[h];rw[if_pos trivial,if_pos trivial,if_pos trivial]
 ·have e:=(b.node v r).deg;simp only[h];rw[if_neg (by decide),if_pos trivial,cF (by omega),if_neg (by decide),if_pos trivial,if_neg (by decide),if_pos trivial];show some ((-1:Int),wI .i64 (((row g v).length:Int) - 1))=_;rw[wr (by omega) (by omega)]
theorem XI (b:VG g) (d:jR g p.2.1):pR 1000 p g=some 0:=by
 have l:=b.n1;have j:=d.len;unfold pR;rw[bG (show DL 1000 _=some true from rfl),if_neg (by decide),bG (show iL 1000 g=some true from(E_ g).1 b),if_neg (by decide)];refine dJ (step:=sY 1000 p g) (K:=some 0) p.2.1.length (λk=>(k:Int)) (λk f e=> ?_) (λf=> ?_) 1000 (by omega)
 ·unfold sY Bw;rw[if_pos (by omega),bG (show jK 1000 _ _ (0:Int) (k:Int)=_ from Qu b d e (v:=0) (by omega)),cF (by omega),dD (by omega)];by_cases a:(at' p.2.1 (k:Int)).2.1=1
  ·obtain⟨m,n,o⟩:=d.range k e a;rw[if_pos a];have h:(qF g p.2.1 0 k).1=lo g (at' p.2.1 (k:Int)) 0:=rfl;have i:(qF g p.2.1 0 k).2=hi g (at' p.2.1 (k:Int)) 0:=rfl;rw[h,i,wr (by omega) (by omega),bG (iJ 1000 _ _ _),zA5 (by omega),if_neg (by decide)]
  ·rw[if_neg a,if_neg (by decide)]
 ·unfold sY Bv;rw[if_neg (by omega)]
theorem adj (b:VG g) (h:jR g p.2.1) (d:Wc g c p.2.1):mG 1000 p g c=some 0:=by
 have l:=b.n24;have e:=d.len;have n:=h.len;unfold mG;rw[bG (show pR 1000 _ _=some 0 from XI b h),if_neg (by decide),if_neg (by simp[e])];refine dJ (step:=lB 1000 p g c) (K:=some 0) g.2.length (λk=>(k:Int)) (λk i f=> ?_) (λi=> ?_) 1000 (by omega)
 ·have r:=d.row k f;unfold lB;rw[if_pos (by omega),cF (by omega),if_neg (by omega)];refine dJ (step:=oJ 1000 p g c (k:Int) i) p.2.1.length (λx=>(x:Int)) (λx a j=> ?_) (λa=> ?_) 1000 (by omega)
  ·obtain⟨o,q⟩:=d.ok k f x j;unfold oJ;have m:decide ((qF g p.2.1 k x).1<=at' (at' c (k:Int)) (x:Int)/\at' (at' c (k:Int)) (x:Int)<=(qF g p.2.1 k x).2)=true:=zA5 ⟨o,q⟩;rw[cF (by omega),if_pos (by omega),bG (show jK 1000 _ _ (k:Int) (x:Int)=_ from Qu b h j f),cF (by omega),cF (by omega),bG (iJ 1000 _ _ _),m,if_neg (by decide),dD (by omega)]
  ·unfold oJ uU;rw[cF (by omega),if_neg (by omega),dD (by omega)]
 ·unfold lB uT;rw[if_neg (by omega)]
theorem Xm (c:List (List Int)) (h:c.length<=900) (d:∀v,v<c.length->(at' c (v:Int)).length<=1000):nJ 1000 c=some c:=by
 unfold nJ;refine dJ (step:=wU c) (K:=some c) c.length (λk=>(c.take k,(k:Int))) (λk b a=> ?_) (λb=> ?_) 1000 (by omega)
 ·have:=d k a;unfold wU;dsimp only;rw[if_pos (by omega),cF (by omega),cF (by simp;omega),cF (by simp;omega),zBb,nW a,dD (by omega)]
 ·unfold wU By;dsimp only;rw[if_neg (by omega),zB3]
def JS (p:Fz) (g:GR) (R:List RL):Prop:=∀c,Wc g c p.2.1->∀v:Nat,v<g.2.length->∀r∈R,fH 1000 g c (v:Int) (-1) r.1.ts 0=some (Dn (eB p g) c v r.1)/\∀s∈r.2,fH 1000 g c (v:Int) (-1) s.2.ts 0=some (Dn (eB p g) c v s.2)
theorem XG (x:JS p g R) (z:Wc g c p.2.1) (B:v<g.2.length) (t:p.2.2.map AE=FQ R) (y:pA p.2.1.length R=true):nQ 1000 p g c (v:Int)=some (AP (eB p g) R c v):=by
 have D:=Et t;have w:=Uz y;let l:=R.map λr=>Dn (eB p g) c v r.1;have A:l.length=R.length:=by simp[l]
 have n:∀i,i<R.length->at' l (i:Int)=Dn (eB p g) c v (at' R (i:Int)).1:=λi q=>by
  rw[jS (by omega),jS q];simp[l]
 have d:∀(k:Nat) a,k<R.length->uW 1000 p g c (v:Int) (k:Int) a=if at' l (k:Int)≠0 then some (k:Int)else a (((k+1:Nat):Int)):=by
  intro k a b;have e:(at' p.2.2 (k:Int)).2.1.2=(at' R (k:Int)).1.ts:=congrArg Prod.fst (KU t b);unfold uW;rw[if_pos (by omega),cF (by omega),e,bG (show fH 1000 _ c (v:Int) (-1) _ 0=_ from(x c z v B _ (by rw[jS b];exact zBe b)).1),n k b,dD (by omega)]
 unfold nQ AP;by_cases f:∃i,i<R.length/\at' l (i:Int)≠0
 ·obtain⟨i,q,u⟩:=f;obtain⟨m,C,o,h⟩:=NG (p:=λi=>at' l (i:Int)≠0) i u;have h:∀j,j<m->at' l (j:Int)=0:=λj s=>zAx.1 (h j s);rw[show h_ _=(m:Int)from Dq (l:=l) (by omega) o h];exact dJ (K:=some (m:Int)) m (λk=>(k:Int)) (λk a b=>by rw[d k a (by omega),if_neg (by simp[h k b])]) (λa=>by rw[d m a (by omega),if_pos o]) 1000 (by omega)
 ·have f:∀j,j<l.length->at' l (j:Int)=0:=λj s=>zAx.1 λe=>f ⟨j,by omega,e⟩;rw[show h_ _=(-1:Int)from Dp (l:=l) f];exact dJ (K:=some (-1)) R.length (λk=>(k:Int)) (λk a b=>by rw[d k a b,if_neg (by simp[f k (by omega)])]) (λa=>by
   unfold uW zX;rw[if_neg (by omega)]) 1000 (by omega)
theorem ade (k:VG g) (i:jR g p.2.1) {x:Nat} (j:x<p.2.1.length) (l:v<g.2.length) (y:Int):wN 1000 p g (v:Int) (x:Int) y=some (FK (at' p.2.1 (x:Int)).2.1 (qF g p.2.1 v x) y):=by
 have e:=acb i j v;have f:(qF g p.2.1 v x).1<=(qF g p.2.1 v x).2:=e;unfold wN;rw[bG (show jK 1000 _ _ (v:Int) (x:Int)=_ from Qu k i j l),cF (by omega)];generalize qF g p.2.1 v x=b at f;unfold zU FK;by_cases d:(at' p.2.1 (x:Int)).2.1=3
 ·rw[if_pos d,bG (iJ 1000 _ _ _)];by_cases a:b.1<=y/\y<=b.2
  ·rw[zA5 a,if_neg (by decide),if_pos a,Int.max_eq_left a.1,Int.min_eq_left a.2]
  ·rw[zA3 a,if_pos (by decide),if_neg a,if_pos d]
 ·rw[if_neg d,if_neg (by decide)];by_cases a:b.1<=y/\y<=b.2
  ·rw[if_pos a,Int.max_eq_left a.1,Int.min_eq_left a.2]
  ·rw[if_neg a,if_neg d];by_cases h:y<b.1
   ·rw[if_pos h,Int.max_eq_right (by omega),Int.min_eq_left f]
   ·rw[if_neg h,Int.max_eq_left (by omega),Int.min_eq_right (by omega)]
theorem aff (E:VG g) (F:jR g p.2.1) (C:JS p g R) (t:Wc g c p.2.1) (u:v<g.2.length) (z:p.2.2.map AE=FQ R) (D:pA p.2.1.length R=true) (P:0<=AP (eB p g) R c v):zN 1000 p g c (v:Int)=some (NK (eB p g) p.2.1 R c v (AP (eB p g) R c v)):=by
 have I:=E.n24;have J:=t.len;have n:=t.row v u;have O:=F.len;have Q:=Et z;unfold zN;rw[cF (by omega),cF (by simp;omega),bG (show nQ 1000 _ _ c (v:Int)=_ from XG C t u z D),zBb];obtain⟨i,L,b,_⟩:=(LY (eB p g) R c v).resolve_left (λe=>by omega);rw[L,cF (by omega)];have x:=KU z b;obtain⟨-,o,f⟩:=KW D b;have A:(at' p.2.2 (i:Int)).2.2.2.map (λs=>(s.1,s.2.2))=(at' R (i:Int)).2.map λs=>((s.1:Int),s.2.ts):=congrArg Prod.snd x;have r:(at' p.2.2 (i:Int)).2.2.2.length=(at' R (i:Int)).2.length:=by simpa using congrArg List.length A
 unfold NK;let a:=(at' R (i:Int)).2;exact dJ (step:=wX 1000 p g c (v:Int) (i:Int)) (K:=some (a.foldl (Kv (eB p g) p.2.1 c v) (at' c (v:Int)))) a.length (λk=>((k:Int),(a.take k).foldl (Kv (eB p g) p.2.1 c v) (at' c (v:Int)))) (λk H h=>by
  have m:k<(at' p.2.2 (i:Int)).2.2.2.length:=by rw[r];exact h
  have B:((at' (at' p.2.2 (i:Int)).2.2.2 (k:Int)).1,(at' (at' p.2.2 (i:Int)).2.2.2 (k:Int)).2.2)=(((at' a (k:Int)).1:Int),(at' a (k:Int)).2.ts):=by
   have:=congrArg (λq=>q[k]?) A;simp only[List.getElem?_map,zA2 m,zA2 (show k<(at' R (i:Int)).2.length from h),Option.map_some,Option.some.injEq]at this;rw[jS m,jS h];exact this
  have j:=congrArg Prod.fst B;have l:=congrArg Prod.snd B;dsimp only at j l;have d:at' a (k:Int)∈(at' R (i:Int)).2:=by rw[jS h];exact zBe h
  obtain⟨y,M⟩:=f _ d;have G:((a.take k).foldl (Kv (eB p g) p.2.1 c v) (at' c (v:Int))).length=p.2.1.length:=by rw[Rc,n]
  have N:a.length<=20:=o;have w:=(C c t v u _ (by rw[jS b];exact zBe b)).2 _ d;unfold wX;dsimp only;rw[if_pos (by omega)];simp only[cF (show 0<=(k:Int)/\(k:Int)<((at' p.2.2 (i:Int)).2.2.2.length:Int) by omega)];rw[j,l,bG (show fH 1000 _ c (v:Int) (-1) _ 0=_ from w),bG (show wN 1000 _ _ (v:Int) _ _=_ from ade E F y u _),cF (by omega),dD (by omega),zAi,nW h,List.foldl_append];rfl) (λH=>by
  unfold wX BE;dsimp only;rw[if_neg (by show¬(a.length:Int)<_;rw[r];exact Int.lt_irrefl _),zB3]) 1000 (by show(at' R (i:Int)).2.length<1000;omega)
end
abbrev Cr:=kJ
def Az (g:GR) (v i:Nat):Nat:=(jP (row g v) i).1.toNat
def GZ (g:GR) (v i:Nat):Nat:=(Bg (row g (Az g v i)) (v:Int)).toNat
structure PB (g:GR) (v i u b:Nat):Prop where
 ul:u<g.2.length
 bl:b<(row g u).length
 ne:u≠v
 tu:Az g u b=v
 bu:GZ g u b=i
theorem Bi {g:GR} (hV:VG g) {v i:Nat} (hv:v<g.2.length) (hi:i<(row g v).length):(jP (row g v) i).1=(Az g v i:Int):=by
 have:=((hV.node v hv).links i hi).1;unfold Az;omega
theorem abw {g:GR} (hV:VG g) {v i j:Nat} (hv:v<g.2.length) (hi:i<(row g v).length) (hj:j<(row g v).length) (h:Az g v i=Az g v j):i=j:=by
 have a:=Bi hV hv hi;have b:=Bi hV hv hj;rcases Nat.lt_trichotomy i j with q|q|q
 ·exact absurd (by omega) (((hV.node v hv).links j hj).2.2.2 i q)
 ·exact q
 ·exact absurd (by omega) (((hV.node v hv).links i hi).2.2.2 j q)
theorem Er {g:GR} (hV:VG g) {v i:Nat} (hv:v<g.2.length) (hi:i<(row g v).length):PB g v i (Az g v i) (GZ g v i):=by
 have e:=Bi hV hv hi;have hl:=(hV.node v hv).links i hi;have hu:Az g v i<g.2.length:=by have:=hl.1;omega
 obtain⟨j,hj,hjv,_⟩:=hV.sym v hv i hi;have hr:at' g.2 (jP (row g v) i).1=row g (Az g v i):=by rw[e]
 rw[hr]at hj hjv;rcases vV (row g (Az g v i)) (v:Int)with⟨k,hk,hkv,hkf,hke⟩|⟨hf,_⟩
 rotate_left
 ·exact absurd hjv (hf j hj)
 have hb:GZ g v i=k:=by unfold GZ;rw[hke];omega
 have ht:Az g (Az g v i) k=v:=by unfold Az at hkv ⊢;rw[hkv];omega
 have hne:Az g v i≠v:=λq=>hl.2.1 (by rw[e,q]);refine⟨hu,by omega,hne,by rw[hb];exact ht,?_⟩
 rw[hb];have q:GZ g (Az g v i) k=(Bg (row g v) (Az g v i:Int)).toNat:=by unfold GZ;rw[ht]
 rw[q,Kh i hi e λz hz hq=> ?_]
 ·omega
 ·have:=abw hV hv (show z<(row g v).length by omega) hi (by have:=Bi hV hv (show z<(row g v).length by omega);omega);omega
abbrev rI {a:Type} [Inhabited a] (l:List (List a)) (v i:Nat):a:=at' (at' l (v:Int)) (i:Int)
def HT {a:Type} [Inhabited a] (l:List (List a)) (v i:Nat) (x:a):List (List a):=l.set v ((at' l (v:Int)).set i x)
section
variable {α:Type} [Inhabited α]
theorem YK (l:List (List α)) (v i:Nat) (x:α):(HT l v i x).length=l.length:=by simp[HT]
theorem YL (l:List (List α)) {v i:Nat} (x:α) (a:v<l.length) (w:Nat):(at' (HT l v i x) (w:Int)).length=(at' l (w:Int)).length:=by
 unfold HT;rw[CP _ _ _ _ a];split
 ·rename_i e;subst e;simp
 ·rfl
theorem abC (l:List (List α)) {v i:Nat} (x:α) (b:v<l.length) (a:i<(at' l (v:Int)).length) (w j:Nat):rI (HT l v i x) w j=if w=v/\j=i then x else rI l w j:=by
 unfold rI HT;rw[CP _ _ _ _ b];by_cases e:w=v
 ·subst e;rw[if_pos Z,CP _ _ _ _ a];by_cases q:j=i
  ·rw[if_pos q,if_pos ⟨rfl,q⟩]
  ·rw[if_neg q,if_neg (λh=>q h.2)]
 ·rw[if_neg e,if_neg (λh=>e h.1)]
end
structure Sh2 {α:Type} [Inhabited α] (g:GR) (l:List (List α)):Prop where
 len:l.length=g.2.length
 row:∀v,v<g.2.length->(at' l (v:Int)).length=(row g v).length
theorem Sh2.set {a:Type} [Inhabited a] {g:GR} {l:List (List a)} (h:Sh2 g l) {v i:Nat} (b:v<g.2.length) (x:a):Sh2 g (HT l v i x):=
 ⟨by rw[YK];exact h.len,λw c=>by rw[YL _ _ (by rw[h.len];exact b)];exact h.row w c⟩
theorem Sh2.at {a:Type} [Inhabited a] {g:GR} {l:List (List a)} (h:Sh2 g l) {v i:Nat} (b:v<g.2.length) (c:i<(Go.Proofs.YtflciafboapaaaaGreat.row g v).length) (x:a) (w j:Nat):rI (HT l v i x) w j=if w=v/\j=i then x else rI l w j:=
 abC l x (by rw[h.len];exact b) (by rw[h.row v b];exact c) w j
structure SH (g:GR) (y:Cr):Prop where
 c:y.1.length=g.2.length
 a:Sh2 g y.2.1
 w:Sh2 g y.2.2
def vwN (g:GR) (y:Cr) (v:Nat):Nat->List (List Int)
 |0=>y.1
 |i+1=>(vwN g y v i).set (Az g v i) (rI y.2.1 v i)
def vw (g:GR) (y:Cr) (v:Nat):List (List Int):=vwN g y v (row g v).length
theorem GW (g:GR) (y:Cr) (v:Nat):∀i,(vwN g y v i).length=y.1.length
 |0=>rfl
 |i+1=>by simp[vwN,GW g y v i]
theorem PN {g:GR} (hV:VG g) {y:Cr} (h:SH g y) {v:Nat} (hv:v<g.2.length):∀i,i<=(row g v).length->at' (vwN g y v i) (v:Int)=at' y.1 (v:Int)
 |0,_=>rfl
 |i+1,hi=>by
  have hu:=Er hV hv (show i<(row g v).length by omega);show at' ((vwN g y v i).set (Az g v i) _) (v:Int)=_;rw[CP _ _ _ _ (by rw[GW,h.c];exact hu.ul),if_neg (λe=>hu.ne e.symm)];exact PN hV h hv i (by omega)
theorem UR {g:GR} (hV:VG g) {y:Cr} (h:SH g y) {v:Nat} (hv:v<g.2.length) (P:Nat->List Int->Prop) (hc:∀x,x<g.2.length->P x (at' y.1 (x:Int))) (hb:∀i,i<(row g v).length->P (Az g v i) (rI y.2.1 v i)):∀i,i<=(row g v).length->∀x,x<g.2.length->P x (at' (vwN g y v i) (x:Int))
 |0,_,x,hx=>hc x hx
 |i+1,hi,x,hx=>by
  have hu:=Er hV hv (show i<(row g v).length by omega);show P x (at' ((vwN g y v i).set (Az g v i) _) (x:Int));rw[CP _ _ _ _ (by rw[GW,h.c];exact hu.ul)];by_cases e:x=Az g v i
  ·rw[if_pos e,e];exact hb i (by omega)
  ·rw[if_neg e];exact UR hV h hv P hc hb i (by omega) x hx
def y_ (g:GR) (a:Bool) (y:Cr) (v i:Nat):Cr:=
 match rI y.2.2 (Az g v i) (GZ g v i)with
 | []=>y
 |s::r=>(y.1,if a=true then HT y.2.1 v i s else y.2.1,HT y.2.2 (Az g v i) (GZ g v i) r)
def Dw (a:Nat) (y:Cr) (v i:Nat):Cr:=if(rI y.2.2 v i).length<a then(y.1,y.2.1,HT y.2.2 v i (rI y.2.2 v i++[at' y.1 (v:Int)]))else y
def Ox (g:GR) (a:List (List Int)->Nat->List Int) (y:Cr) (v:Nat):Cr:=(y.1.set v (a (vw g y v) v),y.2.1,y.2.2)
def Es (g:GR) (b:List (List Int)->Nat->List Int) (a:Nat) (y:Cr) (e:Nat×Nat×Nat):Cr:=
 if e.1=1 then Ox g b y e.2.1 else if e.1=2 then Dw a y e.2.1 e.2.2 else y_ g (decide (e.1=3)) y e.2.1 e.2.2
def acs (g:GR) (e:Nat×Nat×Nat):Prop:=(1<=e.1/\e.1<=4)/\e.2.1<g.2.length/\(e.1=1\/e.2.2<(row g e.2.1).length)
structure Mz (g:GR) (P:Nat->List Int->Prop) (y:Cr):Prop where
 c:∀v,v<g.2.length->P v (at' y.1 (v:Int))
 a:∀v i,v<g.2.length->i<(row g v).length->P (Az g v i) (rI y.2.1 v i)
 w:∀v i,v<g.2.length->i<(row g v).length->∀s,s∈rI y.2.2 v i->P v s
def Cap (g:GR) (a:Nat) (y:Cr):Prop:=∀v i,v<g.2.length->i<(row g v).length->(rI y.2.2 v i).length<=a
section
variable {g:GR} {nx:List (List Int)->Nat->List Int} {cap:Nat} {P P':Nat->List Int->Prop} {y:Cr} {v i:Nat}
theorem aaZ (hV:VG g) (h:SH g y) (hv:v<g.2.length) (hi:i<(row g v).length) {k:Bool}:SH g (y_ g k y v i):=by
 have hp:=Er hV hv hi;unfold y_;split
 ·exact h
 ·refine⟨h.c,?_,h.w.set hp.ul _⟩
  dsimp only;split
  ·exact h.a.set hv _
  ·exact h.a
theorem XR (hV:VG g) (h:SH g y) (hv:v<g.2.length) (hi:i<(row g v).length) {k:Bool} (w j:Nat):rI (y_ g k y v i).2.2 w j=if w=Az g v i/\j=GZ g v i then(rI y.2.2 w j).tail else rI y.2.2 w j:=by
 have hp:=Er hV hv hi;unfold y_;split
 ·rename_i e;by_cases q:w=Az g v i/\j=GZ g v i
  ·rw[if_pos q,q.1,q.2,e];rfl
  ·rw[if_neg q]
 ·rename_i s r e;dsimp only;rw[h.w.at hp.ul hp.bl];by_cases q:w=Az g v i/\j=GZ g v i
  ·rw[if_pos q,if_pos q,q.1,q.2,e];rfl
  ·rw[if_neg q,if_neg q]
theorem adC {k:Bool}:(y_ g k y v i).1=y.1:=by unfold y_;split<;>rfl
theorem adB (d:VG g) (h:SH g y) (c:v<g.2.length) (b:i<(row g v).length) {k:Bool} (w j:Nat):rI (y_ g k y v i).2.1 w j=if w=v/\j=i then(if k=true then(rI y.2.2 (Az g v i) (GZ g v i)).headD (rI y.2.1 v i)else rI y.2.1 v i)else rI y.2.1 w j:=by
 unfold y_;split
 ·rename_i e;by_cases q:w=v/\j=i
  ·rw[if_pos q,q.1,q.2,e];split<;>rfl
  ·rw[if_neg q]
 ·rename_i s r e;dsimp only;cases k with
  |false=>
   rw[if_neg (by decide)];by_cases q:w=v/\j=i
   ·rw[if_pos q,q.1,q.2,if_neg (by decide)]
   ·rw[if_neg q]
  |true=>
   rw[if_pos Z,h.a.at c b];by_cases q:w=v/\j=i
   ·rw[if_pos q,if_pos q,if_pos Z,e];rfl
   ·rw[if_neg q,if_neg q]
theorem XP (hV:VG g) (h:SH g y) (hv:v<g.2.length) (hi:i<(row g v).length) (hA:Mz g P y) {k:Bool}:Mz g P (y_ g k y v i):=by
 have hp:=Er hV hv hi;refine⟨λx hx=>by rw[adC];exact hA.c x hx,λw j hw hj=> ?_,λw j hw hj s hs=> ?_⟩
 ·rw[adB hV h hv hi];by_cases q:w=v/\j=i
  ·rw[if_pos q,q.1,q.2];split
   ·cases e:rI y.2.2 (Az g v i) (GZ g v i)with
    |nil=>exact hA.a v i hv hi
    |cons s r=>exact hA.w _ _ hp.ul hp.bl s (by rw[e];exact zAf)
   ·exact hA.a v i hv hi
  ·rw[if_neg q];exact hA.a w j hw hj
 ·rw[XR hV h hv hi]at hs;split at hs
  ·exact hA.w w j hw hj s (List.mem_of_mem_tail hs)
  ·exact hA.w w j hw hj s hs
theorem XQ (b:VG g) (h:SH g y) (e:v<g.2.length) (c:i<(row g v).length) (a:Cap g cap y) {k:Bool}:Cap g cap (y_ g k y v i):=λw j f d=>by
 have:=a w j f d;rw[XR b h e c];split
 ·rw[List.length_tail];omega
 ·exact this
theorem abG (h:SH g y) (b:v<g.2.length):SH g (Dw cap y v i):=by
 unfold Dw;split
 ·exact⟨h.c,h.a,h.w.set b _⟩
 ·exact h
theorem YW (h:SH g y) (b:v<g.2.length) (a:i<(row g v).length) (w j:Nat):rI (Dw cap y v i).2.2 w j=if w=v/\j=i/\(rI y.2.2 v i).length<cap then rI y.2.2 v i++[at' y.1 (v:Int)]else rI y.2.2 w j:=by
 unfold Dw;by_cases q:(rI y.2.2 v i).length<cap
 ·rw[if_pos q];dsimp only;rw[h.w.at b a];by_cases z:w=v/\j=i
  ·rw[if_pos z,if_pos ⟨z.1,z.2,q⟩]
  ·rw[if_neg z,if_neg (λe=>z ⟨e.1,e.2.1⟩)]
 ·rw[if_neg q,if_neg (λe=>q e.2.2)]
theorem UE:(Dw cap y v i).1=y.1/\(Dw cap y v i).2.1=y.2.1:=by unfold Dw;split<;>exact⟨rfl,rfl⟩
theorem YU (h:SH g y) (f:v<g.2.length) (l:i<(row g v).length) (d:Mz g P y):Mz g P (Dw cap y v i):=by
 refine⟨λx m=>by rw[UE.1];exact d.c x m,λw j k e=>by rw[UE.2];exact d.a w j k e,λw j k e s b=> ?_⟩
 rw[YW h f l]at b;split at b
 ·rename_i q;rcases zB0.1 b with b|b
  ·rw[q.1];exact d.w v i f l s b
  ·rw[List.mem_singleton.1 b,q.1];exact d.c v f
 ·exact d.w w j k e s b
theorem YV (h:SH g y) (d:v<g.2.length) (b:i<(row g v).length) (a:Cap g cap y):Cap g cap (Dw cap y v i):=λw j e c=>by
 have:=a w j e c;rw[YW h d b];split
 ·rename_i q;rw[zA4,List.length_singleton];omega
 ·exact this
theorem acF (h:SH g y):SH g (Ox g nx y v):=⟨by simpa [Ox]using h.c,h.a,h.w⟩
theorem aex (h:SH g y) (a:v<g.2.length) (x:Nat):at' (Ox g nx y v).1 (x:Int)=if x=v then nx (vw g y v) v else at' y.1 (x:Int):=CP _ _ _ _ (by rw[h.c];exact a)
theorem Tx (e:VG g) (h:SH g y) (d:v<g.2.length) (b:Mz g P y):(vw g y v).length=g.2.length/\∀x,x<g.2.length->P x (at' (vw g y v) (x:Int)):=
 ⟨by unfold vw;rw[GW,h.c],UR e h d P b.c (λi f=>b.a v i d f) _ (zAe _)⟩
theorem ZO (f:VG g) (h:SH g y) (d:v<g.2.length) (b:Mz g P y) (j:∀c:List (List Int),c.length=g.2.length->(∀x,x<g.2.length->P x (at' c (x:Int)))->∀v,v<g.2.length->P v (nx c v)):Mz g P (Ox g nx y v):=by
 refine⟨λx k=> ?_,b.a,b.w⟩
 rw[aex h d];split
 ·rename_i e;rw[e];have:=Tx f h d b;exact j _ this.1 this.2 v d
 ·exact b.c x k
theorem Yo (d:VG g) (h:SH g y) (f:Mz g P y) (j:Cap g cap y) {e:Nat×Nat×Nat} (l:acs g e) (m:∀c:List (List Int),c.length=g.2.length->(∀x,x<g.2.length->P x (at' c (x:Int)))->∀v,v<g.2.length->P v (nx c v)):SH g (Es g nx cap y e)/\Mz g P (Es g nx cap y e)/\Cap g cap (Es g nx cap y e):=by
 obtain⟨⟨o,p⟩,a,n⟩:=l;unfold Es;by_cases q:e.1=1
 ·rw[if_pos q];exact⟨acF h,ZO d h a f m,j⟩
 ·have b:=n.resolve_left q;rw[if_neg q];by_cases k:e.1=2
  ·rw[if_pos k];exact⟨abG h a,YU h a b f,YV h a b j⟩
  ·rw[if_neg k];exact⟨aaZ d h a b,XP d h a b f,XQ d h a b j⟩
end
def SO (g:GR) (a:Nat):List (Nat×Nat×Nat):=(List.range g.2.length).flatMap λv=>(List.range (row g v).length).flatMap λi=>(List.range a).flatMap λ_=>[(3,v,i)]
def abW (g:GR):List (Nat×Nat×Nat):=(List.range g.2.length).flatMap λv=>[(1,v,0)]
def YX (g:GR):List (Nat×Nat×Nat):=(List.range g.2.length).flatMap λv=>(List.range (row g v).length).flatMap λi=>[(2,v,i)]
def YT (g:GR) (a:Nat):List (Nat×Nat×Nat):=SO g a++(abW g++(YX g++SO g a))
end Go.Proofs.YtflciafboapaaaaGreat
namespace Go.Proofs.YtflciafboapaaaaGreat
open Go.Sx
def uJ (U:Nat) (a:iF) (b:cO) (c:bO):Option Bool:=
 Option.bind (uH U ((a.1,a.2.1,a.2.2)) ((b.1,b.2)) c) λd=>(some (decide (d=(0:Int))))
theorem acT:bB Tryz.prog 47:=Tryz.call47
theorem Me (U:Nat) {a:iF} {g:cO} {j:bO} (b d e f:V0) (k:lE) (i:V0) (m:kD) (r:Bool) (h:uJ U a g j=some r):
  bD Tryz.prog 47 #[Value.agg #[vS (a.1),b,d],Value.agg #[e,f],i] [Sl aH b a.2.1,Sl aE d a.2.2,PF (Value.agg #[vS a.1,b,d]),Sl aN e g.1,S2 aX f k g.2,S2 aN i m j] (λx:Unit=>vB (r)) (λx l=>l) (λ_ l=>l):=by
 refine bD.of Tryz.func47 Z Tryz.ntmps47 Z λc=>?_;refine aU<|aK (aP.box (cs:=[vS (a.1),b,d]) Z Z) Z λp=>aK (aP.box (cs:=[e,f]) Z Z) Z λq=>aC Z<|aO<|aU<|dM 1 Z<|dM 0 Z<|aA Z<|eT h λn o h=>aK (zBg adb (Md U b d e f k i m n o) Z (iN [0,1,2,3,4,5] Z)) Z λs=>cC Z<|aC Z<|aO<|aR ?_;cases h;exact nH Z
def pE (U:Nat) (a:Int) (c:bQ) (b:hJ):Option Bool:=
 ck (0<=a/\a<(b.length:Int)) (Option.bind (uI U (at' b a) c) λd=>(some (d)))
theorem WZ:bB Tryz.prog 49:=Tryz.call49
theorem Fv (U:Nat) {d:Int} {f:bQ} {g:hJ} (e:V0) (a:Nat) (i:V0) (j:lE) (r:Bool) (h:pE U d f g=some r):
  bD Tryz.prog 49 #[vI (d),e,vP a] [Sl aN e f,bL a [i] 86,S2 aX i j g] (λx:Unit=>vB (r)) (λx l=>l) (λ_ l=>l):=by
 refine bD.of Tryz.func49 Z Tryz.ntmps49 Z λc=>?_;refine aU<|aC Z<|aO<|aU<|aB (fZ Z (mM Z) Z Z Z) Z<|aA Z<|cU h λb h=>aB (bN Z Z (yP Z) Z Z b) Z<|aB (bT Z (yP Z) Z Z b) Z<|aA Z<|eT h λk m h=>aK (zBg W_ (Gl U ((at' j d).1) e k m) Z (aI.cons (zBh (yP Z) b.1 b.2) (iN [0] Z))) Z λn=>aC Z<|aO<|aR ?_;cases h;exact iZ Z
def Au (a:Unit):Option Bool:=
 some (true)
def Av (b:Int) (a:(Int)->Option Bool) (c:Unit):Option Bool:=
 a (wI .i64 (b+(1:Int)))
def Ay (b:Int) (a:(Int)->Option Bool) (c:Bool):Option Bool:=
 if c=true then(some (false))else(a (wI .i64 (b+(1:Int))))
def rD (b:Int) (a:(Int)->Option Bool) (c:Int):Option Bool:=
 Ay b a (decide ((0:Int)<=c))
def vD (b:Int) (a:(Int)->Option Bool) (c:Unit):Option Bool:=
 rD b a (-1:Int)
def Cj (d:Int) (b:(Int)->Option Bool) (a:Int) (c:(Int)->Option Bool) (e:Bool):Option Bool:=
 if e=true then(rD d b (a))else(c (wI .i64 (a+(1:Int))))
def rE (U:Nat) (f:kJ) (g:hJ) (c a:Int) (d:(Int)->Option Bool) (b:Int) (e:(Int)->Option Bool):Option Bool:=
 if b<((at' (at' f.2.2 c) a).length:Int)then(ck (0<=b/\b<((at' (at' f.2.2 c) a).length:Int)) (Option.bind (pE U c (at' (at' (at' f.2.2 c) a) b) g) λh=>(Cj a d b e ((!h)))))else(vD a d (()))
def Ax (U:Nat) (f:kJ) (e:hJ) (b c:Int) (a:(Int)->Option Bool) (d:Bool):Option Bool:=
 if d=true then(some (false))else(bJ (rE U f e b c a) U (0:Int))
def jG (U:Nat) (g:cO) (i:Int) (d:kJ) (e:hJ) (a:Int) (f:(Int)->Option Bool) (b:Int) (c:(Int)->Option Bool):Option Bool:=
 if b<((at' g.2 a).length:Int)then(ck (0<=b/\b<((at' g.2 a).length:Int)) (ck (0<=a/\a<(d.2.2.length:Int)) (ck (0<=b/\b<((at' d.2.2 a).length:Int)) (ck (0<=a/\a<(d.2.1.length:Int)) (ck (0<=b/\b<((at' d.2.1 a).length:Int)) (Option.bind (pE U ((at' (at' g.2 a) b).1) (at' (at' d.2.1 a) b) e) λh=>(if(!h)=true then(Ax U d e a b c (true))else(Ax U d e a b c (decide (i<((at' (at' d.2.2 a) b).length:Int)))))))))))else(Av a f (()))
def Aw (U:Nat) (e:cO) (f:Int) (g:kJ) (d:hJ) (b:Int) (a:(Int)->Option Bool) (c:Bool):Option Bool:=
 if c=true then(some (false))else(bJ (jG U e f g d b a) U (0:Int))
def gH (U:Nat) (c:cO) (f:Int) (d:kJ) (e:hJ) (a:Int) (b:(Int)->Option Bool):Option Bool:=
 if a<(c.2.length:Int)then(ck (0<=a/\a<(c.2.length:Int)) (ck (0<=a/\a<(d.2.1.length:Int)) (if((at' d.2.1 a).length:Int)≠((at' c.2 a).length:Int)then(Aw U c f d e a b (true))else(ck (0<=a/\a<(d.2.2.length:Int)) (Aw U c f d e a b (decide (((at' d.2.2 a).length:Int)≠((at' c.2 a).length:Int))))))))else(Au (()))
def As (U:Nat) (a:iF) (b:cO) (e:Int) (f:kJ) (d:Bool):Option Bool:=
 if d=true then(some (false))else(Option.bind (kZ U ((a.1,a.2.1,a.2.2)) ((b.1,b.2))) λc=>(bJ (gH U b e f c) U (0:Int)))
def vC (U:Nat) (c:iF) (a:cO) (d:Int) (b:kJ) (e:Bool):Option Bool:=
 if e=true then(some (false))else(if(b.2.1.length:Int)≠(a.2.length:Int)then(As U c a d b (true))else(As U c a d b (decide ((b.2.2.length:Int)≠(a.2.length:Int)))))
def wR (U:Nat) (a:iF) (b:cO) (c:Int) (d:kJ):Option Bool:=
 Option.bind (uJ U ((a.1,a.2.1,a.2.2)) ((b.1,b.2)) d.1) λe=>(if(!e)=true then(vC U a b c d (true))else(if c<(1:Int)then(vC U a b c d (true))else(vC U a b c d (decide ((8:Int)<c)))))
theorem acM:bB Tryz.prog 18:=Tryz.call18
theorem MX (U:Nat) {C:iF} {p:cO} {w:Int} {v:kJ} (N O v2 M:V0) (z4:lE) (v5:V0) (z6:kD) (v7:V0) (z8:IX) (v9:V0) (H:IW) (r:Bool) (h:wR U C p w v=some r):
  bD Tryz.prog 18 #[Value.agg #[vS (C.1),N,O],Value.agg #[v2,M],vI (w),Value.agg #[v5,v7,v9]] [Sl aH N C.2.1,Sl aE O C.2.2,PF (Value.agg #[vS C.1,N,O]),Sl aN v2 p.1,S2 aX M z4 p.2,S2 aN v5 z6 v.1,S3 aN v7 z8 v.2.1,S4 aN v9 H v.2.2] (λx:Unit=>vB (r)) (λx l=>l) (λ_ l=>l):=by
 let aa:=S2 aN v5 z6 v.1;let Y:=S2 aX M z4 p.2;let X:=S3 aN v7 z8 v.2.1;let W:=S4 aN v9 H v.2.2;let T:=PF (Value.agg #[vS C.1,N,O]);let L:=(p.2.length:Int)
 refine bD.of Tryz.func18 Z Tryz.ntmps18 Z λc=>?_;refine aU<|aK (aP.box (cs:=[vS (C.1),N,O]) Z Z) Z λb1=>aK (aP.box (cs:=[v2,M]) Z Z) Z λb2=>aK (aP.box (cs:=[v5,v7,v9]) Z Z) Z λb3=>let k:=bL b3 [v5,v7,v9] 43;aC Z<|aO<|aL<|aL<|eR (λa5=>vC U C p w v a5=some r) (λa5 b6=>[(2,vI (w)),(4,vP b1),(5,vP b2),(7,vP b3),(29,vB (a5))]) (λa5 b6=>[k,bL b2 [v2,M] 31,bL b1 [vS (C.1),N,O] 36]) ?_ ?_
 ·refine aQ<|dM 2 Z<|dM 1 Z<|bU Z<|dQ 0 Z<|eT h λa8 bd h=>aK (zBg acT (Me U N O v2 M z4 v5 z6 a8 bd) Z (iN [0,1,2,3,4,5] Z)) Z λbh=>aB (kM Z) Z<|aA Z ?_;refine tD (by exact rfl) (by exact rfl) (λS=>?_) (λS=>?_)
  ·have h:=Iv S h;refine aM Z<|aM Z<|dR Z<|aA Z<|aM Z<|aM Z<|dR Z<|aO ?_;exact fT (true) () h SF Z
  have h:=FA S h;refine dC Z<|aT Z (CO Z Z) Z<|eV Z<|aA Z ?_;refine BZ h Z (λ_ h=>?_) λ_ h=>?_
  ·refine aM Z<|aM Z<|dR Z<|aO ?_;exact fT (true) () h SF Z
  refine dC Z<|aT Z (tH Z Z) Z<|eV Z<|aO ?_;exact fT (decide ((8:Int)<w)) () h SF Z
 intro a5 b6 h;refine tC h Z (λ_ h=>?_) λ_ h=>?_
 ·refine aU<|aC Z<|aO<|aR<|aG ?_;cases h;exact nH Z
 refine cL<|aL<|aL<|eR (λa9=>As U C p w v a9=some r) (λa9 ap=>[(2,vI (w)),(4,vP b1),(5,vP b2),(7,vP b3),(45,vB (a9))]) (λa9 ap=>[k,bL b2 [v2,M] 31,bL b1 [vS (C.1),N,O] 36]) ?_ ?_
 ·refine aQ<|bU Z<|dQ 0 Z<|aB (dU Z (Ja Z) Z) Z<|bU Z<|dQ 1 Z<|aB (dU Z (Ek Z) Z) Z<|k_ Z<|aA Z ?_;refine BZ h Z (λ_ h=>?_) λ_ h=>?_
  ·refine aM Z<|aM Z<|aM Z<|aM Z<|aM Z<|aM Z<|aM Z<|dR Z<|aO ?_;exact fT (true) () h SF Z
  refine aT Z (cR Z Z Z Z Z) Z<|aT Z (dL 0 Z Z Z Z Z) Z<|aT Z (dU Z (ED Z) Z) Z<|aT Z (cR Z Z Z Z Z) Z<|aT Z (dL 1 Z Z Z Z Z) Z<|aT Z (dU Z (Ek Z) Z) Z<|aT Z (BP Z Z) Z<|eV Z<|aO ?_;exact fT (decide ((v.2.2.length:Int)≠L)) () h SF Z
 intro a9 ap h;refine tC h Z (λ_ h=>?_) λ_ h=>?_
 ·refine aU<|aC Z<|aO<|aR<|aG ?_;cases h;exact nH Z
 refine cL<|aU<|dM 2 Z<|dM 1 Z<|eT h λm ba h=>aK (zBg Ss (C_ U N O v2 M z4 m ba) Z (iN [0,1,2,3,4] Z)) Z λE=>let u:=gN b_ E.2 m;let s:=Ar bM.raw E.1 E.2;aK (aP.alloc (cs:=[cT]) Z Z) Z λK=>let al:=Value.pointer (some ⟨K,0,none⟩);let t:=bL K [E.1] 86;bF (vM (fP (i:=1) (j:=2) Z Z cW)) λa0=>pJ 0 Z Z a0 Z Z Z<|aO<|aU<|aB (HE (cs:=[.tmp 9]) (vs:=[vP K]) Z) Z<|aK (aP.alloc (cs:=[Value.nilFunc]) Z Z) Z λe=>let q:=bL e [Value.func (.func 49) #[] #[vP K]] 90;pJ 0 Z Z Z Z Z Z<|aO<|aL<|eR (λab=>Au ab=some r) (λab aq=>[]) (λab aq=>[]) ?_ ?_
 ·refine aU<|bU Z<|dQ 5 Z<|aB (dU Z (Ek Z) Z) Z<|aA Z<|aO<|aS<|fI (gH U p w v m) (λa ar=>[(2,vI (w)),(7,vP b3),(10,vP e),(51,M),(52,vI L),(53,vI (a))]) (λa ar=>[q,t,s,u,k]) (0:Int) () h SF (aZ.ix [0,1,2,3,4] Z Z) ?_;intro a3 a ar h;let V:=((at' p.2 a).length:Int)
  let ai:=(bJ (gH U p w v m) a3)
  refine aU<|cV Z<|aO<|aL ?_;refine eN h Z (λh=>?_) λh=>?_
  ·refine cL<|aL<|eR (λac=>Av a ai ac=some r) (λac au=>[(2,vI (w)),(7,vP b3),(10,vP e),(51,M),(52,vI L),(53,vI (a))]) (λac au=>[q,t,s,u,k]) ?_ ?_
   ·refine aS<|aU<|aA Z<|cU h λf h=>aB (bN Z Z (Ek Z) Z Z f) Z<|aB (bT Z (Ek Z) Z Z f) Z<|aK (aP.alloc (cs:=[vI (0:Int)]) Z Z) Z λo=>let D:=bL o [vI (a)] 3;pJ 0 Z Z Z Z Z Z<|aC Z<|aO<|aL<|aL<|eR (λP=>Aw U p w v m a ai P=some r) (λP av=>[(2,vI (w)),(7,vP b3),(10,vP e),(11,vP o),(12,(at' z4 a).1),(51,M),(52,vI L),(53,vI (a)),(77,vB (P))]) (λP av=>[D,q,t,s,u,k]) ?_ ?_
    ·refine aQ<|bU Z<|dQ 5 Z<|dQ 0 Z<|cU h λag h=>aB (bN Z Z (Ja Z) Z Z ag) Z<|aB (eI Z (Ja Z) Z Z ag) Z ?_;refine aB (dU Z (cE (Ja Z) ag.1 ag.2) Z) Z ?_;refine aA Z<|aB (fE Z (zBh (Ek Z) f.1 f.2) Z) Z<|k_ Z<|aA Z ?_;refine BZ h Z (λ_ h=>?_) λ_ h=>?_
     ·refine aM Z<|aM Z<|aM Z<|aM Z<|aM Z<|aM Z<|aM Z<|aM Z<|aM Z<|dR Z<|aO ?_;exact fT (true) () h SF Z
     refine aT Z (cR Z Z Z Z Z) Z<|aT Z (dL 5 Z Z Z Z Z) Z<|aT Z (dL 0 Z Z Z Z Z) Z<|cU h λah h=>aT Z (bN Z Z (ED Z) Z Z ah) Z<|aT Z (eI Z (ED Z) Z Z ah) Z ?_;refine aT Z (dU Z (cE (ED Z) ah.1 ah.2) Z) Z ?_;refine dC Z<|aT Z (fE Z (zBh (Ek Z) f.1 f.2) Z) Z<|aT Z (BP Z Z) Z<|eV Z<|aO ?_;exact fT (decide (((at' v.2.2 a).length:Int)≠V)) () h SF Z
    intro P av h;refine tC h Z (λ_ h=>?_) λ_ h=>?_
    ·refine aU<|aC Z<|aO<|aR<|aG<|bI<|aG<|aG<|bI<|aG ?_;cases h;exact nH Z
    refine cL<|aU<|aA Z<|aB (fE Z (zBh (Ek Z) f.1 f.2) Z) Z<|aA Z<|aO<|aS<|fI (jG U p w v m a ai) (λb aw=>[(2,vI (w)),(7,vP b3),(10,vP e),(11,vP o),(51,M),(52,vI L),(53,vI (a)),(78,(at' z4 a).1),(79,vI V),(80,vI (b))]) (λb aw=>[D,q,t,s,u,k]) (0:Int) () h SF (aZ.refl _) ?_;intro a4 b aw h;let ak:=((at' (at' v.2.2 a) b).length:Int)
    let aj:=(at' ((at' H a).2) b)
    let G:=(bJ (jG U p w v m a ai) a4)
    refine aU<|cV Z<|aO<|aL ?_;refine eN h Z (λh=>?_) λh=>?_
    ·refine cL<|aL<|aS<|aU<|aA Z<|cU h λa1 h=>aB (bE Z Z (zBh (Ek Z) f.1 f.2) Z Z a1) Z<|aB (gU (cs:=[vI ((at' (at' p.2 a) b).1),vI ((at' (at' p.2 a) b).2)]) Z (zBh (Ek Z) f.1 f.2) cW Z Z Z Z a1) Z<|aK (aP.alloc (cs:=Wi) Z Z) Z λbf=>aC Z<|cG 0 (vs:=[vI ((at' (at' p.2 a) b).1),vI ((at' (at' p.2 a) b).2)]) Z Z Z Z Z Z<|aO<|aU<|bU Z<|dQ 6 Z<|dQ 1 Z<|cU h λd h=>aB (bN Z Z (ED Z) Z Z d) Z<|aB (eI Z (ED Z) Z Z d) Z<|aA Z<|cU h λg h=>aB (bN Z Z (cE (ED Z) d.1 d.2) Z Z g) Z ?_;refine aB (eI Z (cE (ED Z) d.1 d.2) Z Z g) Z ?_;refine aC Z<|aO<|aL<|aL<|eR (λQ=>Ax U v m a b G Q=some r) (λQ ax=>[(2,vI (w)),(7,vP b3),(10,vP e),(11,vP o),(15,aj.1),(51,M),(52,vI L),(53,vI (a)),(78,(at' z4 a).1),(79,vI V),(80,vI (b)),(111,vB (Q))]) (λQ ax=>[D,q,t,s,u,k]) ?_ ?_
     ·refine sW [0,0,2,0,8,0,56,120,0,504,1016,2047,4095,8191,16383,32767,16383,131071,262143] 17 mixedOrders ?_;refine fO 2 Z<|cH Z<|fO 0 Z<|cH Z<|fO 6 Z<|fO 1 Z<|cU h λy h=>a_ (dG (Ja Z)) λaD=>gC Z (dW Z Z aD Z Z y)<|aY Z .nil (fN 6 Z) (eI Z (cA Z) Z Z y) aJ.z<|aV Z<|cU h λaf h=>a_ (dG (cE (Ja Z) y.1 y.2)) λaW=>?_;refine gC Z (dW Z Z aW Z Z af) ?_;refine aY Z .nil (fN 6 Z) (bT Z (cE (cA Z) y.1 y.2) Z Z af) aJ.z<|eT h λa7 bc h=>zBi Z Z Z (yH (vs:=[vI ((at' (at' p.2 a) b).1),(at' ((at' z8 a).2) b).1]) (cs:=[al]) WZ Z (Fv U ((at' ((at' z8 a).2) b).1) K E.1 (List.zip E.2 m) a7 bc) Z (aI.cons (zBh (cE (Ja Z) y.1 y.2) af.1 af.2) (aI.cons (aF.res 3 Z) (aI.cons (fP (i:=4) (j:=5) Z Z cW) .nil))) (λ_ _=>rfl)) Z (λbe=>(mC [] Z)) λbe=>?_;refine gC Z (kM Z)<|gC Z (eO Z) ?_;refine JR.guard (by exact rfl) (by exact rfl) (by exact rfl) (λR=>?_) (λR=>?_)
      ·have h:=Iv R h;refine bA Z Z Z Z<|bA Z Z Z Z<|bA Z Z Z Z<|bP 17 Z Z<|aM Z<|dR Z<|aO ?_;exact cI (true) () h SF (aZ.ix [1,2,3,4,5,6] Z Z) (aI.refl _ _)
      have h:=FA R h;refine cS Z .nil .nil (eO Z) (EQ Z) ?_;refine cS Z .nil (fN 7 Z) (dU Z (cE (cE (cA Z) d.1 d.2) g.1 g.2) Z) (EQ Z) ?_;refine cS Z .nil .nil (eO Z) (EQ Z)<|bP 17 Z Z<|aT Z (tH Z Z) Z<|eV Z<|aO ?_;exact cI (decide (w<ak)) () h SF (aZ.ix [1,2,3,4,5,6] Z Z) (aI.refl _ _)
     intro Q ax h;refine tC h Z (λ_ h=>?_) λ_ h=>?_
     ·refine aU<|aC Z<|aO<|aR<|aG<|bI<|aG<|aG<|bI<|bI<|aG<|aG<|bI<|aG ?_;cases h;exact nH Z
     refine cL<|aU<|aA Z<|aB (HE (cs:=[.tmp 10,.tmp 11]) (vs:=[vP e,vP o]) Z) Z<|Dz (A:=Bool) (B:=Unit) (vs:=[(at' ((at' H a).2) b).1,Value.func (.func 52) #[] #[vP e,vP o]]) (λI=>Ay b G I=some r) (λI am=>vB (I)) (λI am=>[D,q,t,s,u,k]) (λI am=>[Sl aH N C.2.1,Sl aE O C.2.2,T,Sl aN v2 p.1,Y,aa,X,W]) (wL.fn (show bB Tryz.prog 51 from Tryz.call51) Z) Tryz.func51 Z Tryz.ntmps51 Z Z ?_ ?_
     ·refine aU<|aC Z<|aO<|aU<|aA Z<|aA Z<|Dz (A:=Int) (B:=Unit) (vs:=[(at' ((at' H a).2) b).1,Value.func (.func 52) #[] #[vP e,vP o]]) (λF=>rD b G F=some r) (λF an=>vI (F)) (λF an=>[D,q,t,s,u,k]) (λF an=>[Sl aH N C.2.1,Sl aE O C.2.2,T,Sl aN v2 p.1,Y,aa,X,W]) (wL.fn (show bB Tryz.prog 98 from Tryz.call98) Z) Tryz.func98 Z Tryz.ntmps98 Z Z ?_ ?_
      ·refine aU<|aC Z<|aO<|aL<|eR (λad=>vD b G ad=some r) (λad ay=>[]) (λad ay=>[D,q,t,s,u,k]) ?_ ?_
       ·refine aU<|aA Z ?_;refine aB (dU Z (cE (cE (ED Z) d.1 d.2) g.1 g.2) Z) Z ?_;refine aA Z<|aO<|aS<|fI (rE U v m a b G) (λn az=>[(0,aj.1),(1,Value.func (.func 52) #[] #[vP e,vP o]),(7,vI ak),(8,vI (n))]) (λn az=>[D,q,t,s,u,k]) (0:Int) () h SF (aZ.refl _) ?_;intro a6 n az h;refine aU<|cV Z<|aO<|aL ?_;refine eN h Z (λh=>?_) λh=>?_
        ·refine cL<|aL<|aS<|aU<|aA Z<|aC Z<|aO<|aU<|aA Z<|aA Z<|aA Z<|cU h λae h=>aB (bN Z Z (cE (cE (ED Z) d.1 d.2) g.1 g.2) Z Z ae) Z ?_;refine aB (bT Z (cE (cE (ED Z) d.1 d.2) g.1 g.2) Z Z ae) Z ?_;refine Dz (A:=Bool) (B:=Unit) (vs:=[(at' ((at' ((at' H a).2) b).2) n).1,vP e,vP o]) (λJ=>Cj b G n (bJ (rE U v m a b G) a6) J=some r) (λJ ao=>vB (J)) (λJ ao=>[D,q,t,s,u,k]) (λJ ao=>[Sl aH N C.2.1,Sl aE O C.2.2,T,Sl aN v2 p.1,Y,aa,X,W]) (UX (us:=[(at' (aj.2) n).1]) (cs:=[vP e,vP o]) (show bB Tryz.prog 52 from Tryz.call52) Z Z Z) Tryz.func52 Z Tryz.ntmps52 Z Z ?_ ?_
         ·refine aU<|aC Z<|aO<|aU<|dQ 1 Z<|dQ 0 Z<|aA Z<|eT h λa2 bb h=>aK (yH (vs:=[vI (a),(at' ((at' ((at' H a).2) b).2) n).1]) (cs:=[al]) WZ Z (Fv U ((at' (aj.2) n).1) K E.1 (List.zip E.2 m) a2 bb) Z (aI.cons (zBh (cE (cE (ED Z) d.1 d.2) g.1 g.2) ae.1 ae.2) (aI.cons (aF.res 2 Z) (aI.cons (fP (i:=3) (j:=4) Z Z cW) .nil))) (λ_ _=>rfl)) Z λbg=>?_;refine aB (kM Z) Z<|aC Z<|aO<|aR ?_;exact mW ((!a2)) () h (.inl Z) (Hi.r1 Z (RV.tmp Z)) Z (aZ.refl _) (aI.refl _ _)
         intro J ao h;refine aO ?_;refine tC h Z (λ_ h=>?_) λ_ h=>?_
         ·refine aU<|aA Z<|aC Z<|aO<|aR<|bI<|aG<|aG<|bI<|aG ?_;exact mW (n) () h (.inl Z) (Hi.r1 Z (RV.tmp Z)) Z (aZ.refl _) (aI.refl _ _)
         refine eM<|lL<|aQ<|cP Z<|aA Z<|aO ?_;exact xY (wI .i64 (n+(1:Int))) () h SF Z
        refine fG ?_;exact fT () (()) h SF Z
       intro ad ay h;unfold vD at h;refine aU<|aC Z<|aO<|aR ?_;exact mW (-1:Int) () h (.inl Z) (Hi.r1 Z (RV.tmp Z)) Z (aZ.refl _) (aI.refl _ _)
      intro F an h;unfold rD at h;refine aB (yV Z Z) Z<|aC Z<|aO<|aR ?_;exact mW (decide ((0:Int)<=F)) () h (.inl Z) (Hi.r1 Z (RV.tmp Z)) Z (aZ.refl _) (aI.refl _ _)
     intro I am h;refine aO ?_;refine tC h Z (λ_ h=>?_) λ_ h=>?_
     ·refine aU<|aC Z<|aO<|aR<|bI<|aG<|aG<|bI<|bI<|aG<|aG<|bI<|aG ?_;cases h;exact nH Z
     refine eM<|lL<|aQ<|cP Z<|aA Z<|aO ?_;exact xY (wI .i64 (b+(1:Int))) () h SF Z
    refine rP<|fX<|fX<|yQ<|lL ?_;exact cI () (()) h SF (aZ.ix [1,2,3,4,5] Z Z) (aI.refl _ _)
   intro ac au h;unfold Av at h;refine aQ<|cP Z<|aA Z<|aO ?_;exact xY (wI .i64 (a+(1:Int))) () h SF Z
  refine fG ?_;exact cI () (()) h SF .nil (aI.refl _ _)
 intro ab aq h;unfold Au at h;refine aU<|aC Z<|aO<|aR ?_;cases h;exact iZ Z
def Ak (a:Unit):Option Bool:=
 some (true)
def Al (U:Nat) (d:iF) (g:cO) (h:Int) (e:bQ) (a:Int) (c:(Int)->Option Bool):Option Bool:=
 if a<(e.length:Int)then(Option.bind (jK U ((d.1,d.2.1,d.2.2)) ((g.1,g.2)) h a) λb=>(ck (0<=a/\a<(e.length:Int)) (Option.bind (gX U (at' e a) b.1 b.2) λf=>(if(!f)=true then(some (false))else(c (wI .i64 (a+(1:Int))))))))else(Ak (()))
def qC (U:Nat) (a:iF) (c:cO) (d:Int) (b:bQ):Option Bool:=
 if(b.length:Int)≠(a.2.1.length:Int)then(some (false))else(bJ (Al U a c d b) U (0:Int))
theorem Xa:bB Tryz.prog 55:=Tryz.call55
theorem Hx (U:Nat) {a:iF} {k:cO} {m:Int} {n:bQ} (b d f g:V0) (z:lE) (q:V0) (r:Bool) (h:qC U a k m n=some r):
  bD Tryz.prog 55 #[Value.agg #[vS (a.1),b,d],Value.agg #[f,g],vI (m),q] [Sl aH b a.2.1,Sl aE d a.2.2,PF (Value.agg #[vS a.1,b,d]),Sl aN f k.1,S2 aX g z k.2,Sl aN q n] (λx:Unit=>vB (r)) (λx l=>l) (λ_ l=>l):=by
 refine bD.of Tryz.func55 Z Tryz.ntmps55 Z λc=>?_;refine aU<|aK (aP.box (cs:=[vS (a.1),b,d]) Z Z) Z λu=>aK (aP.box (cs:=[f,g]) Z Z) Z λv=>aC Z<|aO<|aL<|aU<|aA Z<|iH (Di Z) Z<|bU Z<|dQ 1 Z<|iH (cA Z) Z<|k_ Z<|aO ?_;refine eN h Z (λh=>?_) λh=>?_
 ·refine aU<|aC Z<|aO<|aR<|aG ?_;cases h;exact nH Z
 refine cL<|aL<|eR (λi=>Ak i=some r) (λi w=>[]) (λi w=>[]) ?_ ?_
 ·refine aU<|aC Z<|aO<|aS<|fI (Al U a k m n) (λj y=>[(2,vI (m)),(3,q),(4,vP u),(5,vP v),(9,vI (j))]) (λj y=>[bL v [f,g] 31,bL u [vS (a.1),b,d] 36]) (0:Int) () h SF (aZ.refl _) ?_;intro A j y h;refine aL<|aU<|aA Z<|aA Z<|iH (Di Z) Z<|cV Z<|aO ?_;refine eN h Z (λh=>?_) λh=>?_
  ·refine cL<|aL<|aS<|aU<|dM 1 Z<|dM 0 Z<|aA Z<|aA Z<|eT h λo s h=>aK (zBg KH (CG U b d f g z o s) Z (iN [0,1,2,3,4] Z)) Z λB=>aA Z<|jJ Z<|jJ Z<|aC Z<|aC Z<|aO<|aU<|aA Z<|aA Z<|cU h λe h=>aB (bE Z Z (Di Z) Z Z e) Z<|aB (cK Z (Di Z) Z Z Z eY e) Z<|aA Z<|aA Z<|eT h λp t h=>aK (zBg uF (jH U p t) Z .nil) Z λC=>aB (kM Z) Z<|aO ?_;refine tC h Z (λ_ h=>?_) λ_ h=>?_
   ·refine aU<|aC Z<|aO<|aR<|bI<|aG<|aG<|bI<|aG ?_;cases h;exact nH Z
   refine eM<|lL<|aQ<|aA Z<|cP Z<|aC Z<|aO ?_;exact xY (wI .i64 (j+(1:Int))) () h SF Z
  refine fG ?_;exact cI () (()) h SF .nil (aI.refl _ _)
 intro i w h;unfold Ak at h;refine aU<|aC Z<|aO<|aR ?_;cases h;exact iZ Z
def Af (a:Unit):Option Bool:=
 some (true)
def Ag (b:Int) (a:(Int)->Option Bool) (c:Unit):Option Bool:=
 a (wI .i64 (b+(1:Int)))
def uZ (b:Int) (a:(Int)->Option Bool) (c:Unit):Option Bool:=
 a (wI .i64 (b+(1:Int)))
def Aj (U:Nat) (g:iF) (i:cO) (d:kJ) (a b:Int) (e:(Int)->Option Bool) (c:Int) (f:(Int)->Option Bool):Option Bool:=
 ck (0<=a/\a<(d.2.2.length:Int)) (ck (0<=b/\b<((at' d.2.2 a).length:Int)) (if c<((at' (at' d.2.2 a) b).length:Int)then(ck (0<=a/\a<(d.2.2.length:Int)) (ck (0<=b/\b<((at' d.2.2 a).length:Int)) (ck (0<=c/\c<((at' (at' d.2.2 a) b).length:Int)) (Option.bind (qC U ((g.1,g.2.1,g.2.2)) ((i.1,i.2)) a (at' (at' (at' d.2.2 a) b) c)) λh=>(if(!h)=true then(some (false))else(f (wI .i64 (c+(1:Int)))))))))else(uZ b e (()))))
def Ai (U:Nat) (e:iF) (f:cO) (g:kJ) (b c:Int) (a:(Int)->Option Bool) (d:Bool):Option Bool:=
 if d=true then(some (false))else(bJ (Aj U e f g b c a) U (0:Int))
def oL (U:Nat) (g:iF) (c:cO) (i:Int) (e:kJ) (a:Int) (f:(Int)->Option Bool) (b:Int) (d:(Int)->Option Bool):Option Bool:=
 ck (0<=a/\a<(c.2.length:Int)) (if b<((at' c.2 a).length:Int)then(ck (0<=a/\a<(c.2.length:Int)) (ck (0<=b/\b<((at' c.2 a).length:Int)) (ck (0<=a/\a<(e.2.1.length:Int)) (ck (0<=b/\b<((at' e.2.1 a).length:Int)) (Option.bind (qC U ((g.1,g.2.1,g.2.2)) ((c.1,c.2)) ((at' (at' c.2 a) b).1) (at' (at' e.2.1 a) b)) λh=>(if(!h)=true then(Ai U g c e a b d (true))else(ck (0<=a/\a<(e.2.2.length:Int)) (ck (0<=b/\b<((at' e.2.2 a).length:Int)) (Ai U g c e a b d (decide (i<((at' (at' e.2.2 a) b).length:Int))))))))))))else(Ag a f (())))
def Ah (U:Nat) (d:iF) (e:cO) (f:Int) (g:kJ) (b:Int) (a:(Int)->Option Bool) (c:Bool):Option Bool:=
 if c=true then(some (false))else(bJ (oL U d e f g b a) U (0:Int))
def j_ (U:Nat) (e:iF) (c:cO) (f:Int) (d:kJ) (a:Int) (b:(Int)->Option Bool):Option Bool:=
 if a<(c.2.length:Int)then(ck (0<=a/\a<(d.2.1.length:Int)) (ck (0<=a/\a<(c.2.length:Int)) (if((at' d.2.1 a).length:Int)≠((at' c.2 a).length:Int)then(Ah U e c f d a b (true))else(ck (0<=a/\a<(d.2.2.length:Int)) (ck (0<=a/\a<(c.2.length:Int)) (Ah U e c f d a b (decide (((at' d.2.2 a).length:Int)≠((at' c.2 a).length:Int)))))))))else(Af (()))
def rB (U:Nat) (b:iF) (c:cO) (d:Int) (e:kJ) (a:Bool):Option Bool:=
 if a=true then(some (false))else(bJ (j_ U b c d e) U (0:Int))
def wP (U:Nat) (b:iF) (a:cO) (d:Int) (c:kJ):Option Bool:=
 Option.bind (wO U ((b.1,b.2.1,b.2.2)) ((a.1,a.2)) c.1) λe=>(if(!e)=true then(rB U b a d c (true))else(Option.bind (gX U d (1:Int) (8:Int)) λf=>(if(!f)=true then(rB U b a d c (true))else(if(c.2.1.length:Int)≠(a.2.length:Int)then(rB U b a d c (true))else(rB U b a d c (decide ((c.2.2.length:Int)≠(a.2.length:Int))))))))
theorem acN:bB Tryz.prog 19:=Tryz.call19
theorem MV (U:Nat) {p:iF} {t:cO} {o:Int} {q:kJ} (S T X Y:V0) (z4:lE) (v5:V0) (z6:kD) (v7:V0) (z8:IX) (v9:V0) (ar:IW) (r:Bool) (h:wP U p t o q=some r):
  bD Tryz.prog 19 #[Value.agg #[vS (p.1),S,T],Value.agg #[X,Y],vI (o),Value.agg #[v5,v7,v9]] [Sl aH S p.2.1,Sl aE T p.2.2,PF (Value.agg #[vS p.1,S,T]),Sl aN X t.1,S2 aX Y z4 t.2,S2 aN v5 z6 q.1,S3 aN v7 z8 q.2.1,S4 aN v9 ar q.2.2] (λx:Unit=>vB (r)) (λx l=>l) (λ_ l=>l):=by
 let k:=vI (t.2.length:Int);refine bD.of Tryz.func19 Z Tryz.ntmps19 Z λc=>?_;refine aU<|aK (aP.box (cs:=[vS (p.1),S,T]) Z Z) Z λF=>let j:=bL F [vS (p.1),S,T] 36;aK (aP.box (cs:=[X,Y]) Z Z) Z λG=>let n:=bL G [X,Y] 31;aK (aP.box (cs:=[v5,v7,v9]) Z Z) Z λH=>let m:=bL H [v5,v7,v9] 43;aC Z<|aO<|aU<|bU Z<|dQ 1 Z<|aB (dU Z (Ek Z) Z) Z<|aC Z<|aO<|aL<|aL<|eR (λa5=>rB U p t o q a5=some r) (λa5 b6=>[(2,vI (o)),(4,vP F),(5,vP G),(7,vP H),(9,k),(40,vB (a5))]) (λa5 b6=>[m,n,j]) ?_ ?_
 ·refine aQ<|dM 2 Z<|dM 1 Z<|bU Z<|dQ 0 Z<|eT h λax aF h=>aK (zBg acU (MR U S T X Y z4 v5 z6 ax aF) Z (iN [0,1,2,3,4,5] Z)) Z λa3=>aB (kM Z) Z<|aA Z ?_;refine tD (by exact rfl) (by exact rfl) (λB=>?_) (λB=>?_)
  ·have h:=Iv B h;refine aM Z<|aM Z<|aM Z<|dR Z<|aA Z<|aM Z<|aM Z<|aM Z<|aM Z<|aM Z<|dR Z<|aA Z<|aM Z<|aM Z<|aM Z<|aM Z<|aM Z<|dR Z<|aO ?_;exact fT (true) () h SF Z
  have h:=FA B h;refine dC Z<|eT h λay aW h=>qH Z (zBg uF (jH U ay aW) Z .nil) Z λa4=>aT Z (kM Z) Z<|eV Z<|aA Z ?_;refine tD (by exact rfl) (by exact rfl) (λC=>?_) (λC=>?_)
  ·have h:=Iv C h;refine aM Z<|aM Z<|aM Z<|aM Z<|aM Z<|dR Z<|aA Z<|aM Z<|aM Z<|aM Z<|aM Z<|aM Z<|dR Z<|aO ?_;exact fT (true) () h SF Z
  have h:=FA C h;refine aT Z (cR Z Z Z Z Z) Z<|aT Z (dL 0 Z Z Z Z Z) Z<|aT Z (dU Z (Ja Z) Z) Z<|dC Z<|aT Z (BP Z Z) Z<|eV Z<|aA Z ?_;refine BZ h Z (λ_ h=>?_) λ_ h=>?_
  ·refine aM Z<|aM Z<|aM Z<|aM Z<|aM Z<|dR Z<|aO ?_;exact fT (true) () h SF Z
  refine aT Z (cR Z Z Z Z Z) Z<|aT Z (dL 0 Z Z Z Z Z) Z<|aT Z (dU Z (ED Z) Z) Z<|dC Z<|aT Z (BP Z Z) Z<|eV Z<|aO ?_;exact fT (decide ((q.2.2.length:Int)≠(t.2.length:Int))) () h SF Z
 intro a5 b6 h;refine tC h Z (λ_ h=>?_) λ_ h=>?_
 ·refine aU<|aC Z<|aO<|aR<|aG ?_;cases h;exact nH Z
 refine cL<|aL<|eR (λa8=>Af a8=some r) (λa8 b9=>[]) (λa8 b9=>[]) ?_ ?_
 ·refine aU<|aC Z<|aO<|aS<|fI (j_ U p t o q) (λa aa=>[(2,vI (o)),(4,vP F),(5,vP G),(7,vP H),(9,k),(10,vI (a))]) (λa aa=>[m,n,j]) (0:Int) () h SF (aZ.refl _) ?_;intro au a aa h;let W:=(bJ (j_ U p t o q) au)
  let R:=(oL U p t o q a W)
  refine aL<|aU<|aA Z<|aA Z<|cV Z<|aO ?_;refine eN h Z (λh=>?_) λh=>?_
  ·refine cL<|aL<|eR (λD=>Ag a W D=some r) (λD ab=>[(2,vI (o)),(4,vP F),(5,vP G),(7,vP H),(9,k),(10,vI (a))]) (λD ab=>[m,n,j]) ?_ ?_
   ·refine aS<|aL<|aL<|eR (λu=>Ah U p t o q a W u=some r) (λu ac=>[(2,vI (o)),(4,vP F),(5,vP G),(7,vP H),(9,k),(10,vI (a)),(73,vB (u))]) (λu ac=>[m,n,j]) ?_ ?_
    ·refine sW [0,1,0,7,15,31,0,64,0,448,960,1984,4095,8191,16383,32767,16383,131071,262143,524287,16383,1064959,16383,7356415,15745023,32522239,67108863,134217727] 26 mixedOrders ?_;refine cH Z<|fO 0 Z<|aV Z<|cU h λN h=>a_ (dG (Ja Z)) λao=>gC Z (dW Z Z ao Z Z N)<|aY Z .nil (fN 6 Z) (eI Z (cA Z) Z Z N) aJ.z ?_;refine aY Z .nil (fN 6 Z) (dU Z (cE (cA Z) N.1 N.2) Z) aJ.z ?_;refine cH Z<|fO 1 Z<|aV Z<|cU h λO h=>aY Z .nil (fN 4 Z) (bN Z Z (cA Z) Z Z O) aJ.z<|aY Z .nil (fN 4 Z) (bT Z (cA Z) Z Z O) aJ.z<|aY Z .nil (fN 4 Z) (fE Z (zBh (cA Z) O.1 O.2) Z) aJ.z<|gC Z (BP Z Z)<|aV Z ?_;refine AY (by exact rfl) (by exact rfl) (by exact rfl) (λA=>?_) (λA=>?_)
     ·have h:=Iv A h;refine bA Z Z Z Z<|bA Z Z Z Z<|bA Z Z Z Z<|bA Z Z Z Z<|bA Z Z Z Z<|bA Z Z Z Z<|bA Z Z Z Z<|bA Z Z Z Z<|bA Z Z Z Z<|bA Z Z Z Z<|bA Z Z Z Z<|bA Z Z Z Z<|bP 26 Z Z<|aM Z<|dR Z<|aO ?_;exact fT (true) () h SF Z
     have h:=XT A h;refine cS Z .nil .nil (cR Z Z Z Z Z) aJ.z<|cS Z (aZ.cons 0 Z .nil) .nil (dL 0 Z Z Z Z Z) aJ.z<|cS Z .nil .nil (eO Z) aJ.z<|cU h λP h=>a_ (dG (ED Z)) λap=>cS Z .nil .nil (dW Z Z ap Z Z P) aJ.z<|cS Z .nil (fN 7 Z) (eI Z (cA Z) Z Z P) aJ.z ?_;refine cS Z .nil (fN 7 Z) (dU Z (cE (cA Z) P.1 P.2) Z) aJ.z ?_;refine cS Z .nil .nil (cR Z Z Z Z Z) aJ.z<|cS Z (aZ.cons 1 Z .nil) .nil (dL 0 Z Z Z Z Z) aJ.z<|cS Z .nil .nil (eO Z) aJ.z<|cU h λQ h=>cS Z .nil (fN 4 Z) (bN Z Z (cA Z) Z Z Q) aJ.z<|cS Z .nil (fN 4 Z) (bT Z (cA Z) Z Z Q) aJ.z<|cS Z .nil (fN 4 Z) (fE Z (zBh (cA Z) Q.1 Q.2) Z) aJ.z<|bP 26 Z Z<|aT Z (BP Z Z) Z<|eV Z<|aO ?_;exact fT (decide (((at' q.2.2 a).length:Int)≠((at' t.2 a).length:Int))) () h SF Z
    intro u ac h;refine tC h Z (λ_ h=>?_) λ_ h=>?_
    ·refine aU<|aC Z<|aO<|aR<|aG<|bI<|aG<|aG<|bI<|aG ?_;cases h;exact nH Z
    refine cL<|aU<|aC Z<|aO<|aS<|fI R (λb ad=>[(2,vI (o)),(4,vP F),(5,vP G),(7,vP H),(9,k),(10,vI (a)),(11,vI (b))]) (λb ad=>[m,n,j]) (0:Int) () h SF (aZ.refl _) ?_;intro V b ad h;refine aL<|aU<|aA Z<|bU Z<|dQ 1 Z<|aA Z<|cU h λI h=>aB (bN Z Z (Ek Z) Z Z I) Z<|aB (bT Z (Ek Z) Z Z I) Z<|aB (fE Z (zBh (Ek Z) I.1 I.2) Z) Z<|cV Z<|aO ?_;refine eN h Z (λh=>?_) λh=>?_
    ·refine cL<|aL<|eR (λE=>uZ b (bJ R V) E=some r) (λE ae=>[(2,vI (o)),(4,vP F),(5,vP G),(7,vP H),(9,k),(10,vI (a)),(11,vI (b))]) (λE ae=>[m,n,j]) ?_ ?_
     ·refine aS<|aL<|aL<|eR (λv=>Ai U p t q a b (bJ R V) v=some r) (λv af=>[(2,vI (o)),(4,vP F),(5,vP G),(7,vP H),(9,k),(10,vI (a)),(11,vI (b)),(117,vB (v))]) (λv af=>[m,n,j]) ?_ ?_
      ·refine sW [0,0,0,4,0,28,60,0,252,508,1020,0,2048,0,14336,30720,0,129024,260096,524287,1048575,2097151,4194303,8388607,4194303,33554431,67108863,4194303,268435455,536870911,1073741823,4194303,4294967295,8589934591] 32 mixedOrders ?_;refine jD 2 Z<|jD 1 Z<|cH Z<|fO 1 Z<|aV Z<|cU h λs h=>aY Z .nil (fN 4 Z) (bN Z Z (cA Z) Z Z s) aJ.z<|aY Z .nil (fN 4 Z) (bT Z (cA Z) Z Z s) aJ.z<|aV Z<|cU h λaq h=>aY Z .nil (fN 4 Z) (bE Z Z (zBh (cA Z) s.1 s.2) Z Z aq) aJ.z<|gC Z (cZ Z Z Z Z Z)<|aY Z .nil (fN 4 Z) (eL Z (zBh (cA Z) s.1 s.2) Z Z Z gT aq) aJ.z<|cH Z<|fO 0 Z<|aV Z<|cU h λg h=>a_ (dG (Ja Z)) λak=>gC Z (dW Z Z ak Z Z g)<|aY Z .nil (fN 6 Z) (eI Z (cA Z) Z Z g) aJ.z<|aV Z<|cU h λL h=>a_ (dG (cE (Ja Z) g.1 g.2)) λal=>?_;refine gC Z (dW Z Z al Z Z L) ?_;refine aY Z .nil (fN 6 Z) (bT Z (cE (cA Z) g.1 g.2) Z Z L) aJ.z<|eT h λaw aD h=>zBi Z Z Z (zBg Xa (Hx U S T X Y z4 ((at' ((at' z8 a).2) b).1) aw aD) Z (aI.cons (cA Z) (aI.cons (mM Z) (aI.cons (yP Z) (aI.cons (Dh Z) (aI.cons (Ek Z) (aI.cons (zBh (cE (Ja Z) g.1 g.2) L.1 L.2) .nil))))))) Z (λa0=>(mC [] Z)) λa0=>?_;refine gC Z (kM Z)<|gC Z (eO Z) ?_;refine JR.guard (by exact rfl) (by exact rfl) (by exact rfl) (λy=>?_) (λy=>?_)
       ·have h:=Iv y h;refine bA Z Z Z Z<|bA Z Z Z Z<|bA Z Z Z Z<|bA Z Z Z Z<|bA Z Z Z Z<|bA Z Z Z Z<|bA Z Z Z Z<|bA Z Z Z Z<|bA Z Z Z Z<|bA Z Z Z Z<|bP 32 Z Z<|aM Z<|dR Z<|aO ?_;exact fT (true) () h SF Z
       have h:=FA y h;refine cS Z .nil .nil (cR Z Z Z Z Z) (EQ Z)<|cS Z (aZ.cons 0 Z .nil) .nil (dL 0 Z Z Z Z Z) (EQ Z)<|cS Z .nil .nil (eO Z) (EQ Z)<|cU h λi h=>a_ (dG (ED Z)) λam=>cS Z .nil .nil (dW Z Z am Z Z i) (EQ Z)<|cS Z .nil (fN 7 Z) (eI Z (cA Z) Z Z i) (EQ Z)<|cS Z .nil .nil (eO Z) (EQ Z)<|cU h λM h=>a_ (dG (cE (ED Z) i.1 i.2)) λan=>?_;refine cS Z .nil .nil (dW Z Z an Z Z M) (EQ Z) ?_;refine cS Z .nil (fN 7 Z) (eI Z (cE (cA Z) i.1 i.2) Z Z M) (EQ Z) ?_;refine cS Z .nil (fN 7 Z) (dU Z (cE (cE (cA Z) i.1 i.2) M.1 M.2) Z) (EQ Z) ?_;refine cS Z .nil .nil (eO Z) (EQ Z)<|bP 32 Z Z<|aT Z (tH Z Z) Z<|eV Z<|aO ?_;exact fT (decide (o<((at' (at' q.2.2 a) b).length:Int))) () h SF Z
      intro v af h;refine tC h Z (λ_ h=>?_) λ_ h=>?_
      ·refine aU<|aC Z<|aO<|aR<|aG<|bI<|aG<|aG<|bI<|bI<|aG<|aG<|bI<|aG ?_;cases h;exact nH Z
      refine cL<|aU<|aC Z<|aO<|aS<|fI (Aj U p t q a b (bJ R V)) (λw ag=>[(2,vI (o)),(4,vP F),(5,vP G),(7,vP H),(9,k),(10,vI (a)),(11,vI (b)),(12,vI (w))]) (λw ag=>[m,n,j]) (0:Int) () h SF (aZ.refl _) ?_;intro a1 w ag h;refine aL<|aU<|aA Z<|bU Z<|dQ 0 Z<|aA Z<|cU h λe h=>aB (bN Z Z (ED Z) Z Z e) Z<|aB (eI Z (ED Z) Z Z e) Z<|aA Z<|cU h λJ h=>aB (bN Z Z (cE (ED Z) e.1 e.2) Z Z J) Z ?_;refine aB (eI Z (cE (ED Z) e.1 e.2) Z Z J) Z ?_;refine aB (dU Z (cE (cE (ED Z) e.1 e.2) J.1 J.2) Z) Z ?_;refine cV Z<|aO ?_;refine eN h Z (λh=>?_) λh=>?_
      ·refine cL<|aL<|aS<|aL ?_;refine sW [0,0,0,0,8,0,56,120,0,504,1016,0,4088,8184,16383,32767] 14 mixedOrders ?_;refine jD 2 Z<|jD 1 Z<|aV Z<|cH Z<|fO 0 Z<|aV Z<|cU h λd h=>a_ (dG (ED Z)) λah=>gC Z (dW Z Z ah Z Z d)<|aY Z .nil (fN 7 Z) (eI Z (cA Z) Z Z d) aJ.z<|aV Z<|cU h λf h=>a_ (dG (cE (ED Z) d.1 d.2)) λai=>?_;refine gC Z (dW Z Z ai Z Z f) ?_;refine aY Z .nil (fN 7 Z) (eI Z (cE (cA Z) d.1 d.2) Z Z f) aJ.z ?_;refine aV Z<|cU h λK h=>a_ (dG (cE (cE (ED Z) d.1 d.2) f.1 f.2)) λaj=>?_;refine gC Z (dW Z Z aj Z Z K) ?_;refine aY Z .nil (fN 7 Z) (bT Z (cE (cE (cA Z) d.1 d.2) f.1 f.2) Z Z K) aJ.z ?_;refine bP 14 Z Z<|eT h λav az h=>aK (zBg Xa (Hx U S T X Y z4 ((at' ((at' ((at' ar a).2) b).2) w).1) av az) Z (aI.cons (cA Z) (aI.cons (mM Z) (aI.cons (yP Z) (aI.cons (Dh Z) (aI.cons (Ek Z) (aI.cons (zBh (cE (cE (ED Z) d.1 d.2) f.1 f.2) K.1 K.2) .nil))))))) Z λa2=>?_;refine aB (kM Z) Z<|aO ?_;refine tC h Z (λ_ h=>?_) λ_ h=>?_
       ·refine aU<|aC Z<|aO<|aR<|bI<|aG<|aG<|bI<|bI<|aG<|aG<|bI<|bI<|aG<|aG<|bI<|aG ?_;cases h;exact nH Z
       refine eM<|lL<|aQ<|aA Z<|cP Z<|aC Z<|aO ?_;exact xY (wI .i64 (w+(1:Int))) () h SF Z
      refine rP<|fX<|fX<|yQ<|lL ?_;exact fT () (()) h SF Z
     intro E ae h;unfold uZ at h;refine aQ<|aA Z<|cP Z<|aC Z<|aO ?_;exact xY (wI .i64 (b+(1:Int))) () h SF Z
    refine rP<|fX<|fX<|yQ<|lL ?_;exact fT () (()) h SF Z
   intro D ab h;unfold Ag at h;refine aQ<|aA Z<|cP Z<|aC Z<|aO ?_;exact xY (wI .i64 (a+(1:Int))) () h SF Z
  refine fG ?_;exact cI () (()) h SF .nil (aI.refl _ _)
 intro a8 b9 h;unfold Af at h;refine aU<|aC Z<|aO<|aR ?_;cases h;exact iZ Z
end Go.Proofs.YtflciafboapaaaaGreat
namespace Go.Proofs.YtflciafboapaaaaGreat
open Go Go.Sx
def Df (n:Nat) (b:Nat->Bool):Bool:=(List.range n).all b
theorem nZ {n:Nat} {b:Nat->Bool}:Df n b=true↔∀k,k<n->b k=true:=by simp[Df]
theorem Lm {n:Nat} {b:Nat->Bool} (h:¬Df n b=true):∃m,m<n/\b m=false/\∀j,j<m->b j=true:=by
 have g:∃k,k<n/\b k=false:=Classical.byContradiction λq=>h (nZ.2 λk a=>by
  cases e:b k
  ·exact absurd ⟨k,a,e⟩ q
  ·rfl)
 obtain⟨k,a,e⟩:=g;obtain⟨m,i,c,d⟩:=NG (p:=λk=>b k=false) k e;exact⟨m,by omega,c,λj f=>by
  cases e:b j
  ·exact absurd e (d j f)
  ·rfl⟩
theorem sI {B:Type} {n:Nat} {b:Nat->Bool} {a:Int->(Int->Option B)->Option B} {z:B} {K:Option B}
  (e:∀(k:Nat) c,k<n->a (k:Int) c=if b k=true then c ((k+1:Nat):Int)else some z) (l:∀c,a (n:Int) c=K) (o:n<1000):bJ a 1000 0=if Df n b=true then K else some z:=by
 by_cases h:Df n b=true
 ·rw[if_pos h];have f:=nZ.1 h;exact dJ n (λk=>(k:Int)) (λk c d=>by rw[e k c d,if_pos (f k d)]) l 1000 o
 ·rw[if_neg h];obtain⟨m,g,i,j⟩:=Lm h;exact dJ m (λk=>(k:Int)) (λk c d=>by rw[e k c (by omega),if_pos (j k d)]) (λc=>by rw[e m c g,if_neg (by rw[i];decide)]) 1000 (by omega)
theorem ifB (b:Bool):(if b=true then some true else some false)=some b:=by cases b<;>rfl
def Ff (g:GR) (a:List D_) (v:Nat) (l:bQ):Bool:=decide (l.length=a.length)&&Df a.length λx=>decide ((qF g a v x).1<=at' l (x:Int)/\at' l (x:Int)<=(qF g a v x).2)
def Ua (g:GR) (a:List D_) (c:bO):Bool:=decide (c.length=g.2.length)&&Df g.2.length λv=>Ff g a v (at' c (v:Int))
section
variable {g:GR} {vars:List D_} {p:Fz}
theorem YR (i:vars.length<=20) (v:Nat) (l:List Int):uI 1000 (G_ g vars v) l=some (Ff g vars v l):=by
 have c:(G_ g vars v).length=vars.length:=by simp[G_]
 unfold uI Ff;by_cases h:l.length=vars.length
 ·rw[if_neg (by rw[c,h];simp),zA5 h,zAw,<-ifB];refine sI (λk d f=> ?_) (λd=> ?_) (by omega)
  ·have e:at' (G_ g vars v) (k:Int)=qF g vars v k:=Eu _ f;unfold sP xQ;rw[if_pos (by omega),cF (by omega),cF (by omega),e];by_cases a:at' l (k:Int)<(qF g vars v k).1
   ·rw[if_pos a,if_pos Z,if_neg (by rw[zAa];omega)]
   ·rw[if_neg a,cF (by omega)];by_cases b:(qF g vars v k).2<at' l (k:Int)
    ·rw[zA5 b,if_pos Z,if_neg (by rw[zAa];omega)]
    ·rw[zA3 b,if_neg (by decide),if_pos (by rw[zAa];omega),dD (by omega)]
  ·unfold sP xP;rw[if_neg (by omega)]
 ·rw[if_pos (by rw[c];omega),zA3 h,Bool.false_and]
theorem YS (d:VG g) (b:jR g p.2.1) {v:Nat} (f:v<g.2.length) (l:List Int):qC 1000 p g (v:Int) l=some (Ff g p.2.1 v l):=by
 have i:=b.len;unfold qC Ff;by_cases h:l.length=p.2.1.length
 ·rw[if_neg (by rw[h];simp),zA5 h,zAw,<-ifB];refine sI (λk c e=> ?_) (λc=> ?_) (by omega)
  ·unfold Al;rw[if_pos (by omega),bG (show jK 1000 _ _ (v:Int) (k:Int)=_ from Qu d b e f),cF (by omega),bG (iJ 1000 _ _ _),dD (by omega)];by_cases a:(qF g p.2.1 v k).1<=at' l (k:Int)/\at' l (k:Int)<=(qF g p.2.1 v k).2
   ·rw[zA5 a,if_neg (by decide),if_pos Z]
   ·rw[zA3 a,if_pos (by decide),if_neg (by decide)]
  ·unfold Al Ak;rw[if_neg (by omega)]
 ·rw[if_pos (by omega),zA3 h,Bool.false_and]
theorem adi (a:VG g) (b:jR g p.2.1) (c:List (List Int)):uH 1000 p g c=some (if Ua g p.2.1 c=true then 0 else 10):=by
 have f:=a.n24;have d:(Dc g p.2.1).length=g.2.length:=by simp[Dc]
 unfold uH;rw[bG (show pZ 1000 _ _=some 0 from Uf a b),if_neg (by decide),bG (show kZ 1000 _ _=_ from Mm a b)];have:xO 1000 (Dc g p.2.1) c=some (Ua g p.2.1 c):=by
  unfold xO Ua;by_cases h:c.length=g.2.length
  ·rw[if_neg (by rw[d,h];simp),zA5 h,zAw,<-ifB];refine sI (λk e i=> ?_) (λe=> ?_) (by omega)
   ·have j:at' (Dc g p.2.1) (k:Int)=G_ g p.2.1 k:=Eu _ i;unfold vR;rw[if_pos (by omega),cF (by omega),cF (by omega),j,bG (YR b.len k _),dD (by omega)];cases Ff g p.2.1 k (at' c (k:Int))<;>rfl
   ·unfold vR vQ;rw[if_neg (by omega)]
  ·rw[if_pos (by rw[d];omega),zA3 h,Bool.false_and]
 rw[bG this];cases Ua g p.2.1 c<;>rfl
theorem aaK (d:VG g) (e:jR g p.2.1) (c:List (List Int)):mG 1000 p g c=some (if Ua g p.2.1 c=true then 0 else 10):=by
 have l:=d.n24;have o:=e.len;unfold mG Ua;rw[bG (show pR 1000 _ _=some 0 from XI d e),if_neg (by decide)];by_cases h:c.length=g.2.length
 ·rw[if_neg (by omega),zA5 h,zAw];rw[sI (n:=g.2.length) (b:=λv=>Ff g p.2.1 v (at' c (v:Int))) (z:=10) (K:=some 0) (λk j m=> ?_) (λj=> ?_) (by omega)]
  ·cases Df g.2.length λv=>Ff g p.2.1 v (at' c (v:Int))<;>rfl
  ·unfold lB Ff;rw[if_pos (by omega),cF (by omega)];by_cases f:(at' c (k:Int)).length=p.2.1.length
   ·rw[if_neg (by omega),zA5 f,zAw];refine sI (λx a q=> ?_) (λa=> ?_) (by omega)
    ·unfold oJ;rw[cF (by omega),if_pos (by omega),bG (show jK 1000 _ _ (k:Int) (x:Int)=_ from Qu d e q m),cF (by omega),cF (by omega),bG (iJ 1000 _ _ _),dD (by omega)];by_cases i:(qF g p.2.1 k x).1<=at' (at' c (k:Int)) (x:Int)/\at' (at' c (k:Int)) (x:Int)<=(qF g p.2.1 k x).2
     ·rw[zA5 i,if_neg (by decide),if_pos Z]
     ·rw[zA3 i,if_pos (by decide),if_neg (by decide)]
    ·unfold oJ uU;rw[cF (by omega),if_neg (by omega),dD (by omega)]
   ·rw[if_pos (by omega),zA3 f,Bool.false_and,if_neg (by decide)]
  ·unfold lB uT;rw[if_neg (by omega)]
 ·rw[if_pos (by omega),zA3 h,Bool.false_and,if_neg (by decide)]
theorem Ye (a:VG g) (b:jR g p.2.1) (c:List (List Int)):uJ 1000 p g c=some (Ua g p.2.1 c):=by
 unfold uJ;rw[bG (show uH 1000 _ _ _=_ from adi a b c)];cases Ua g p.2.1 c<;>rfl
theorem Tj (a:VG g) (b:jR g p.2.1) (c:List (List Int)):wO 1000 p g c=some (Ua g p.2.1 c):=by
 unfold wO;rw[bG (show mG 1000 _ _ _=_ from aaK a b c)];cases Ua g p.2.1 c<;>rfl
end
def wiB (g:GR) (a:List D_) (b:Int) (y:Cr) (v i:Nat):Bool:=Ff g a (Az g v i) (rI y.2.1 v i)&&(decide (((rI y.2.2 v i).length:Int)<=b)&&Df (rI y.2.2 v i).length λk=>Ff g a v (at' (rI y.2.2 v i) (k:Int)))
def rvB (g:GR) (a:List D_) (b:Int) (y:Cr) (v:Nat):Bool:=decide ((at' y.2.1 (v:Int)).length=(row g v).length)&&(decide ((at' y.2.2 (v:Int)).length=(row g v).length)&&Df (row g v).length (wiB g a b y v))
def US (g:GR) (a:List D_) (b:Int) (y:Cr):Bool:=Ua g a y.1&&(decide (1<=b/\b<=8)&&(decide (y.2.1.length=g.2.length)&&(decide (y.2.2.length=g.2.length)&&Df g.2.length (rvB g a b y))))
section
variable {g:GR} {p:Fz}
theorem Zs (d:VG g) (n:jR g p.2.1) (a:Int) (y:Cr):wR 1000 p g a y=some (US g p.2.1 a y):=by
 have F:=d.n24;have J:(Dc g p.2.1).length=g.2.length:=by simp[Dc]
 have f:∀(v:Nat) (l:List Int),v<g.2.length->pE 1000 (v:Int) l (Dc g p.2.1)=some (Ff g p.2.1 v l):=λv l e=>by
  have G:at' (Dc g p.2.1) (v:Int)=G_ g p.2.1 v:=Eu _ e;unfold pE;rw[cF (by omega),G,bG (YR n.len v l)]
 unfold wR US;rw[bG (show uJ 1000 _ _ _=_ from Ye d n y.1)];cases H:Ua g p.2.1 y.1
 ·rfl
 rw[if_neg (by decide),zAw];by_cases s:a<1
 ·rw[if_pos s,zA3 (p:=1<=a/\a<=8) (by omega)];rfl
 rw[if_neg s];by_cases t:8<a
 ·rw[zA5 t,zA3 (p:=1<=a/\a<=8) (by omega)];rfl
 rw[zA3 t,zA5 (p:=1<=a/\a<=8) (by omega),zAw];unfold vC;rw[if_neg (by decide)];by_cases u:y.2.1.length=g.2.length
 rotate_left
 ·rw[if_pos (by omega),zA3 u];rfl
 rw[if_neg (by omega),zA5 u,zAw];by_cases w:y.2.2.length=g.2.length
 rotate_left
 ·rw[zA3 w,show decide ((y.2.2.length:Int)≠(g.2.length:Int))=true from zA5 (by omega)];rfl
 rw[zA5 w,zAw,show decide ((y.2.2.length:Int)≠(g.2.length:Int))=false from zA3 (by omega)];unfold As;rw[if_neg (by decide),bG (show kZ 1000 _ _=_ from Mm d n),<-ifB];refine sI (λv D e=> ?_) (λD=> ?_) (by omega)
 rotate_left
 ·unfold gH Au;rw[if_neg (by omega)]
 have B:=(d.node v e).deg;have b:at' g.2 (v:Int)=row g v:=rfl;unfold gH rvB;rw[if_pos (by omega),cF (by omega),cF (by omega),b];by_cases x:(at' y.2.1 (v:Int)).length=(row g v).length
 rotate_left
 ·rw[if_pos (by omega),zA3 x,Bool.false_and,if_neg (by decide)];rfl
 rw[if_neg (by omega),cF (by omega),zA5 x,zAw];by_cases z:(at' y.2.2 (v:Int)).length=(row g v).length
 rotate_left
 ·rw[zA3 z,Bool.false_and,if_neg (by decide),show decide (((at' y.2.2 (v:Int)).length:Int)≠((row g v).length:Int))=true from zA5 (by omega)];rfl
 rw[zA5 z,zAw,show decide (((at' y.2.2 (v:Int)).length:Int)≠((row g v).length:Int))=false from zA3 (by omega)];unfold Aw;rw[if_neg (by decide)];refine sI (λi c C=> ?_) (λc=> ?_) (by omega)
 rotate_left
 ·unfold jG Av;rw[b,if_neg (by omega),dD (by omega)]
 have o:=Bi d e C;have q:=(Er d e C).ul;have m:at' (row g v) (i:Int)=jP (row g v) i:=rfl;unfold jG wiB;rw[b,if_pos (by omega),cF (by omega),cF (by omega),cF (by omega),cF (by omega),cF (by omega),m,o,bG (f _ _ q)];have E:at' (at' y.2.1 (v:Int)) (i:Int)=rI y.2.1 v i:=rfl;have j:at' (at' y.2.2 (v:Int)) (i:Int)=rI y.2.2 v i:=rfl;rw[E,j];cases Ff g p.2.1 (Az g v i) (rI y.2.1 v i)
 ·rfl
 rw[if_neg (by decide),zAw];unfold Ax;by_cases A:((rI y.2.2 v i).length:Int)<=a
 rotate_left
 ·rw[zA3 A,Bool.false_and,if_pos (by rw[zAa];omega),if_neg (by decide)]
 rw[zA5 A,zAw,if_neg (by rw[zAa];omega)];have r:bJ (rE 1000 y (Dc g p.2.1) (v:Int) (i:Int) c) 1000 0=if Df (rI y.2.2 v i).length (λk=>Ff g p.2.1 v (at' (rI y.2.2 v i) (k:Int)))=true then vD (i:Int) c ()else some false:=by
  refine sI (λk h I=> ?_) (λh=> ?_) (by omega)
  ·unfold rE;rw[j,if_pos (by omega),cF (by omega),bG (show pE 1000 _ _ _=_ from f v _ e)];unfold Cj;cases Ff g p.2.1 v (at' (rI y.2.2 v i) (k:Int))
   ·rw[if_pos (by decide),if_neg (by decide)];unfold rD Ay;rw[if_pos (by rw[zAa];omega)]
   ·rw[if_neg (by decide),if_pos (by decide),dD (by omega)]
  ·unfold rE;rw[j,if_neg (by omega)]
 refine r.trans ?_;unfold vD rD Ay;rw[if_neg (show¬decide ((0:Int) <= -1)=true by decide),dD (by omega)]
theorem Zr (d:VG g) (m:jR g p.2.1) (a:Int) (y:Cr):wP 1000 p g a y=some (US g p.2.1 a y):=by
 have C:=d.n24;unfold wP US;rw[bG (show wO 1000 _ _ _=_ from Tj d m y.1)];cases D:Ua g p.2.1 y.1
 ·rfl
 rw[if_neg (by decide),zAw,bG (iJ 1000 _ _ _)];by_cases q:1<=a/\a<=8
 rotate_left
 ·rw[zA3 q];rfl
 rw[zA5 q,if_neg (by decide),zAw];by_cases r:y.2.1.length=g.2.length
 rotate_left
 ·rw[if_pos (by omega),zA3 r];rfl
 rw[if_neg (by omega),zA5 r,zAw];by_cases s:y.2.2.length=g.2.length
 rotate_left
 ·rw[zA3 s,show decide ((y.2.2.length:Int)≠(g.2.length:Int))=true from zA5 (by omega)];rfl
 rw[zA5 s,zAw,show decide ((y.2.2.length:Int)≠(g.2.length:Int))=false from zA3 (by omega)];unfold rB;rw[if_neg (by decide),<-ifB];refine sI (λv A f=> ?_) (λA=> ?_) (by omega)
 rotate_left
 ·unfold j_ Af;rw[if_neg (by omega)]
 have x:=(d.node v f).deg;have c:at' g.2 (v:Int)=row g v:=rfl;unfold j_ rvB;rw[if_pos (by omega),cF (by omega),cF (by omega),c];by_cases t:(at' y.2.1 (v:Int)).length=(row g v).length
 rotate_left
 ·rw[if_pos (by omega),zA3 t,Bool.false_and,if_neg (by decide)];rfl
 rw[if_neg (by omega),cF (by omega),cF (by omega),zA5 t,zAw];by_cases u:(at' y.2.2 (v:Int)).length=(row g v).length
 rotate_left
 ·rw[zA3 u,Bool.false_and,if_neg (by decide),show decide (((at' y.2.2 (v:Int)).length:Int)≠((row g v).length:Int))=true from zA5 (by omega)];rfl
 rw[zA5 u,zAw,show decide (((at' y.2.2 (v:Int)).length:Int)≠((row g v).length:Int))=false from zA3 (by omega)];unfold Ah;rw[if_neg (by decide)];refine sI (λi e z=> ?_) (λe=> ?_) (by omega)
 rotate_left
 ·unfold oL Ag;rw[cF (by omega),c,if_neg (by omega),dD (by omega)]
 have n:=Bi d f z;have o:=(Er d f z).ul;have l:at' (row g v) (i:Int)=jP (row g v) i:=rfl;have B:at' (at' y.2.1 (v:Int)) (i:Int)=rI y.2.1 v i:=rfl;have j:at' (at' y.2.2 (v:Int)) (i:Int)=rI y.2.2 v i:=rfl;unfold oL wiB;rw[cF (by omega),c,if_pos (by omega),cF (by omega),cF (by omega),cF (by omega),cF (by omega),l,n,B,j,bG (show qC 1000 _ _ _ _=_ from YS d m o _)];cases Ff g p.2.1 (Az g v i) (rI y.2.1 v i)
 ·rfl
 rw[if_neg (by decide),zAw,cF (by omega),cF (by omega)];unfold Ai;by_cases w:((rI y.2.2 v i).length:Int)<=a
 rotate_left
 ·rw[zA3 w,Bool.false_and,if_pos (by rw[zAa];omega),if_neg (by decide)]
 rw[zA5 w,zAw,if_neg (by rw[zAa];omega)];refine Eq.trans (b:=if Df (rI y.2.2 v i).length (λk=>Ff g p.2.1 v (at' (rI y.2.2 v i) (k:Int)))=true then uZ (i:Int) e ()else some false) (sI (λk h E=> ?_) (λh=> ?_) (by omega)) ?_
 ·unfold Aj;rw[cF (by omega),cF (by omega),j,if_pos (by omega),cF (by omega),cF (by omega),cF (by omega),bG (show qC 1000 _ _ _ _=_ from YS d m f _),dD (by omega)];cases Ff g p.2.1 v (at' (rI y.2.2 v i) (k:Int))<;>rfl
 ·unfold Aj;rw[cF (by omega),cF (by omega),j,if_neg (by omega)]
 ·unfold uZ;rw[dD (by omega)]
end
end Go.Proofs.YtflciafboapaaaaGreat
namespace Go.Proofs.YtflciafboapaaaaGreat
open Go.Sx
def yB (a:hJ×Int×bO) (b:kJ):Option EB:=
 some (a.1,a.2.1,b.1,a.2.2,b.2.1,b.2.2)
def sD (b:hJ×Int×bO) (c:bO) (a:List bO×List (List bO)):Option EB:=
 yB b (c,a.1,a.2)
def yC (a:NW) (c:NV->Option EB) (d:bO) (b:rM):Option EB:=
 ck ((a.2.2.length:Int)+(List.length ([b]):Int)<=1099511627) (c ((wI .i64 (a.1+(1:Int))),(a.2.1++[d]),(a.2.2++[b])))
def oO (U:Nat) (f:kJ) (b:NW) (e:NV->Option EB) (g:bO) (a:List bO×Int) (d:(List bO×Int)->Option EB):Option EB:=
 if a.2<((at' f.2.2 b.1).length:Int)then(ck (0<=a.2/\a.2<((at' f.2.2 b.1).length:Int)) (Option.bind (qB U (at' (at' f.2.2 b.1) a.2)) λc=>(ck ((a.1.length:Int)+(List.length ([c]):Int)<=1099511627) (d ((a.1++[c]),(wI .i64 (a.2+(1:Int))))))))else(yC b e g (a.1))
def kI (U:Nat) (c:kJ) (e:hJ×Int×bO) (f:bO) (a:NW) (b:NV->Option EB):Option EB:=
 if a.1<(c.2.1.length:Int)then(ck (0<=a.1/\a.1<(c.2.1.length:Int)) (Option.bind (qB U (at' c.2.1 a.1)) λd=>(ck ((a.2.1.length:Int)+(List.length ([d]):Int)<=1099511627) (ck (0<=a.1/\a.1<(c.2.2.length:Int)) (bJ (oO U c a b d) U (([]:rM),(0:Int)))))))else(sD e f (a.2.1,a.2.2))
def sC (U:Nat) (c:kJ) (a:hJ×Int×bO):Option EB:=
 Option.bind (qB U c.1) λb=>(bJ (kI U c a b) U ((0:Int),([]:rM),([]:Cq)))
def sE (U:Nat) (c:iF) (d:cO) (e:kJ) (a:Int×bO):Option EB:=
 Option.bind (kZ U ((c.1,c.2.1,c.2.2)) ((d.1,d.2))) λb=>(sC U e (b,a.1,a.2))
def oM (U:Nat) (b:iF) (c:cO) (d:kJ) (a:Int×bO):Option EB:=
 sE U b c d (a.1,a.2)
def yD (d:cO) (a:Int×Int×bO) (b:(Int×Int×bO)->Option EB) (c:bO):Option EB:=
 b ((wI .i64 (a.1+(1:Int))),(max a.2.1 (at' d.1 a.1)),c)
def yE (U:Nat) (f:cO) (a:Int×Int×bO) (d:(Int×Int×bO)->Option EB) (b:Int×bO) (e:(Int×bO)->Option EB):Option EB:=
 if b.1<((at' f.2 a.1).length:Int)then(ck (0<=b.1/\b.1<((at' f.2 a.1).length:Int)) (ck (0<=a.1/\a.1<(b.2.length:Int)) (Option.bind (mO U ((f.1,f.2)) ((at' (at' f.2 a.1) b.1).1) a.1) λc=>(ck (((at' b.2 a.1).length:Int)+(List.length ([c]):Int)<=1099511627) (ck (0<=a.1/\a.1<((List.set b.2 (Int.toNat a.1) ((at' b.2 a.1)++[c])).length:Int)) (e ((wI .i64 (b.1+(1:Int))),(List.set b.2 (Int.toNat a.1) ((at' b.2 a.1)++[c])))))))))else(yD f a d (b.2))
def oP (U:Nat) (d:iF) (c:cO) (e:kJ) (a:Int×Int×bO) (b:(Int×Int×bO)->Option EB):Option EB:=
 if a.1<(c.2.length:Int)then(ck (0<=a.1/\a.1<(c.2.length:Int)) (ck (0<=a.1/\a.1<(c.1.length:Int)) (bJ (yE U c a b) U ((0:Int),a.2.2))))else(oM U d c e (a.2.1,a.2.2))
def pS (U:Nat) (b:iF) (a:cO) (d:Int) (c:kJ):Option EB:=
 ck (0<=(a.2.length:Int)/\(a.2.length:Int)<=1099511627) (bJ (oP U b a c) U ((0:Int),(0:Int),(List.replicate (Int.toNat (a.2.length:Int)) ([]:bQ))))
theorem acV:bB Tryz.prog 56:=Tryz.call56
theorem IU (U:Nat) {p0:iF} {p1:cO} {p2:Int} {E:kJ} (m n s p:V0) (z4:lE) (L:V0) (z6:kD) (P:V0) (z8:IX) (Q:V0) (W:IW) (r:Mo) (h:pS U p0 p1 p2 E=some r):
  bD Tryz.prog 56 #[Value.agg #[vS (p0.1),m,n],Value.agg #[s,p],vI (p2),Value.agg #[L,P,Q]] [Sl aH m p0.2.1,Sl aE n p0.2.2,PF (Value.agg #[vS p0.1,m,n]),Sl aN s p1.1,S2 aX p z4 p1.2,S2 aN L z6 E.1,S3 aN P z8 E.2.1,S4 aN Q W E.2.2] (λg:Nat×Nat×V0×V0×V0×List V0×Nat×V0×List V0×V0×List V0×List V0×List (List V0)×List V0×List (List V0)×List (List (List V0))=>vP g.1) (λg l=>bL g.1 [s,p,vI (p2),vP g.2.1,g.2.2.1,g.2.2.2.1,g.2.2.2.2.1] 108::Ar bM.raw g.2.2.1 g.2.2.2.2.2.1::bL g.2.1 [vS (p0.1),m,n,vP g.2.2.2.2.2.2.1,g.2.2.2.2.2.2.2.1] 157::Ar bM.raw g.2.2.2.2.2.2.2.1 g.2.2.2.2.2.2.2.2.1::gN b_ g.2.2.2.2.2.2.2.2.1 r.1::bL g.2.2.2.2.2.2.1 [vS (p0.1),m,n,s,p,vI (r.2.1),g.2.2.2.2.2.2.2.2.2.1] 206::Ar bM.raw g.2.2.2.2.2.2.2.2.2.1 g.2.2.2.2.2.2.2.2.2.2.1::Ar bM.raw g.2.2.2.1 g.2.2.2.2.2.2.2.2.2.2.2.1::gN bM.raw g.2.2.2.2.2.2.2.2.2.2.2.1 g.2.2.2.2.2.2.2.2.2.2.2.2.1::Ar bM.raw g.2.2.2.2.1 g.2.2.2.2.2.2.2.2.2.2.2.2.2.1::wK bM.raw g.2.2.2.2.2.2.2.2.2.2.2.2.2.1 g.2.2.2.2.2.2.2.2.2.2.2.2.2.2.1 g.2.2.2.2.2.2.2.2.2.2.2.2.2.2.2::l) (λg l=>tA aN g.2.2.2.2.2.1 r.2.2.1::tA aN g.2.2.2.2.2.2.2.2.2.2.1 r.2.2.2.1::AD aN g.2.2.2.2.2.2.2.2.2.2.2.2.1 r.2.2.2.2.1::De aN g.2.2.2.2.2.2.2.2.2.2.2.2.2.2.2 r.2.2.2.2.2::l):=by
 refine bD.of Tryz.func56 Z Tryz.ntmps56 Z λc=>?_;refine aU<|aK (aP.box (cs:=[vS (p0.1),m,n]) Z Z) Z λS=>aK (aP.box (cs:=[s,p]) Z Z) Z λT=>aK (aP.box (cs:=[L,P,Q]) Z Z) Z λV=>aC Z<|aO<|aL ?_;refine sW [0,0,0,0,12,0,60,127,255,511] 7 mixedOrders ?_;refine jD 1 Z<|aV Z<|jD 2 Z<|jD 1 Z<|KE (A:=hJ×Int×bO) (B:=Nat×Nat×V0×List V0×V0×List V0) (vs:=[Value.agg #[vS (p0.1),m,n],Value.agg #[s,p]]) (λo=>sC U E o=some r) (λo a=>vP a.1) (λo a=>[bL a.1 [vS (p0.1),m,n,vP a.2.1,a.2.2.1] 157,Ar bM.raw a.2.2.1 a.2.2.2.1,gN b_ a.2.2.2.1 o.1,bL a.2.1 [vS (p0.1),m,n,s,p,vI (o.2.1),a.2.2.2.2.1] 206,Ar bM.raw a.2.2.2.2.1 a.2.2.2.2.2,gN fW a.2.2.2.2.2 o.2.2,bL V [L,P,Q] 43,bL T [s,p] 31,bL S [vS (p0.1),m,n] 36]) (λo a=>[Sl aH m p0.2.1,Sl aE n p0.2.2,PF (Value.agg #[vS p0.1,m,n]),Sl aN s p1.1,S2 aX p z4 p1.2,S2 aN L z6 E.1,S3 aN P z8 E.2.1,S4 aN Q W E.2.2]) Z Z Z (wL.fn (show bB Tryz.prog 78 from Tryz.call78) Z) Tryz.func78 Z Tryz.ntmps78 Z Z (λ_ _=>(mC [([7],[])] Z)) ?_ ?_
 ·refine aU<|aK (aP.box (cs:=[vS (p0.1),m,n]) Z Z) Z λaf=>aK (aP.box (cs:=[s,p]) Z Z) Z λag=>aC Z<|aO<|aL ?_;refine sW [0,0,0,6,0,0,62,127,255,511] 7 mixedOrders ?_;refine jD 1 Z<|jD 1 Z<|jD 0 Z<|KE (A:=Int×bO) (B:=Nat×V0×List V0) (vs:=[Value.agg #[vS (p0.1),m,n],Value.agg #[s,p]]) (λI=>sE U p0 p1 E I=some r) (λI y=>vP y.1) (λI y=>[bL y.1 [vS (p0.1),m,n,s,p,vI (I.1),y.2.1] 206,Ar bM.raw y.2.1 y.2.2,gN fW y.2.2 I.2,bL ag [s,p] 31,bL af [vS (p0.1),m,n] 36,bL V [L,P,Q] 43,bL T [s,p] 31,bL S [vS (p0.1),m,n] 36]) (λI y=>[Sl aH m p0.2.1,Sl aE n p0.2.2,PF (Value.agg #[vS p0.1,m,n]),Sl aN s p1.1,S2 aX p z4 p1.2,S2 aN L z6 E.1,S3 aN P z8 E.2.1,S4 aN Q W E.2.2]) Z Z Z (wL.fn (show bB Tryz.prog 120 from Tryz.call120) Z) Tryz.func120 Z Tryz.ntmps120 Z Z (λ_ _=>(mC [([4],[])] Z)) ?_ ?_
  ·refine aU<|aK (aP.box (cs:=[vS (p0.1),m,n]) Z Z) Z λb1=>aK (aP.box (cs:=[s,p]) Z Z) Z λaa=>aC Z<|aO<|aL ?_;refine sW [0,0,0,4,12,28,63,127,255] 6 mixedOrders ?_;refine jD 1 Z<|jD 0 Z<|cH Z<|fO 0 Z<|aY Z .nil (fN 4 Z) (dU Z (cA Z) Z) aJ.z<|cU h λbw h=>zBj (BN fW (Int.toNat (p1.2.length:Int)))<|zBi Z Z Z (A_ (e:=bM.raw) (cT) Z Z Z Z bw Z Z Z) Z (λG=>(mC [([2],[]),([3],[])] Z)) λG=>bP 6 Z Z<|bF (vM (fP (i:=0) (j:=1) Z Z jA)) λbm=>?_;refine aB (Jh (r:=Value.agg #[vS (p0.1),m,n,s,p,vI (0:Int),G]) Z Z Z (by intro w;simp[Instr.build,Instr.fill,eZ,eF,dO,e_,fC,eG,fR,iY bm])) Z ?_;refine aK (aP.box (cs:=[vS (p0.1),m,n,s,p,vI (0:Int),G]) Z Z) Z λJ=>aC Z<|aO<|aL<|EV (B:=fY) (λM=>oM U p0 p1 E M=some r) (λM ah=>[(5,vP J)]) (λM ah=>[bL J [vS (p0.1),m,n,s,p,vI (M.1),G] 206,Ar bM.raw G ah,gN fW ah M.2,bL ag [s,p] 31,bL af [vS (p0.1),m,n] 36,bL V [L,P,Q] 43,bL T [s,p] 31,bL S [vS (p0.1),m,n] 36]) ?_ ?_
   ·refine aU<|bU Z<|dQ 3 Z<|aB (dU Z (Ek Z) Z) Z<|aA Z<|aO<|aS<|fI (B:=fY) (oP U p0 p1 E) (λd ab=>[(3,vP aa),(5,vP J),(19,p),(20,vI (p1.2.length:Int)),(21,vI (d.1))]) (λd ab=>[bL J [vS (p0.1),m,n,s,p,vI (d.2.1),G] 206,Ar bM.raw G ab,gN fW ab d.2.2,bL aa [s,p] 31,bL ag [s,p] 31,bL af [vS (p0.1),m,n] 36,bL V [L,P,Q] 43,bL T [s,p] 31,bL S [vS (p0.1),m,n] 36]) ((0:Int),(0:Int),(List.replicate (Int.toNat (p1.2.length:Int)) ([]:bQ))) (List.replicate (Int.toNat (p1.2.length:Int)) (cT)) h SF (aZ.ix [0,1,2,3,5,6,7,8,9] Z Z) ?_;intro bc d ab h;refine aU<|cV Z<|aO<|aL ?_;refine eN h Z (λh=>?_) λh=>?_
    ·refine cL<|aL<|EV (B:=fY) (λY=>yD p1 d (bJ (oP U p0 p1 E) bc) Y=some r) (λY ai=>[(3,vP aa),(5,vP J),(19,p),(20,vI (p1.2.length:Int)),(21,vI (d.1))]) (λY ai=>[bL J [vS (p0.1),m,n,s,p,vI (max d.2.1 (at' p1.1 d.1)),G] 206,Ar bM.raw G ai,gN fW ai Y,bL aa [s,p] 31,bL ag [s,p] 31,bL af [vS (p0.1),m,n] 36,bL V [L,P,Q] 43,bL T [s,p] 31,bL S [vS (p0.1),m,n] 36]) ?_ ?_
     ·refine aS<|aU<|aA Z<|cU h λN h=>aB (bN Z Z (Ek Z) Z Z N) Z<|aB (bT Z (Ek Z) Z Z N) Z<|aC Z<|aC Z<|aO<|aL ?_;refine sW [0,0,2,6,14,0,32,0,224,480,1022,2047,4095,8191] 11 mixedOrders ?_;refine aV Z<|aV Z<|gC Z (bX Z)<|cH Z<|fO 0 Z<|cH Z<|fO 3 Z<|aV Z<|cU h λba h=>aY Z .nil (fN 3 Z) (bE Z Z (cA Z) Z Z ba) aJ.z<|aY Z .nil (fN 3 Z) (cK Z (cA Z) Z Z Z eY ba) aJ.z<|gC Z (Hj Z Z)<|bP 11 Z Z<|aB (bX Z) Z<|bU Z<|pJ 0 Z Z Z Z Z Z<|aO<|aU<|aA Z<|aB (fE Z (zBh (Ek Z) N.1 N.2) Z) Z<|aA Z<|aO<|aS<|fI (B:=fY) (yE U p1 d (bJ (oP U p0 p1 E) bc)) (λF ac=>[(3,vP aa),(5,vP J),(6,vI (d.1)),(19,p),(20,vI (p1.2.length:Int)),(21,vI (d.1)),(39,(at' z4 d.1).1),(40,vI ((at' p1.2 d.1).length:Int)),(41,vI (F.1))]) (λF ac=>[bL J [vS (p0.1),m,n,s,p,vI (max d.2.1 (at' p1.1 d.1)),G] 206,Ar bM.raw G ac,gN fW ac F.2,bL aa [s,p] 31,bL ag [s,p] 31,bL af [vS (p0.1),m,n] 36,bL V [L,P,Q] 43,bL T [s,p] 31,bL S [vS (p0.1),m,n] 36]) ((0:Int),d.2.2) (ab) h SF (aZ.refl _) ?_;intro b4 F ac h;refine aU<|cV Z<|aO<|aL ?_;refine eN h Z (λh=>?_) λh=>?_
      ·refine cL<|aL<|aS<|aU<|cU h λbb h=>aB (bE Z Z (zBh (Ek Z) N.1 N.2) Z Z bb) Z<|aB (gU (cs:=[vI ((at' (at' p1.2 d.1) F.1).1),vI ((at' (at' p1.2 d.1) F.1).2)]) Z (zBh (Ek Z) N.1 N.2) cW Z Z Z Z bb) Z<|aK (aP.alloc (cs:=Wi) Z Z) Z λb2=>cG 0 (vs:=[vI ((at' (at' p1.2 d.1) F.1).1),vI ((at' (at' p1.2 d.1) F.1).2)]) Z Z Z Z Z Z<|aO ?_;refine sW [0,1,3,7,0,0,32,96,224,0,992,2016,0,0,8192,0,61440,126976,262112,524287,1048575] 19 mixedOrders ?_;refine aV Z<|gC Z (bX Z)<|cH Z<|fO 1 Z<|aV Z<|aV Z<|gC Z (bX Z)<|cH Z<|fO 1 Z<|aV Z<|cU h λaq h=>a_ (dX 3 Z) λbg=>?_;refine aY Z (aZ.cons 2 Z .nil) .nil (tZ 0 Z Z Z Z Z aq.1 (by have q1:=aq.2;have q2:=bg;(try simp only[zA1]at q1);(try simp only[zA1]at q2);(try simp only[zA1]);omega)) aJ.z ?_;refine a_ (dX 3 Z) λbh=>aY Z (aZ.cons 2 Z .nil) .nil (gW 0 Z Z bh Z Z aq) aJ.z<|jD 4 Z<|cH Z<|fO 0 Z<|aV Z<|eT h λam bK h=>zBi Z Z Z (zBg TO (Gj U s p z4 am bK) Z (iN [3,4] Z)) Z (λbR=>(mC [([2],[]),([2],[]),([1],[]),([1],[])] Z)) λbR=>zBi Z Z Z (cM (e:=fW) ([am]) [(0,vI (am))] Z Z Z Z (jO (vI (am)) Z) Z Z Z) Z (λbG=>(mC [([3],[]),([3],[]),([2],[]),([2],[])] Z)) λbG=>cU h λbx h=>zBi Z Z Z (sG 4 jA Z Z Z (cB (aF.res 0 Z) jA) Z Z Z Z aq bx Z) Z (λbf=>(mC [([2],[])] Z)) λbf=>bP 19 Z Z<|cU h λO h=>bF (dX 4 Z) λbi=>?_;refine aB (tZ 3 Z Z Z Z Z O.1 (by have q1:=O.2;have q2:=bi;(try simp only[zA1]at q1);(try simp only[zA1]at q2);(try simp only[zA1]);omega)) Z ?_;refine bF (JO 4 (k:=d.1) Z ⟨O.1,by first|exact O.2|simpa using O.2⟩) λbn=>?_;refine AX 3 4 ⟨O.1,by first|exact O.2|simpa using O.2⟩ Z Z Z Z Z (by simp) bn Z ?_;refine fJ<|lL<|aQ<|cP Z<|aA Z<|aO ?_;exact iG ((wI .i64 (F.1+(1:Int))),(List.set F.2 (Int.toNat d.1) ((at' F.2 d.1)++[am]))) (List.set ac (Int.toNat d.1) bf) h SF (aZ.ix [2,3,4,5,6,7,8,9,10] Z Z) (aI.refl _ _)
      refine rP<|fX<|fX<|yQ<|lL ?_;exact fT (F.2) (ac) h SF Z
     intro Y ai h;unfold yD at h;refine aQ<|cP Z<|aA Z<|aO ?_;exact xY ((wI .i64 (d.1+(1:Int))),(max d.2.1 (at' p1.1 d.1)),Y) (ai) h SF Z
    refine fG ?_;exact cI (d.2.1,d.2.2) (ab) h SF (aZ.ix [0,1,2,4,5,6,7,8] Z Z) (aI.refl _ _)
   intro M ah h;unfold oM at h;refine aU<|aA Z<|aC Z<|aO<|aR ?_;exact mW (M.1,M.2) (J,G,ah) h (.inl Z) (Hi.r1 Z (RV.tmp Z)) Z (aZ.refl _) (aI.refl _ _)
  intro I y h;unfold sE at h;refine aY Z (aZ.cons 4 Z .nil) .nil (gV 0 Z Z Z Z) (aJ.h (aZ.ix [1] Z Z) .nil aJ.z)<|aY Z (aZ.cons 3 Z .nil) .nil (gV 0 Z Z Z Z) (aJ.h (aZ.ix [0] Z Z) .nil aJ.z)<|eT h λbe bI h=>zBi Z Z Z (zBg Ss (C_ U m n s p z4 be bI) Z (iN [0,1,2,3,4] Z)) Z (λap=>(mC [([6],[])] Z)) λap=>bP 7 Z Z<|bF (vM (fP (i:=0) (j:=1) Z Z cW)) λbl=>?_;refine aB (Jh (r:=Value.agg #[vS (p0.1),m,n,Value.pointer (some ⟨y.1,0,none⟩),ap.1]) Z Z Z (by intro w;simp[Instr.build,Instr.fill,eZ,eF,dO,e_,fC,eG,fR,iY bl])) Z ?_;refine aK (aP.box (cs:=[vS (p0.1),m,n,vP y.1,ap.1]) Z Z) Z λbo=>aC Z<|aO<|aR ?_;exact mW (be,I.1,I.2) (bo,y.1,ap.1,ap.2,y.2.1,y.2.2) h (.inl Z) (Hi.r1 Z (RV.tmp Z)) Z (aZ.ix [0,1,2,3,4,5,8,9,10] Z Z) (aI.refl _ _)
 intro o a h;unfold sC at h;refine aY Z (aZ.cons 6 Z .nil) .nil (gV 0 Z Z Z Z) (aJ.h (aZ.ix [0] Z Z) .nil aJ.z)<|KE (A:=kJ) (B:=ack) (vs:=[Value.agg #[L,P,Q]]) (λae=>yB o ae=some r) (λae f=>Value.agg #[f.1,f.2.1,f.2.2.1]) (λae f=>[Ar bM.raw f.1 f.2.2.2.1,bL a.1 [vS (p0.1),m,n,vP a.2.1,a.2.2.1] 157,Ar bM.raw a.2.2.1 a.2.2.2.1,gN b_ a.2.2.2.1 o.1,bL a.2.1 [vS (p0.1),m,n,s,p,vI (o.2.1),a.2.2.2.2.1] 206,Ar bM.raw a.2.2.2.2.1 a.2.2.2.2.2,bL V [L,P,Q] 43,bL T [s,p] 31,bL S [vS (p0.1),m,n] 36,Ar bM.raw f.2.1 f.2.2.2.2.1,gN bM.raw f.2.2.2.2.1 f.2.2.2.2.2.1,Ar bM.raw f.2.2.1 f.2.2.2.2.2.2.1,wK bM.raw f.2.2.2.2.2.2.1 f.2.2.2.2.2.2.2.1 f.2.2.2.2.2.2.2.2]) (λae f=>[tA aN f.2.2.2.1 ae.1,tA aN a.2.2.2.2.2 o.2.2,Sl aH m p0.2.1,Sl aE n p0.2.2,PF (Value.agg #[vS p0.1,m,n]),Sl aN s p1.1,S2 aX p z4 p1.2,S2 aN L z6 E.1,S3 aN P z8 E.2.1,S4 aN Q W E.2.2,AD aN f.2.2.2.2.2.1 ae.2.1,De aN f.2.2.2.2.2.2.2.2 ae.2.2]) Z Z Z (wL.fn (show bB Tryz.prog 101 from Tryz.call101) Z) Tryz.func101 Z Tryz.ntmps101 Z Z (λ_ _=>(mC [([7],[])] Z)) ?_ ?_
 ·refine aU<|aK (aP.box (cs:=[L,P,Q]) Z Z) Z λar=>bW (fQ 6 Z (mF (j:=0) Z jA))<|aK (aP.alloc (cs:=[cT,cT,cT]) Z Z) Z λaj=>aO<|aU<|bU Z<|dQ 1 Z<|eT h λX bY h=>aK (zBg Sy (DW U L z6 X bY) Z (iN [6] Z)) Z λD=>bW (fQ 1 Z (mF (j:=0) Z jA))<|bF (vM (c_ (i:=0) (j:=0) Z Z)) λbq=>?_;refine aB (Ow (r:=Value.agg #[D.1,cT,cT]) Z (by intro w;simp[Instr.build,Instr.fill,eZ,eF,dO,e_,fC,eG,fR,iY bq])) Z ?_;refine aK (aP.alloc (cs:=[cT,cT,cT]) Z Z) Z λak=>bF (vM (c_ (i:=1) (j:=0) Z Z)) λbr=>cG 0 (vs:=[D.1,cT,cT]) Z Z (gJ br (gJ Z (gJ Z Z))) Z Z Z<|aO<|aL<|kU (B:=NT) (λad=>sD o X ad=some r) (λad u=>[(2,vP aj),(3,vP ak)]) (λad u=>[bL ak [D.1,u.1,u.2.2.2.1] 43,Ar bM.raw D.1 D.2,bL aj [cT,cT,cT] 43,bL a.1 [vS (p0.1),m,n,vP a.2.1,a.2.2.1] 157,Ar bM.raw a.2.2.1 a.2.2.2.1,gN b_ a.2.2.2.1 o.1,bL a.2.1 [vS (p0.1),m,n,s,p,vI (o.2.1),a.2.2.2.2.1] 206,Ar bM.raw a.2.2.2.2.1 a.2.2.2.2.2,bL V [L,P,Q] 43,bL T [s,p] 31,bL S [vS (p0.1),m,n] 36,Ar bM.raw u.1 u.2.1,gN bM.raw u.2.1 u.2.2.1,Ar bM.raw u.2.2.2.1 u.2.2.2.2.1,wK bM.raw u.2.2.2.2.1 u.2.2.2.2.2.1 u.2.2.2.2.2.2]) (λad u=>[tA aN D.2 X,tA aN a.2.2.2.2.2 o.2.2,Sl aH m p0.2.1,Sl aE n p0.2.2,PF (Value.agg #[vS p0.1,m,n]),Sl aN s p1.1,S2 aX p z4 p1.2,S2 aN L z6 E.1,S3 aN P z8 E.2.1,S4 aN Q W E.2.2,AD aN u.2.2.1 ad.1,De aN u.2.2.2.2.2.2 ad.2]) ?_ ?_
  ·refine aU<|bU Z<|dQ 3 Z<|aB (dU Z (aF.fact 8 Z) Z) Z<|aA Z<|aO<|aS<|bW (eX bM.raw)<|bW (iA bM.raw)<|bW (cJ (eD:aF _ _ (AD aN (tg 1 ([]:AU)) ([]:rM))))<|bW (eX bM.raw)<|bW (tX bM.raw)<|bW (cJ (eD:aF _ _ (De aN (tg 2 ([]:Mq)) ([]:Cq))))<|oS (B:=NT) (kI U E o X) (λt b=>[(1,vP ar),(2,vP aj),(3,vP ak),(14,vI (E.2.1.length:Int)),(15,vI (t.1))]) (λt b=>[bL ak [D.1,b.1,b.2.2.2.1] 43,Ar bM.raw D.1 D.2,bL aj [cT,cT,cT] 43,bL ar [L,P,Q] 43,bL a.1 [vS (p0.1),m,n,vP a.2.1,a.2.2.1] 157,Ar bM.raw a.2.2.1 a.2.2.2.1,gN b_ a.2.2.2.1 o.1,bL a.2.1 [vS (p0.1),m,n,s,p,vI (o.2.1),a.2.2.2.2.1] 206,Ar bM.raw a.2.2.2.2.1 a.2.2.2.2.2,bL V [L,P,Q] 43,bL T [s,p] 31,bL S [vS (p0.1),m,n] 36,Ar bM.raw b.1 b.2.1,gN bM.raw b.2.1 b.2.2.1,Ar bM.raw b.2.2.2.1 b.2.2.2.2.1,wK bM.raw b.2.2.2.2.1 b.2.2.2.2.2.1 b.2.2.2.2.2.2]) (λt b=>[tA aN D.2 X,tA aN a.2.2.2.2.2 o.2.2,Sl aH m p0.2.1,Sl aE n p0.2.2,PF (Value.agg #[vS p0.1,m,n]),Sl aN s p1.1,S2 aX p z4 p1.2,S2 aN L z6 E.1,S3 aN P z8 E.2.1,S4 aN Q W E.2.2,AD aN b.2.2.1 t.2.1,De aN b.2.2.2.2.2.2 t.2.2]) ((0:Int),([]:rM),([]:Cq)) ((tg 1 (cT)),(tg 1 ([]:fY)),(tg 1 ([]:AU)),(tg 2 (cT)),(tg 2 ([]:fY)),(tg 2 ([]:AU)),(tg 2 ([]:Mq))) h SF (aZ.ix [4,5,6,7,8,9,10,11,12,13,14,15,3,2,1,0] Z Z) (iN [2,3,4,5,6,7,8,9,10,11,1,0] Z) ?_;intro bz t b h;refine aU<|cV Z<|aO<|aL ?_;refine eN h Z (λh=>?_) λh=>?_
   ·refine cL<|aL<|aS<|aU<|aA Z<|aC Z<|aO<|aL ?_;refine sW [0,1,0,4,0,28,60,124,252,511,1023,2047] 9 mixedOrders ?_;refine cH Z<|fO 0 Z<|cH Z<|fO 3 Z<|aV Z<|cU h λa3 h=>a_ (dG (aF.fact 8 Z)) λbp=>gC Z (dW Z Z bp Z Z a3)<|aY Z .nil (fN 8 Z) (eI Z (cA Z) Z Z a3) aJ.z<|eT h λau b0 h=>zBi Z Z Z (zBg Sy (DW U ((at' z8 t.1).1) ((at' z8 t.1).2) au b0) Z (aI.cons (cE (aF.fact 8 Z) a3.1 (by first|exact a3.2|simpa using a3.2)) .nil)) Z (λK=>(mC [([2],[])] Z)) λK=>?_;refine zBj (fQ 1 Z (mF (j:=0) Z jA))<|a_ (vM (c_ (i:=0) (j:=0) Z Z)) λa6=>zBj (iA bM.raw)<|zBj (rQ 0 1 Z Z Z)<|zBj (cJ (gR (cA Z) eD))<|zBi Z Z Z (cM (e:=bM.raw) ([K.1]) [(0,K.1)] Z Z Z Z (jO (K.1) a6) Z Z (gJ a6 Z)) Z (λbV=>(mC [([2],[])] Z)) λbV=>bP 9 Z Z<|bF (aW (Cv Z)) λa4=>bF (aW (cA Z)) λa5=>bF (dX 15 Z) λav=>bF (dX 1 Z) λaw=>cU h λa7 h=>bW (cJ (gF (Cv Z) (cA Z)))<|bW (nO 15 1 Z Z Z) ?_;refine aK (aP.append 13 0 Z Z Z Z Z Z Z (by have q:=a7;have q0:=a4;have q1:=a5;have q2:=av;have q3:=aw;(try simp only[zA9,zAg,zA4]at *);omega) (by have q:=a7;have q0:=a4;have q1:=a5;have q2:=av;have q3:=aw;(try simp only[zA9,zAg,zA4]at *);omega) Z) Z λan=>?_;refine bU Z<|bF (vM (gA (i:=13) (q:=14) (j:=0) Z Z Z)) λbj=>pJ 1 Z Z bj Z Z Z<|aO<|aU<|aC Z<|aO<|aL<|kU (B:=UI) (λR=>yC t (bJ (kI U E o X) bz) au R=some r) (λR v=>[(1,vP ar),(2,vP aj),(3,vP ak),(5,v.1),(14,vI (E.2.1.length:Int)),(15,vI (t.1))]) (λR v=>[bL ak [D.1,an,b.2.2.2.1] 43,Ar bM.raw D.1 D.2,bL aj [cT,cT,cT] 43,bL ar [L,P,Q] 43,bL a.1 [vS (p0.1),m,n,vP a.2.1,a.2.2.1] 157,Ar bM.raw a.2.2.1 a.2.2.2.1,gN b_ a.2.2.2.1 o.1,bL a.2.1 [vS (p0.1),m,n,s,p,vI (o.2.1),a.2.2.2.2.1] 206,Ar bM.raw a.2.2.2.2.1 a.2.2.2.2.2,bL V [L,P,Q] 43,bL T [s,p] 31,bL S [vS (p0.1),m,n] 36,Ar bM.raw an (b.2.1++[K.1]),gN bM.raw (b.2.1++[K.1]) (b.2.2.1++[K.2]),Ar bM.raw b.2.2.2.1 b.2.2.2.2.1,wK bM.raw b.2.2.2.2.1 b.2.2.2.2.2.1 b.2.2.2.2.2.2,Ar bM.raw v.1 v.2.1,gN bM.raw v.2.1 v.2.2]) (λR v=>[AD aN (b.2.2.1++[K.2]) (t.2.1++[au]),tA aN D.2 X,tA aN a.2.2.2.2.2 o.2.2,Sl aH m p0.2.1,Sl aE n p0.2.2,PF (Value.agg #[vS p0.1,m,n]),Sl aN s p1.1,S2 aX p z4 p1.2,S2 aN L z6 E.1,S3 aN P z8 E.2.1,S4 aN Q W E.2.2,De aN b.2.2.2.2.2.2 t.2.2,AD aN v.2.2 R]) ?_ ?_
    ·refine aU<|bU Z<|dQ 4 Z<|aA Z<|cU h λC h=>aB (bN Z Z (Cv Z) Z Z C) Z<|aB (eI Z (Cv Z) Z Z C) Z ?_;refine aB (dU Z (cE (Cv Z) C.1 (by first|exact C.2|simpa using C.2)) Z) Z ?_;refine aA Z<|aO<|aS<|bW (eX bM.raw)<|bW (iA bM.raw)<|bW (cJ (eD:aF _ _ (AD aN (tg 1 ([]:AU)) ([]:rM))))<|oS (B:=UI) (oO U E t (bJ (kI U E o X) bz) au) (λH x=>[(1,vP ar),(2,vP aj),(3,vP ak),(5,x.1),(14,vI (E.2.1.length:Int)),(15,vI (t.1)),(33,(at' W t.1).1),(34,vI ((at' E.2.2 t.1).length:Int)),(35,vI (H.2))]) (λH x=>[bL ak [D.1,an,b.2.2.2.1] 43,Ar bM.raw D.1 D.2,bL aj [cT,cT,cT] 43,bL ar [L,P,Q] 43,bL a.1 [vS (p0.1),m,n,vP a.2.1,a.2.2.1] 157,Ar bM.raw a.2.2.1 a.2.2.2.1,gN b_ a.2.2.2.1 o.1,bL a.2.1 [vS (p0.1),m,n,s,p,vI (o.2.1),a.2.2.2.2.1] 206,Ar bM.raw a.2.2.2.2.1 a.2.2.2.2.2,bL V [L,P,Q] 43,bL T [s,p] 31,bL S [vS (p0.1),m,n] 36,Ar bM.raw an (b.2.1++[K.1]),gN bM.raw (b.2.1++[K.1]) (b.2.2.1++[K.2]),Ar bM.raw b.2.2.2.1 b.2.2.2.2.1,wK bM.raw b.2.2.2.2.1 b.2.2.2.2.2.1 b.2.2.2.2.2.2,Ar bM.raw x.1 x.2.1,gN bM.raw x.2.1 x.2.2]) (λH x=>[AD aN (b.2.2.1++[K.2]) (t.2.1++[au]),tA aN D.2 X,tA aN a.2.2.2.2.2 o.2.2,Sl aH m p0.2.1,Sl aE n p0.2.2,PF (Value.agg #[vS p0.1,m,n]),Sl aN s p1.1,S2 aX p z4 p1.2,S2 aN L z6 E.1,S3 aN P z8 E.2.1,S4 aN Q W E.2.2,De aN b.2.2.2.2.2.2 t.2.2,AD aN x.2.2 H.1]) (([]:rM),(0:Int)) ((tg 1 (cT)),(tg 1 ([]:fY)),(tg 1 ([]:AU))) h SF (aZ.ix [3,4,5,6,7,8,9,10,11,12,13,14,15,16,17,18,1,0] Z Z) (iN [1,4,5,6,7,8,9,10,11,12,13,15,0] Z) ?_;intro b3 H x h;refine aU<|cV Z<|aO<|aL ?_;refine eN h Z (λh=>?_) λh=>?_
     ·refine cL<|aL<|aS<|aU<|cU h λal h=>aB (bN Z Z (cE (FZ Z) C.1 (by first|exact C.2|simpa using C.2)) Z Z al) Z ?_;refine aB (eI Z (cE (FZ Z) C.1 (by first|exact C.2|simpa using C.2)) Z Z al) Z ?_;refine aC Z<|aO<|aQ<|aA Z<|aA Z<|eT h λbd bH h=>aK (zBg Sy (DW U ((at' ((at' W t.1).2) H.2).1) ((at' ((at' W t.1).2) H.2).2) bd bH) Z (aI.cons (cE (cE (FZ Z) C.1 (by first|exact C.2|simpa using C.2)) al.1 (by first|exact al.2|simpa using al.2)) .nil)) Z λao=>?_;refine bW (fQ 1 Z (mF (j:=0) Z jA))<|bF (vM (c_ (i:=0) (j:=0) Z Z)) λa2=>bW (iA bM.raw)<|bW (rQ 0 1 Z Z Z)<|bW (cJ (gR (cA Z) eD))<|aK (cM (e:=bM.raw) ([ao.1]) [(0,ao.1)] Z Z Z Z (jO (ao.1) a2) Z Z (gJ a2 Z)) Z λb6=>bF (aW (aF.fact 14 Z)) λaG=>bF (aW (cA Z)) λaM=>bF (dX 19 Z) λaT=>bF (dX 1 Z) λa0=>cU h λa9 h=>bW (cJ (gF (aF.fact 14 Z) (cA Z)))<|bW (nO 19 1 Z Z Z) ?_;refine aK (aP.append 17 0 Z Z Z Z Z Z Z (by have q:=a9;have q0:=aG;have q1:=aM;have q2:=aT;have q3:=a0;(try simp only[zA9,zAg,zA4]at *);omega) (by have q:=a9;have q0:=aG;have q1:=aM;have q2:=aT;have q3:=a0;(try simp only[zA9,zAg,zA4]at *);omega) Z) Z λbC=>?_;refine aC Z<|fJ<|lL<|aQ<|cP Z<|aA Z<|aO ?_;exact iG ((H.1++[bd]),(wI .i64 (H.2+(1:Int)))) (bC,(x.2.1++[ao.1]),(x.2.2++[ao.2])) h SF (aZ.ix [1,2,3,4,5,6,7,8,9,10,11,12,13,14,15,16,17,18] Z Z) (iN [3,4,5,6,7,8,9,10,11,12,13,14,0] Z)
     refine fG ?_;exact fT (H.1) (x.1,x.2.1,x.2.2) h SF Z
    intro R v h;refine aQ<|bU Z<|dQ 0 Z<|aA Z<|bF (vM (gA (i:=16) (q:=17) (j:=12) Z Z Z)) λa1=>bW (tX bM.raw)<|bW (Gy 17 18 Z Z Z)<|bW (CM 0 17 Z Z Z)<|bW (cJ (gR (Cv Z) eD))<|aK (cM (e:=bM.raw) ([v.1]) [(0,v.1)] Z Z Z Z (jO (v.1) a1) Z Z (gJ a1 Z)) Z λb5=>bF (aW (Cv Z)) λax=>bF (aW (cA Z)) λay=>bF (jY 17 Z) λaz=>bF (jY 1 Z) λaD=>cU h λa8 h=>bW (cJ (gF (Cv Z) (cA Z)))<|bW (EH 17 1 Z Z Z) ?_;refine aK (aP.append 15 0 Z Z Z Z Z Z Z (by have q:=a8;have q0:=ax;have q1:=ay;have q2:=az;have q3:=aD;(try simp only[zA9,zAg,zA4]at *);omega) (by have q:=a8;have q0:=ax;have q1:=ay;have q2:=az;have q3:=aD;(try simp only[zA9,zAg,zA4]at *);omega) Z) Z λbA=>?_;refine bU Z<|bF (vM (gM (i:=15) (q:=16) (j:=0) Z Z Z)) λbk=>pJ 1 Z Z bk Z Z Z<|fJ<|lL<|aQ<|cP Z<|aA Z<|aO ?_;exact iG ((wI .i64 (t.1+(1:Int))),(t.2.1++[au]),(t.2.2++[R])) (an,(b.2.1++[K.1]),(b.2.2.1++[K.2]),bA,(b.2.2.2.2.1++[v.1]),(b.2.2.2.2.2.1++[v.2.1]),(b.2.2.2.2.2.2++[v.2.2])) h SF (aZ.ix [1,2,3,4,5,6,7,8,9,10,11,12,13,14,15,16] Z Z) (iN [3,4,5,6,7,8,9,10,11,12,2,0] Z)
   refine fG ?_;exact cI (t.2.1,t.2.2) (b.1,b.2.1,b.2.2.1,b.2.2.2.1,b.2.2.2.2.1,b.2.2.2.2.2.1,b.2.2.2.2.2.2) h SF (aZ.ix [0,1,2,4,5,6,7,8,9,10,11,12,13,14,15] Z Z) (aI.refl _ _)
  intro ad u h;unfold sD at h;refine aU<|dM 0 Z<|bF (vM (c_ (i:=1) (j:=0) Z Z)) λbs=>bF (vM (gA (i:=11) (q:=12) (j:=10) Z Z Z)) λbt=>bF (vM (gM (i:=13) (q:=14) (j:=11) Z Z Z)) λbu=>cG 2 (vs:=[D.1,u.1,u.2.2.2.1]) Z Z (gJ bs (gJ bt (gJ bu Z))) Z Z Z<|aO<|aR ?_;exact mW (X,ad.1,ad.2) (D.1,u.1,u.2.2.2.1,D.2,u.2.1,u.2.2.1,u.2.2.2.2.1,u.2.2.2.2.2.1,u.2.2.2.2.2.2) h (.inl Z) (Hi.r1 Z (RV.cell 2 Z Z Z Z)) Z (aZ.ix [1,3,4,5,6,7,8,9,10,11,12,13,14] Z Z) (aI.refl _ _)
 intro ae f h;unfold yB at h;refine bP 7 Z Z ?_;refine aB (WF (r:=Value.agg #[s,p,vI (p2),Value.pointer (some ⟨a.1,0,none⟩),f.1,f.2.1,f.2.2.1]) Z Z Z Z (by intro w;simp[Instr.build,Instr.fill,eZ,eF,dO,e_,fC,eG,fR])) Z ?_;refine aK (aP.box (cs:=[s,p,vI (p2),vP a.1,f.1,f.2.1,f.2.2.1]) Z Z) Z λbS=>aC Z<|aO<|aR ?_;cases h;exact iS (bS,a.1,f.1,f.2.1,f.2.2.1,f.2.2.2.1,a.2.1,a.2.2.1,a.2.2.2.1,a.2.2.2.2.1,a.2.2.2.2.2,f.2.2.2.2.1,f.2.2.2.2.2.1,f.2.2.2.2.2.2.1,f.2.2.2.2.2.2.2.1,f.2.2.2.2.2.2.2.2) Z Z (RV.tmp Z) (aZ.ix [0,1,2,3,4,5,6,10,11,12,13] Z Z) (iN [0,1,10,11] Z)
def vE (U:Nat) (a:iF) (d:cO) (f:Int) (b:kJ) (e:Bool):Option (Int):=
 if e=true then(some (2:Int))else(Option.bind (wR U ((a.1,a.2.1,a.2.2)) ((d.1,d.2)) f ((b.1,b.2.1,b.2.2))) λc=>(if(!c)=true then(some (7:Int))else(some (0:Int))))
def wS (U:Nat) (a:iF) (b:cO) (c:Int) (d:kJ):Option (Int):=
 Option.bind (pZ U ((a.1,a.2.1,a.2.2)) ((b.1,b.2))) λe=>(if e≠(0:Int)then(some (e))else(if c<(1:Int)then(vE U a b c d (true))else(vE U a b c d (decide ((8:Int)<c)))))
theorem acY:bB Tryz.prog 66:=Tryz.call66
theorem MY (U:Nat) {p0:iF} {p1:cO} {p2:Int} {i:kJ} (a b d e:V0) (q:lE) (j:V0) (v:kD) (k:V0) (w:IX) (m:V0) (n:IW) (r:Int) (h:wS U p0 p1 p2 i=some r):
  bD Tryz.prog 66 #[Value.agg #[vS (p0.1),a,b],Value.agg #[d,e],vI (p2),Value.agg #[j,k,m]] [Sl aH a p0.2.1,Sl aE b p0.2.2,PF (Value.agg #[vS p0.1,a,b]),Sl aN d p1.1,S2 aX e q p1.2,S2 aN j v i.1,S3 aN k w i.2.1,S4 aN m n i.2.2] (λx:Unit=>vI (r)) (λx l=>l) (λ_ l=>l):=by
 refine bD.of Tryz.func66 Z Tryz.ntmps66 Z λc=>?_;refine aU<|aK (aP.box (cs:=[vS (p0.1),a,b]) Z Z) Z λs=>aK (aP.box (cs:=[d,e]) Z Z) Z λt=>aK (aP.box (cs:=[j,k,m]) Z Z) Z λu=>aC Z<|aO<|aL<|aU<|dM 2 Z<|dM 1 Z<|eT h λy z h=>aK (zBg TN (Hs U a b d e q y z) Z (iN [0,1,2,3,4] Z)) Z λB=>aC Z<|aO<|aU<|aA Z<|k_ Z<|aO ?_;refine eN h Z (λh=>?_) λh=>?_
 ·refine aU<|aA Z<|aC Z<|aO<|aR<|aG ?_;cases h;exact nH Z
 refine cL<|aL<|aL<|eR (λf=>vE U p0 p1 p2 i f=some r) (λf g=>[(2,vI (p2)),(4,vP s),(5,vP t),(7,vP u),(21,vB (f))]) (λf g=>[bL u [j,k,m] 43,bL t [d,e] 31,bL s [vS (p0.1),a,b] 36]) ?_ ?_
 ·refine aQ<|aA Z<|cV Z<|aA Z ?_;refine BZ h Z (λ_ h=>?_) λ_ h=>?_
  ·refine aM Z<|aM Z<|dR Z<|aO ?_;exact fT (true) () h SF Z
  refine dC Z<|aT Z (tH Z Z) Z<|eV Z<|aO ?_;exact fT (decide ((8:Int)<p2)) () h SF Z
 intro f g h;refine tC h Z (λ_ h=>?_) λ_ h=>?_
 ·refine aU<|aC Z<|aO<|aR<|aG ?_;cases h;exact nH Z
 refine cL<|aL<|aU<|dM 2 Z<|dM 1 Z<|aA Z<|dM 0 Z<|eT h λo p h=>aK (zBg acM (MX U a b d e q j v k w m n o p) Z (iN [0,1,2,3,4,5,6,7] Z)) Z λA=>aB (kM Z) Z<|aO ?_;refine tC h Z (λ_ h=>?_) λ_ h=>?_
 ·refine aU<|aC Z<|aO<|aR<|aG ?_;cases h;exact nH Z
 refine cL<|aU<|aC Z<|aO<|aR ?_;cases h;exact nH Z
def uL (U:Nat) (a:bQ):Option bQ:=
 ck ((List.length ([]:bQ):Int)+(a.length:Int)<=1099511627) (some (([]:bQ)++a))
theorem adc:bB Tryz.prog 77:=Tryz.call77
theorem Mj (U:Nat) {p0:bQ} (d:V0) (r:bQ) (h:uL U p0=some r):
  bD Tryz.prog 77 #[d] [Sl aN d p0] (λx:V0=>x) (λx l=>Ar fW x r::l) (λ_ l=>l):=by
 refine bD.of Tryz.func77 Z Tryz.ntmps77 Z λc=>?_;unfold uL at h;refine aU<|aC Z<|aO<|aL<|aU<|aA Z<|Nf (cA Z) (λa b=>?_) (λa=>?_)
 ·replace h:(some ([]:bQ))=some r:=by simpa [ck,b]using h
  refine aB (KG Z (cA Z) a Z) Z<|aO<|Ol Z<|aU<|aC Z<|aO<|aR<|aG<|bW (eX fW) ?_;cases h;exact iS (cT) Z Z (RV.tmp Z) (aZ.refl _) aI.nil
 refine aB (KG Z (cA Z) a Z) Z<|aO<|Oj Z<|cL<|aU<|aK (cM (e:=fW) ([]:bQ) [] Z Z Z Z ((λi h=>by simp at h;subst h;rfl)) Z Z Z) Z λj=>aA Z<|cU h λf h=>aK (dN 0 jA Z Z Z (cA Z) Z Z Z Z f Z) Z λg=>aC Z<|aO<|aR ?_;cases h;exact iS (g) Z Z (RV.tmp Z) (aZ.refl _) aI.nil
def Em (U:Nat) (p0:List (V0)) (p1 p2:Int):Option (List (V0)):=
 ck (0<=p1/\p1<=p2/\p2<=(p0.length:Int)/\(p0.length:Int)<=(p0.length:Int)) (if p1=p2 then(some (p0))else(ck (0<=(0:Int)/\(0:Int)<=p1/\p1<=(p0.length:Int)) (ck (0<=p2/\p2<=((p0.length:Int))/\((p0.length:Int))<=(p0.length:Int)) (ck (0<=p1/\p1<p2/\p2<=(p0.length:Int)) (some ((List.take (Int.toNat p1) p0)++(List.drop (Int.toNat p2) p0)))))))
theorem ZW:bB Tryz.prog 111:=Tryz.call111
theorem JI (U:Nat) {p0:List (V0)} {p1 p2:Int} (b:V0) (r:List (V0)) (h:Em U p0 p1 p2=some r):
  B_ Tryz.prog 111 #[b,vI (p1),vI (p2)] [Ar bM.raw b p0] [] (λx:V0=>x) (λx l=>Ar bM.raw x r::l):=by
 refine B_.of (vs:=[b,vI (p1),vI (p2)]) Tryz.func111 Z Tryz.ntmps111 Z λc=>?_;refine aU<|aC Z<|aO<|aU<|aA Z<|aA Z<|aA Z<|aA Z<|aB (fE Z (tW (i:=0) Z) Z) Z<|cU h λe h=>aB (WJ Z Z Z Z (tW (i:=0) Z) Z Z e) Z<|aO<|aL<|aU<|aA Z<|aA Z<|cC Z<|aO ?_;refine eN h Z (λh=>?_) λh=>?_
 ·refine aU<|aA Z<|aC Z<|aO<|aR<|aG ?_;cases h;exact iS (b) Z Z (RV.tmp Z) (aZ.refl _) aI.nil
 refine cL<|aU<|aA Z<|aB (fE Z (tW (i:=0) Z) Z) Z<|aC Z<|aO<|aL ?_;refine sW [0,0,3,0,0,24,63,127] 6 mixedOrders ?_;refine aV Z<|aV Z<|cU h λf h=>aY Z (aZ.cons 0 Z .nil) .nil (WK Z Z (tW (i:=0) Z) Z Z f) aJ.z<|aV Z<|aV Z<|cU h λg h=>aY Z (aZ.cons 0 Z .nil) .nil (Qk Z Z (tW (i:=0) Z) Z Z g) aJ.z<|bP 6 Z Z<|cU h λd h=>bF (Know.cap 0 Z) λa=>aK (Lh (i:=p1) (j:=p2) 0 Z Z Z Z Z Z d) Z λk=>aC Z<|aO<|aU<|aA Z<|aA Z<|aB (fE Z (tW (i:=0) Z) Z) Z<|aA Z ?_;refine aB (Ql 0 Z Z Z Z Z Z (Ik.slq a) (by have q:=d;simp;omega)) Z ?_;refine PT 0 Z Z (zAi _) (Ik.slq a) (by have q:=d;simp;omega) Z Z Z Z Z ?_;refine aO<|aU<|aA Z<|aC Z<|aO<|aR ?_;cases h;exact iS (slq b 0 (Int.toNat (p1+((p0.length:Int) - p2))) 1) Z Z (RV.tmp Z) (aZ.refl _) aI.nil
def Ci (U:Nat) (p0:List (V0)):Option (List (V0)):=
 ck ((List.length ([]:fY):Int)+(p0.length:Int)<=1099511627) (some (([]:fY)++p0))
theorem aai:bB Tryz.prog 166:=Tryz.call166
theorem Kz (U:Nat) {p0:List (V0)} (d:V0) (r:List (V0)) (h:Ci U p0=some r):
  bD Tryz.prog 166 #[d] [Sl FH d p0] (λx:V0=>x) (λx l=>Ar bM.raw x r::l) (λ_ l=>l):=by
 refine bD.of Tryz.func166 Z Tryz.ntmps166 Z λc=>?_;unfold Ci at h;refine aU<|aC Z<|aO<|aL<|aU<|aA Z<|Nf (cA Z) (λa b=>?_) (λa=>?_)
 ·replace h:(some ([]:fY))=some r:=by simpa [ck,b]using h
  refine aB (KG Z (cA Z) a Z) Z<|aO<|Ol Z<|aU<|aC Z<|aO<|aR<|aG<|bW (eX bM.raw) ?_;cases h;exact iS (cT) Z Z (RV.tmp Z) (aZ.refl _) aI.nil
 refine aB (KG Z (cA Z) a Z) Z<|aO<|Oj Z<|cL<|aU<|aK (cM (e:=bM.raw) ([]:fY) [] Z Z Z Z ((λi h=>by simp at h;subst h;rfl)) Z Z Z) Z λj=>aA Z<|cU h λf h=>aK (MB 0 Hh Z Z Z (cA Z) Z Z Z Z f Z) Z λg=>aC Z<|aO<|aR ?_;cases h;exact iS (g) Z Z (RV.tmp Z) (aZ.refl _) aI.nil
end Go.Proofs.YtflciafboapaaaaGreat