/- Models and proofs. Conditions: none. -/
import Derived.Test.YtgciopekomcbfaaGreatDoorZTMA9
import Derived.Test.YtgciopekomcbfaaGreatDoorZTMA8
import Derived.Test.YtgciopekomcbfaaGreatDoorZTMA2
set_option linter.unusedVariables false
set_option linter.unusedSimpArgs false
set_option maxHeartbeats 4000000
set_option maxRecDepth 20000
open Go.Proofs.Tryz
namespace Go.Proofs.YtgciopekomcbfaaGreatDoor
open Go Go.Sx
abbrev yV:=tQ
def sF (g:GR) (v i:Nat):Nat:=(iU (row g v) i).1.toNat
def DZ (g:GR) (v i:Nat):Nat:=(AC (row g (sF g v i)) (v:Int)).toNat
structure PB (g:GR) (v i u b:Nat):Prop where
 ul:u<g.2.length
 bl:b<(row g u).length
 ne:u≠v
 tu:sF g u b=v
 bu:DZ g u b=i
theorem Ct {g:GR} (hV:VG g) {v i:Nat} (hv:v<g.2.length) (hi:i<(row g v).length):(iU (row g v) i).1=(sF g v i:Int):=by
 have:=((hV.node v hv).links i hi).1;unfold sF;omega
theorem afA {g:GR} (hV:VG g) {v i j:Nat} (hv:v<g.2.length) (hi:i<(row g v).length) (hj:j<(row g v).length) (h:sF g v i=sF g v j):i=j:=by
 have a:=Ct hV hv hi;have b:=Ct hV hv hj;rcases zB7 i j with q|q|q
 .exact absurd (by omega) (((hV.node v hv).links j hj).2.2.2 i q)
 .exact q
 .exact absurd (by omega) (((hV.node v hv).links i hi).2.2.2 j q)
theorem wT {g:GR} (hV:VG g) {v i:Nat} (hv:v<g.2.length) (hi:i<(row g v).length):PB g v i (sF g v i) (DZ g v i):=by
 have e:=Ct hV hv hi;have hl:=(hV.node v hv).links i hi;have hu:sF g v i<g.2.length:=by have:=hl.1;omega
 obtain⟨j,hj,hjv,_⟩:=hV.sym v hv i hi;have hr:at' g.2 (iU (row g v) i).1=row g (sF g v i):=by rw[e]
 rw[hr]at hj hjv;rcases EB (row g (sF g v i)) (v:Int)with⟨k,hk,hkv,hkf,hke⟩|⟨hf,_⟩
 rotate_left
 .exact absurd hjv (hf j hj)
 have hb:DZ g v i=k:=by unfold DZ;rw[hke];omega
 have ht:sF g (sF g v i) k=v:=by unfold sF at hkv ⊢;rw[hkv];omega
 have hne:sF g v i≠v:=λq=>hl.2.1 (by rw[e,q]);refine⟨hu,by omega,hne,by rw[hb];exact ht,?_⟩
 rw[hb];have q:DZ g (sF g v i) k=(AC (row g v) (sF g v i:Int)).toNat:=by unfold DZ;rw[ht]
 rw[q,Ky i hi e λz hz hq=> ?_]
 .omega
 .have:=afA hV hv (show z<(row g v).length by omega) hi (by have:=Ct hV hv (show z<(row g v).length by omega);omega);omega
abbrev nO {a:Type} [Inhabited a] (l:V6 (V6 a)) (v i:Nat):a:=at' (at' l (v:Int)) (i:Int)
def IL {a:Type} [Inhabited a] (l:V6 (V6 a)) (v i:Nat) (x:a):V6 (V6 a):=l.set v ((at' l (v:Int)).set i x)
section
variable {α:Type} [Inhabited α]
theorem acq (l:V6 (V6 α)) (v i:Nat) (x:α):(IL l v i x).length=l.length:=by simp[IL]
theorem acr (l:V6 (V6 α)) {v i:Nat} (x:α) (a:v<l.length) (w:Nat):(at' (IL l v i x) (w:Int)).length=(at' l (w:Int)).length:=by
 unfold IL;rw[tE _ _ _ _ a];split
 .rename_i e;subst e;simp
 .rfl
theorem afG (l:V6 (V6 α)) {v i:Nat} (x:α) (b:v<l.length) (a:i<(at' l (v:Int)).length) (w j:Nat):nO (IL l v i x) w j=if w=v/\j=i then x else nO l w j:=by
 unfold nO IL;rw[tE _ _ _ _ b];by_cases e:w=v
 .subst e;rw[if_pos Z,tE _ _ _ _ a];by_cases q:j=i
  .rw[if_pos q,if_pos ⟨rfl,q⟩]
  .rw[if_neg q,if_neg (λh=>q h.2)]
 .rw[if_neg e,if_neg (λh=>e h.1)]
end
structure Sh2 {α:Type} [Inhabited α] (g:GR) (l:List (List α)):Prop where
 len:l.length=g.2.length
 row:∀v,v<g.2.length->(at' l (v:Int)).length=(row g v).length
theorem Sh2.set {a:Type} [Inhabited a] {g:GR} {l:V6 (V6 a)} (h:Sh2 g l) {v i:Nat} (b:v<g.2.length) (x:a):Sh2 g (IL l v i x):=
 ⟨by rw[acq];exact h.len,λw c=>by rw[acr _ _ (by rw[h.len];exact b)];exact h.row w c⟩
theorem Sh2.at {a:Type} [Inhabited a] {g:GR} {l:V6 (V6 a)} (h:Sh2 g l) {v i:Nat} (b:v<g.2.length) (c:i<(Go.Proofs.YtgciopekomcbfaaGreatDoor.row g v).length) (x:a) (w j:Nat):nO (IL l v i x) w j=if w=v/\j=i then x else nO l w j:=
 afG l x (by rw[h.len];exact b) (by rw[h.row v b];exact c) w j
structure SH (g:GR) (y:yV):Prop where
 c:y.1.length=g.2.length
 a:Sh2 g y.2.1
 w:Sh2 g y.2.2
def vwN (g:GR) (y:yV) (v:Nat):Nat->V6 (V6 Int)
 |0=>y.1
 |i+1=>(vwN g y v i).set (sF g v i) (nO y.2.1 v i)
def vw (g:GR) (y:yV) (v:Nat):V6 (V6 Int):=vwN g y v (row g v).length
theorem GK (g:GR) (y:yV) (v:Nat):∀i,(vwN g y v i).length=y.1.length
 |0=>rfl
 |i+1=>by simp[vwN,GK g y v i]
theorem XG {g:GR} (hV:VG g) {y:yV} (h:SH g y) {v:Nat} (hv:v<g.2.length):∀i,i<=(row g v).length->at' (vwN g y v i) (v:Int)=at' y.1 (v:Int)
 |0,_=>rfl
 |i+1,hi=>by
  have hu:=wT hV hv (show i<(row g v).length by omega);show at' ((vwN g y v i).set (sF g v i) _) (v:Int)=_;rw[tE _ _ _ _ (by rw[GK,h.c];exact hu.ul),if_neg (λe=>hu.ne e.symm)];exact XG hV h hv i (by omega)
theorem XF {g:GR} (hV:VG g) {y:yV} (h:SH g y) {v:Nat} (hv:v<g.2.length) (P:Nat->List Int->Prop) (hc:∀x,x<g.2.length->P x (at' y.1 (x:Int))) (hb:∀i,i<(row g v).length->P (sF g v i) (nO y.2.1 v i)):∀i,i<=(row g v).length->∀x,x<g.2.length->P x (at' (vwN g y v i) (x:Int))
 |0,_,x,hx=>hc x hx
 |i+1,hi,x,hx=>by
  have hu:=wT hV hv (show i<(row g v).length by omega);show P x (at' ((vwN g y v i).set (sF g v i) _) (x:Int));rw[tE _ _ _ _ (by rw[GK,h.c];exact hu.ul)];by_cases e:x=sF g v i
  .rw[if_pos e,e];exact hb i (by omega)
  .rw[if_neg e];exact XF hV h hv P hc hb i (by omega) x hx
theorem TX {g:GR} (hV:VG g) {y:yV} (h:SH g y) {v:Nat} (hv:v<g.2.length) (hb:∀i,i<(row g v).length->nO y.2.1 v i=at' y.1 (sF g v i:Int)):∀i,i<=(row g v).length->vwN g y v i=y.1
 |0,_=>rfl
 | i + 1, hi => by
  have hu:=wT hV hv (show i<(row g v).length by omega);show(vwN g y v i).set (sF g v i) (nO y.2.1 v i)=y.1;rw[TX hV h hv hb i (by omega),hb i (by omega)];refine List.ext_getElem (by rw[zA2]) λx h1 h2=> ?_;by_cases e:sF g v i=x
  .subst e;rw[List.getElem_set_self];exact gK h2
  .rw[List.getElem_set_ne e]
def zA (g:GR) (a:V4) (y:yV) (v i:Nat):yV:=
 match nO y.2.2 (sF g v i) (DZ g v i)with
 | []=>y
 |s::r=>(y.1,if a=true then IL y.2.1 v i s else y.2.1,IL y.2.2 (sF g v i) (DZ g v i) r)
def Ea (a:Nat) (y:yV) (v i:Nat):yV:=if(nO y.2.2 v i).length<a then(y.1,y.2.1,IL y.2.2 v i (nO y.2.2 v i++[at' y.1 (v:Int)]))else y
def Sc (g:GR) (nx:V6 (V6 Int)->Nat->V6 Int) (y:yV) (v:Nat):yV:=(y.1.set v (nx (vw g y v) v),y.2.1,y.2.2)
def lA (g:GR) (nx:V6 (V6 Int)->Nat->V6 Int) (cap:Nat) (y:yV) (e:Nat×Nat×Nat):yV:=
 if e.1=1 then Sc g nx y e.2.1 else if e.1=2 then Ea cap y e.2.1 e.2.2 else zA g (decide (e.1=3)) y e.2.1 e.2.2
def agC (g:GR) (e:Nat×Nat×Nat):Prop:=(1<=e.1/\e.1<=4)/\e.2.1<g.2.length/\(e.1=1\/e.2.2<(row g e.2.1).length)
structure Cc (g:GR) (P:Nat->List Int->Prop) (y:yV):Prop where
 c:∀v,v<g.2.length->P v (at' y.1 (v:Int))
 a:∀v i,v<g.2.length->i<(row g v).length->P (sF g v i) (nO y.2.1 v i)
 w:∀v i,v<g.2.length->i<(row g v).length->∀s,s∈nO y.2.2 v i->P v s
theorem Cc.mono {g:GR} {P Q:Nat->List Int->Prop} {y:yV} (h:Cc g P y) (hPQ:∀v s,v<g.2.length->P v s->Q v s) (hV:VG g):Cc g Q y:=
 ⟨λv hv=>hPQ _ _ hv (h.c v hv),λv i hv hi=>hPQ _ _ (wT hV hv hi).ul (h.a v i hv hi),λv i hv hi s hs=>hPQ _ _ hv (h.w v i hv hi s hs)⟩
def VS (g:GR) (cap:Nat) (y:yV):Prop:=∀v i,v<g.2.length->i<(row g v).length->(nO y.2.2 v i).length<=cap
section
variable {g:GR} {nx:V6 (V6 Int)->Nat->V6 Int} {cap:Nat} {P P':Nat->V6 Int->Prop} {y:yV} {v i:Nat}
theorem Qg (hV:VG g) (h:SH g y) (hv:v<g.2.length) (hi:i<(row g v).length) {k:Bool}:SH g (zA g k y v i):=by
 have hp:=wT hV hv hi;unfold zA;split
 .exact h
 .refine⟨h.c,?_,h.w.set hp.ul _⟩
  dsimp only;split
  .exact h.a.set hv _
  .exact h.a
theorem Jz (hV:VG g) (h:SH g y) (hv:v<g.2.length) (hi:i<(row g v).length) {k:Bool} (w j:Nat):nO (zA g k y v i).2.2 w j=if w=sF g v i/\j=DZ g v i then(nO y.2.2 w j).tail else nO y.2.2 w j:=by
 have hp:=wT hV hv hi;unfold zA;split
 .rename_i e;by_cases q:w=sF g v i/\j=DZ g v i
  .rw[if_pos q,q.1,q.2,e];rfl
  .rw[if_neg q]
 .rename_i s r e;dsimp only;rw[h.w.at hp.ul hp.bl];by_cases q:w=sF g v i/\j=DZ g v i
  .rw[if_pos q,if_pos q,q.1,q.2,e];rfl
  .rw[if_neg q,if_neg q]
theorem abc {k:V4}:(zA g k y v i).1=y.1:=by unfold zA;split<;>rfl
theorem UY (d:VG g) (h:SH g y) (c:v<g.2.length) (b:i<(row g v).length) {k:V4} (w j:Nat):nO (zA g k y v i).2.1 w j=if w=v/\j=i then(if k=true then(nO y.2.2 (sF g v i) (DZ g v i)).headD (nO y.2.1 v i)else nO y.2.1 v i)else nO y.2.1 w j:=by
 unfold zA;split
 .rename_i e;by_cases q:w=v/\j=i
  .rw[if_pos q,q.1,q.2,e];split<;>rfl
  .rw[if_neg q]
 .rename_i s r e;dsimp only;cases k with
  |false=>
   rw[if_neg Q2];by_cases q:w=v/\j=i
   .rw[if_pos q,q.1,q.2,if_neg Q2]
   .rw[if_neg q]
  |true=>
   rw[if_pos Z,h.a.at c b];by_cases q:w=v/\j=i
   .rw[if_pos q,if_pos q,if_pos Z,e];rfl
   .rw[if_neg q,if_neg q]
theorem SC (hV:VG g) (h:SH g y) (hv:v<g.2.length) (hi:i<(row g v).length) (hA:Cc g P y) {k:Bool}:Cc g P (zA g k y v i):=by
 have hp:=wT hV hv hi;refine⟨λx hx=>by rw[abc];exact hA.c x hx,λw j hw hj=> ?_,λw j hw hj s hs=> ?_⟩
 .rw[UY hV h hv hi];by_cases q:w=v/\j=i
  .rw[if_pos q,q.1,q.2];split
   .cases e:nO y.2.2 (sF g v i) (DZ g v i)with
    |nil=>exact hA.a v i hv hi
    |cons s r=>exact hA.w _ _ hp.ul hp.bl s (by rw[e];exact zAe)
   .exact hA.a v i hv hi
  .rw[if_neg q];exact hA.a w j hw hj
 .rw[Jz hV h hv hi]at hs;split at hs
  .exact hA.w w j hw hj s (List.mem_of_mem_tail hs)
  .exact hA.w w j hw hj s hs
theorem SD (b:VG g) (h:SH g y) (e:v<g.2.length) (c:i<(row g v).length) (a:VS g cap y) {k:V4}:VS g cap (zA g k y v i):=λw j f d=>by
 have:=a w j f d;rw[Jz b h e c];split
 .rw[List.length_tail];omega
 .exact this
theorem Xt (h:SH g y) (b:v<g.2.length):SH g (Ea cap y v i):=by
 unfold Ea;split
 .exact⟨h.c,h.a,h.w.set b _⟩
 .exact h
theorem VK (h:SH g y) (b:v<g.2.length) (a:i<(row g v).length) (w j:Nat):nO (Ea cap y v i).2.2 w j=if w=v/\j=i/\(nO y.2.2 v i).length<cap then nO y.2.2 v i++[at' y.1 (v:Int)]else nO y.2.2 w j:=by
 unfold Ea;by_cases q:(nO y.2.2 v i).length<cap
 .rw[if_pos q];dsimp only;rw[h.w.at b a];by_cases z:w=v/\j=i
  .rw[if_pos z,if_pos ⟨z.1,z.2,q⟩]
  .rw[if_neg z,if_neg (λe=>z ⟨e.1,e.2.1⟩)]
 .rw[if_neg q,if_neg (λe=>q e.2.2)]
theorem QZ:(Ea cap y v i).1=y.1/\(Ea cap y v i).2.1=y.2.1:=by unfold Ea;split<;>exact⟨rfl,rfl⟩
theorem acB (h:SH g y) (f:v<g.2.length) (l:i<(row g v).length) (d:Cc g P y):Cc g P (Ea cap y v i):=by
 refine⟨λx m=>by rw[QZ.1];exact d.c x m,λw j k e=>by rw[QZ.2];exact d.a w j k e,λw j k e s b=> ?_⟩
 rw[VK h f l]at b;split at b
 .rename_i q;rcases zBa.1 b with b|b
  .rw[q.1];exact d.w v i f l s b
  .rw[zBe.1 b,q.1];exact d.c v f
 .exact d.w w j k e s b
theorem acC (h:SH g y) (d:v<g.2.length) (b:i<(row g v).length) (a:VS g cap y):VS g cap (Ea cap y v i):=λw j e c=>by
 have:=a w j e c;rw[VK h d b];split
 .rename_i q;rw[zA5,List.length_singleton];omega
 .exact this
theorem ZU (h:SH g y):SH g (Sc g nx y v):=⟨by simpa [Sc]using h.c,h.a,h.w⟩
theorem agb (h:SH g y) (a:v<g.2.length) (x:Nat):at' (Sc g nx y v).1 (x:Int)=if x=v then nx (vw g y v) v else at' y.1 (x:Int):=tE _ _ _ _ (by rw[h.c];exact a)
theorem Ra (e:VG g) (h:SH g y) (d:v<g.2.length) (b:Cc g P y):(vw g y v).length=g.2.length/\∀x,x<g.2.length->P x (at' (vw g y v) (x:Int)):=
 ⟨by unfold vw;rw[GK,h.c],XF e h d P b.c (λi f=>b.a v i d f) _ (zAg _)⟩
theorem Wc (f:VG g) (h:SH g y) (d:v<g.2.length) (b:Cc g P y) (j:∀c:V6 (V6 Int),c.length=g.2.length->(∀x,x<g.2.length->P x (at' c (x:Int)))->∀v,v<g.2.length->P v (nx c v)):Cc g P (Sc g nx y v):=by
 refine⟨λx k=> ?_,b.a,b.w⟩
 rw[agb h d];split
 .rename_i e;rw[e];have:=Ra f h d b;exact j _ this.1 this.2 v d
 .exact b.c x k
theorem abT (d:VG g) (h:SH g y) (f:Cc g P y) (j:VS g cap y) {e:Nat×Nat×Nat} (l:agC g e) (m:∀c:V6 (V6 Int),c.length=g.2.length->(∀x,x<g.2.length->P x (at' c (x:Int)))->∀v,v<g.2.length->P v (nx c v)):SH g (lA g nx cap y e)/\Cc g P (lA g nx cap y e)/\VS g cap (lA g nx cap y e):=by
 obtain⟨⟨o,p⟩,a,n⟩:=l;unfold lA;by_cases q:e.1=1
 .rw[if_pos q];exact⟨ZU h,Wc d h a f m,j⟩
 .have b:=n.resolve_left q;rw[if_neg q];by_cases k:e.1=2
  .rw[if_pos k];exact⟨Xt h a,acB h a b f,acC h a b j⟩
  .rw[if_neg k];exact⟨Qg d h a b,SC d h a b f,SD d h a b j⟩
end
def Az (g:GR) (cap:Nat):V6 (Nat×Nat×Nat):=(List.range g.2.length).flatMap λv=>(List.range (row g v).length).flatMap λi=>(List.range cap).flatMap λ_=>[(3,v,i)]
def Wd (g:GR):V6 (Nat×Nat×Nat):=(List.range g.2.length).flatMap λv=>[(1,v,0)]
def F_ (g:GR):V6 (Nat×Nat×Nat):=(List.range g.2.length).flatMap λv=>(List.range (row g v).length).flatMap λi=>[(2,v,i)]
def JW (g:GR) (cap:Nat):V6 (Nat×Nat×Nat):=Az g cap++(Wd g++(F_ g++Az g cap))
theorem qA {c b:Type} (a:b->c->b) (f:Nat->V6 c) (I:Nat->b->Prop):∀n,(∀k y,k<n->I k y->I (k+1) ((f k).foldl a y))->∀y,I 0 y->I n (((List.range n).flatMap f).foldl a y)
 |0,_,y,h=>by simpa using h
 |n+1,hs,y,h=>by
  have d:=qA a f I n (λk y e=>hs k y V7) y h;rw[List.range_succ,List.flatMap_append,List.foldl_append,List.flatMap_singleton];exact hs n _ V7 d
structure Rh (g:GR) (y:yV):Prop where
 a:∀v i,v<g.2.length->i<(row g v).length->nO y.2.1 v i=at' y.1 (sF g v i:Int)
 w:∀v i,v<g.2.length->i<(row g v).length->nO y.2.2 v i=[]
section
variable {g:GR} {nx:V6 (V6 Int)->Nat->V6 Int} {cap:Nat} {P P':Nat->V6 Int->Prop} {y:yV}
theorem ajX (hV:VG g) {v i w j:Nat} (hv:v<g.2.length) (hi:i<(row g v).length) (hw:w<g.2.length) (hj:j<(row g w).length) (h:sF g w j=sF g v i/\DZ g w j=DZ g v i):w=v/\j=i:=by
 have a:=wT hV hv hi;have b:=wT hV hw hj;have h1:=a.tu;have h2:=b.tu;have h3:=a.bu;have h4:=b.bu;rw[h.1,h.2]at h2 h4;exact⟨by omega,by omega⟩
theorem ain (hV:VG g) (h:SH g y) (hA:Cc g P y) (hC:VS g cap y):SH g ((Az g cap).foldl (lA g nx cap) y)/\Cc g P ((Az g cap).foldl (lA g nx cap) y)/\∀v i,v<g.2.length->i<(row g v).length->nO ((Az g cap).foldl (lA g nx cap) y).2.2 v i=[]:=by
 have key:=qA (lA g nx cap) (λv=>(List.range (row g v).length).flatMap λi=>(List.range cap).flatMap λ_=>[(3,v,i)]) (λv y=>SH g y/\Cc g P y/\VS g cap y/\∀w j,w<v->w<g.2.length->j<(row g w).length->nO y.2.2 (sF g w j) (DZ g w j)=[]) g.2.length (λv y hv ⟨h,hA,hC,hD⟩=> ?_) y ⟨h,hA,hC,λw j hw=>absurd hw (Nat.not_lt_zero w)⟩
 .obtain⟨h,hA,hC,hD⟩:=key;refine⟨h,hA,λv i hv hi=> ?_⟩
  have hp:=wT hV hv hi;have:=hD (sF g v i) (DZ g v i) hp.ul hp.ul hp.bl;rw[hp.tu,hp.bu]at this;exact this
 .have key2:=qA (lA g nx cap) (λi=>(List.range cap).flatMap λ_=>[(3,v,i)]) (λi y=>SH g y/\Cc g P y/\VS g cap y/\∀w j,(w<v\/w=v/\j<i)->w<g.2.length->j<(row g w).length->nO y.2.2 (sF g w j) (DZ g w j)=[]) (row g v).length (λi y hi ⟨h,hA,hC,hD⟩=> ?_) y ⟨h,hA,hC,λw j hw=>hD w j (by omega)⟩
  .obtain⟨h,hA,hC,hD⟩:=key2;refine⟨h,hA,hC,λw j hw hwn hj=>hD w j ?_ hwn hj⟩
   by_cases e:w=v
   .subst e;exact .inr ⟨rfl,hj⟩
   .exact .inl (by omega)
  .have hp:=wT hV hv hi;have key3:=qA (lA g nx cap) (λ_=>[(3,v,i)]) (λt y=>SH g y/\Cc g P y/\VS g cap y/\(∀w j,(w<v\/w=v/\j<i)->w<g.2.length->j<(row g w).length->nO y.2.2 (sF g w j) (DZ g w j)=[])/\(nO y.2.2 (sF g v i) (DZ g v i)).length<=cap - t) cap (λt y ht ⟨h,hA,hC,hD,hL⟩=> ?_) y ⟨h,hA,hC,hD,hC _ _ hp.ul hp.bl⟩
   .obtain⟨h,hA,hC,hD,hL⟩:=key3;refine⟨h,hA,hC,λw j hw hwn hj=> ?_⟩
    by_cases e:w=v/\j=i
    .rw[e.1,e.2];exact zAn (by omega)
    .refine hD w j ?_ hwn hj;rcases hw with q|q
     .exact .inl q
     .refine .inr ⟨q.1,?_⟩;have:j≠i:=λz=>e ⟨q.1,z⟩;omega
   .show SH g (lA g nx cap y (3,v,i))/\_;have e:lA g nx cap y (3,v,i)=zA g true y v i:=rfl;rw[List.foldl_cons,List.foldl_nil,e];refine⟨Qg hV h hv hi,SC hV h hv hi hA,SD hV h hv hi hC,λw j hw hwn hj=> ?_,?_⟩
    .rw[Jz hV h hv hi];split
     .rw[hD w j hw hwn hj];rfl
     .exact hD w j hw hwn hj
    .rw[Jz hV h hv hi,if_pos ⟨rfl,rfl⟩,List.length_tail];omega
theorem afv (hV:VG g) {y2:yV} (h2:SH g y2) (hW2:∀v i,v<g.2.length->i<(row g v).length->nO y2.2.2 v i=[]) (hC2:∀x,x<g.2.length->P' x (at' y2.1 (x:Int))) (hcap:1<=cap):
    SH g ((F_ g++Az g cap).foldl (lA g nx cap) y2)/\((F_ g++Az g cap).foldl (lA g nx cap) y2).1=y2.1/\Cc g P' ((F_ g++Az g cap).foldl (lA g nx cap) y2)/\Rh g ((F_ g++Az g cap).foldl (lA g nx cap) y2):=by
  rw[List.foldl_append]
  -- all nodes tell
  have k3:=qA (lA g nx cap) (λv=>(List.range (row g v).length).flatMap λi=>[(2,v,i)]) (λv y=>SH g y/\y.1=y2.1/\∀w j,w<g.2.length->j<(row g w).length->nO y.2.2 w j=if w<v then[at' y2.1 (w:Int)]else[]) g.2.length (λv y hv ⟨h,hc,hD⟩=>by
    have k:=qA (lA g nx cap) (λi=>[(2,v,i)]) (λi y=>SH g y/\y.1=y2.1/\∀w j,w<g.2.length->j<(row g w).length->nO y.2.2 w j=if w<v\/w=v/\j<i then[at' y2.1 (w:Int)]else[]) (row g v).length (λi y hi ⟨h,hc,hD⟩=>by
      have e:lA g nx cap y (2,v,i)=Ea cap y v i:=rfl;rw[List.foldl_cons,List.foldl_nil,e];refine⟨Xt h hv,by rw[QZ.1];exact hc,λw j hw hj=> ?_⟩
      have hvi:=hD v i hv hi;rw[if_neg (by omega)]at hvi;rw[VK h hv hi,hvi];by_cases q:w=v/\j=i
      · rw[if_pos ⟨q.1,q.2,by simp only[zAm];omega⟩,if_pos (.inr ⟨q.1,by omega⟩),hc,q.1];rfl
      · rw[if_neg (λz=>q ⟨z.1,z.2.1⟩),hD w j hw hj];by_cases z:w<v\/w=v/\j<i
        · rw[if_pos z,if_pos (by omega)]
        · rw [if_neg z, if_neg (by omega)]) y ⟨h, hc, λw j hw hj => by
            rw [hD w j hw hj]; by_cases z : w < v
            · rw[if_pos z,if_pos (.inl z)]
            · rw[if_neg z,if_neg (by omega)]⟩
    obtain⟨h,hc,hD⟩:=k;refine⟨h,hc,λw j hw hj=> ?_⟩
    rw[hD w j hw hj];by_cases z:w<v+1
    · rw[if_pos z,if_pos (by
        by_cases e:w=v
        · subst e;exact .inr ⟨rfl,hj⟩
        · exact .inl (by omega))]
    · rw[if_neg z,if_neg (by omega)]) y2 ⟨h2,rfl,λw j hw hj=>by rw[if_neg (Nat.not_lt_zero w)];exact hW2 w j hw hj⟩
  have e3:((List.range g.2.length).flatMap λv=>(List.range (row g v).length).flatMap λi=>[(2,v,i)])=F_ g:=rfl;rw[e3]at k3;obtain⟨h3,hc3,hW3⟩:=k3;generalize (F_ g).foldl (lA g nx cap) y2=y3 at h3 hc3 hW3;have hW3':∀w j,w<g.2.length->j<(row g w).length->nO y3.2.2 w j=[at' y2.1 (w:Int)]:=λw j hw hj=>by rw[hW3 w j hw hj,if_pos hw]
  -- all nodes hear
  have k4:=qA (lA g nx cap) (λv=>(List.range (row g v).length).flatMap λi=>(List.range cap).flatMap λ_=>[(3,v,i)]) (λv y=>SH g y/\y.1=y2.1/\∀w j,w<g.2.length->j<(row g w).length->(w<v->nO y.2.1 w j=at' y2.1 (sF g w j:Int)/\nO y.2.2 (sF g w j) (DZ g w j)=[])/\(¬w<v->nO y.2.2 (sF g w j) (DZ g w j)=[at' y2.1 (sF g w j:Int)])) g.2.length (λv y hv ⟨h,hc,hD⟩=>by
    have k:=qA (lA g nx cap) (λi=>(List.range cap).flatMap λ_=>[(3,v,i)]) (λi y=>SH g y/\y.1=y2.1/\∀w j,w<g.2.length->j<(row g w).length->((w<v\/w=v/\j<i)->nO y.2.1 w j=at' y2.1 (sF g w j:Int)/\nO y.2.2 (sF g w j) (DZ g w j)=[])/\(¬(w<v\/w=v/\j<i)->nO y.2.2 (sF g w j) (DZ g w j)=[at' y2.1 (sF g w j:Int)])) (row g v).length (λi y hi ⟨h,hc,hD⟩=>by
      have hp:=wT hV hv hi;have k:=qA (lA g nx cap) (λ_=>[(3,v,i)]) (λt y=>SH g y/\y.1=y2.1/\(∀w j,w<g.2.length->j<(row g w).length->¬(w=v/\j=i)->((w<v\/w=v/\j<i)->nO y.2.1 w j=at' y2.1 (sF g w j:Int)/\nO y.2.2 (sF g w j) (DZ g w j)=[])/\(¬(w<v\/w=v/\j<i)->nO y.2.2 (sF g w j) (DZ g w j)=[at' y2.1 (sF g w j:Int)]))/\(t=0->nO y.2.2 (sF g v i) (DZ g v i)=[at' y2.1 (sF g v i:Int)])/\(0<t->nO y.2.1 v i=at' y2.1 (sF g v i:Int)/\nO y.2.2 (sF g v i) (DZ g v i)=[])) cap (λt y ht ⟨h,hc,hD,h0,hT⟩=>by
        have e:lA g nx cap y (3,v,i)=zA g true y v i:=rfl;rw[List.foldl_cons,List.foldl_nil,e];refine⟨Qg hV h hv hi,by rw[abc];exact hc,λw j hw hj hne=> ?_,λq=>absurd q (by omega),λ_=> ?_⟩
        · obtain⟨a,b⟩:=hD w j hw hj hne;rw[UY hV h hv hi,if_neg hne,Jz hV h hv hi,if_neg (λq=>hne (ajX hV hv hi hw hj q))];exact⟨a,b⟩
        · rw[UY hV h hv hi,if_pos ⟨rfl,rfl⟩,if_pos Z,Jz hV h hv hi,if_pos ⟨rfl,rfl⟩];by_cases z:t=0
          · rw[h0 z];exact⟨rfl,rfl⟩
          · obtain⟨a,b⟩:=hT (by omega);rw[b,<-a];exact⟨rfl,rfl⟩) y ⟨h,hc,λw j hw hj _=>hD w j hw hj,λ_=>(hD v i hv hi).2 (by omega),λq=>absurd q (by omega)⟩
      obtain⟨h,hc,hD,_,hT⟩:=k;obtain⟨a,b⟩:=hT (by omega);refine⟨h,hc,λw j hw hj=>⟨λq=> ?_,λq=>(hD w j hw hj (by omega)).2 (by omega)⟩⟩
      by_cases z:w=v/\j=i
      · rw[z.1,z.2];exact⟨a,b⟩
      · exact(hD w j hw hj z).1 (by omega)) y ⟨h,hc,λw j hw hj=>⟨λq=>(hD w j hw hj).1 (by omega),λq=>(hD w j hw hj).2 (by omega)⟩⟩
    obtain⟨h,hc,hD⟩:=k;refine⟨h,hc,λw j hw hj=>⟨λq=>(hD w j hw hj).1 ?_,λq=>(hD w j hw hj).2 (by omega)⟩⟩
    by_cases e:w=v
    · subst e;exact .inr ⟨rfl,hj⟩
    · exact .inl (by omega)) y3 ⟨h3,hc3,λw j hw hj=>⟨λq=>absurd q (Nat.not_lt_zero w),λ_=>by
      have hp:=wT hV hw hj;exact hW3' _ _ hp.ul hp.bl⟩⟩
  have e4:((List.range g.2.length).flatMap λv=>(List.range (row g v).length).flatMap λi=>(List.range cap).flatMap λ_=>[(3,v,i)])=Az g cap:=rfl;rw[e4]at k4;obtain⟨h4,hc4,hD4⟩:=k4;generalize (Az g cap).foldl (lA g nx cap) y3=y4 at h4 hc4 hD4;have hw4:∀v i,v<g.2.length->i<(row g v).length->nO y4.2.2 v i=[]:=λv i hv hi=>by
    have hp:=wT hV hv hi;have:=((hD4 (sF g v i) (DZ g v i) hp.ul hp.bl).1 hp.ul).2;rw[hp.tu,hp.bu]at this;exact this
  refine⟨h4,hc4,⟨λv hv=>by rw[hc4];exact hC2 v hv,λv i hv hi=> ?_,λv i hv hi s hs=> ?_⟩,⟨λv i hv hi=>by rw[hc4];exact((hD4 v i hv hi).1 hv).1,hw4⟩⟩
  · have hp:=wT hV hv hi;rw[((hD4 v i hv hi).1 hv).1];exact hC2 _ hp.ul
  · rw[hw4 v i hv hi]at hs;exact absurd hs zB8
theorem acA (p:VG g) (h:SH g y) (o:Cc g P y) (C:VS g cap y) (n:1<=cap) (E:∀v s,v<g.2.length->P' v s->P v s) (w:∀c:V6 (V6 Int),c.length=g.2.length->(∀x,x<g.2.length->P x (at' c (x:Int)))->∀v,v<g.2.length->P' v (nx c v)):
  SH g ((JW g cap).foldl (lA g nx cap) y)/\Cc g P' ((JW g cap).foldl (lA g nx cap) y)/\Rh g ((JW g cap).foldl (lA g nx cap) y):=by
 unfold JW;rw[List.foldl_append,List.foldl_append];obtain⟨t,j,l⟩:=ain (nx:=nx) p h o C;generalize (Az g cap).foldl (lA g nx cap) y=y1 at t j l
 -- all nodes act
 have A:=qA (lA g nx cap) (λv=>[(1,v,0)]) (λv y=>SH g y/\Cc g P y/\(∀v i,v<g.2.length->i<(row g v).length->nO y.2.2 v i=[])/\∀x,x<v->x<g.2.length->P' x (at' y.1 (x:Int))) g.2.length (λv y d ⟨h,o,F,D⟩=>by
  have e:lA g nx cap y (1,v,0)=Sc g nx y v:=rfl;rw[List.foldl_cons,List.foldl_nil,e];have z:=Ra p h d o;refine⟨ZU h,Wc p h d o (λc G f v d=>E _ _ d (w c G f v d)),F,λx f r=> ?_⟩
  rw[agb h d];split
  .rename_i e;rw[e];exact w _ z.1 z.2 v d
  .exact D x V7 r) y1 ⟨t,j,l,λx f=>absurd f (Nat.not_lt_zero x)⟩
 have B:((List.range g.2.length).flatMap λv=>[(1,v,0)])=Wd g:=rfl;rw[B]at A;obtain⟨u,q,m,k⟩:=A;generalize (Wd g).foldl (lA g nx cap) y1=y2 at u q m k;obtain⟨a,_,b,c⟩:=afv (nx:=nx) (cap:=cap) p u m (λx f=>k x f f) n;exact⟨a,b,c⟩
end
end Go.Proofs.YtgciopekomcbfaaGreatDoor
namespace Go.Proofs.YtgciopekomcbfaaGreatDoor
open Go.Sx
def uG (U:Nat) (a:nM) (b:dM) (c:bE):V1 V4:=
 Option.bind (kY U ((a.1,a.2.1,a.2.2)) ((b.1,b.2)) c) λd=>(some (decide (d=(0:Int))))
theorem adW:aU prog 134:=call134
theorem Nl (U:Nat) {a:nM} {g:dM} {j:bE} (b d e f:V0) (k:mS) (i:V0) (m:lI) (r:V4) (h:uG U a g j=some r):
  a_ prog 134 #[Value.agg #[vS (a.1),b,d],Value.agg #[e,f],i] [Sl aH b a.2.1,Sl aD d a.2.2,PF (Value.agg #[vS a.1,b,d]),Sl aL e g.1,S2 aY f k g.2,S2 aL i m j] (λx:Unit=>vB (r)) (λx l=>l) (λ_ l=>l):=by
 refine a_.of func134 Z ntmps134 Z λc=>aP<|aI (aN.box (cs:=[vS (a.1),b,d]) Z Z) Z λp=>aI (aN.box (cs:=[e,f]) Z Z) Z λq=>Q5 Z<|aP<|dL 1 Z<|dL 0 Z<|aA Z<|fP h λn o h=>aI (zBk Wj (FU U b d e f k i m n o) Z (jS [0,1,2,3,4,5] Z)) Z λs=>bZ Z<|Q5 Z<|aT ?_;cases h;exact xT Z
def pI (U:Nat) (a:Int) (c:aW) (b:fY):V1 V4:=
 ck (0<=a/\a<(b.length:Int)) (Option.bind (oI U (at' b a) c) λd=>(some (d)))
theorem Wl:aU prog 136:=call136
theorem ES (U:Nat) {d:Int} {f:aW} {g:fY} (e:V0) (a:Nat) (i:V0) (j:mS) (r:V4) (h:pI U d f g=some r):
  a_ prog 136 #[vI (d),e,vP a] [Sl aL e f,bH a [i] 143,S2 aY i j g] (λx:Unit=>vB (r)) (λx l=>l) (λ_ l=>l):=by
 refine a_.of func136 Z ntmps136 Z λc=>Q4 Z<|aP<|aB (eQ Z (yQ Z) Z Z Z) Z<|aA Z<|dV h λb h=>aB (cA Z Z (DU Z) Z Z b) Z<|aB (cW Z (DU Z) Z Z b) Z<|aA Z<|fP h λk m h=>aI (zBk Wm (FV U ((at' j d).1) e k m) Z (aF.cons (zBm (DU Z) b.1 b.2) (jS [0] Z))) Z λn=>Q5 Z<|aT ?_;cases h;exact mA Z
def zU (a:Unit):V1 V4:=
 some (true)
def zV (b:Int) (a:(Int)->V1 V4) (c:Unit):V1 V4:=
 a (wI .i64 (b+(1:Int)))
def zY (b:Int) (a:(Int)->V1 V4) (c:V4):V1 V4:=
 if c=true then(some (false))else(a (wI .i64 (b+(1:Int))))
def rJ (b:Int) (a:(Int)->V1 V4) (c:Int):V1 V4:=
 zY b a (decide ((0:Int)<=c))
def uP (b:Int) (a:(Int)->V1 V4) (c:Unit):V1 V4:=
 rJ b a (-1:Int)
def BA (d:Int) (b:(Int)->V1 V4) (a:Int) (c:(Int)->V1 V4) (e:V4):V1 V4:=
 if e=true then(rJ d b (a))else(c (wI .i64 (a+(1:Int))))
def rK (U:Nat) (f:tQ) (g:fY) (c a:Int) (d:(Int)->V1 V4) (b:Int) (e:(Int)->V1 V4):V1 V4:=
 if b<((at' (at' f.2.2 c) a).length:Int)then(ck (0<=b/\b<((at' (at' f.2.2 c) a).length:Int)) (Option.bind (pI U c (at' (at' (at' f.2.2 c) a) b) g) λh=>(BA a d b e ((!h)))))else(uP a d (()))
def zX (U:Nat) (f:tQ) (e:fY) (b c:Int) (a:(Int)->V1 V4) (d:V4):V1 V4:=
 if d=true then(some (false))else(bN (rK U f e b c a) U (0:Int))
def jE (U:Nat) (g:dM) (i:Int) (d:tQ) (e:fY) (a:Int) (f:(Int)->V1 V4) (b:Int) (c:(Int)->V1 V4):V1 V4:=
 if b<((at' g.2 a).length:Int)then(ck (0<=b/\b<((at' g.2 a).length:Int)) (ck (0<=a/\a<(d.2.2.length:Int)) (ck (0<=b/\b<((at' d.2.2 a).length:Int)) (ck (0<=a/\a<(d.2.1.length:Int)) (ck (0<=b/\b<((at' d.2.1 a).length:Int)) (Option.bind (pI U ((at' (at' g.2 a) b).1) (at' (at' d.2.1 a) b) e) λh=>(if(!h)=true then(zX U d e a b c (true))else(zX U d e a b c (decide (i<((at' (at' d.2.2 a) b).length:Int)))))))))))else(zV a f (()))
def zW (U:Nat) (e:dM) (f:Int) (g:tQ) (d:fY) (b:Int) (a:(Int)->V1 V4) (c:V4):V1 V4:=
 if c=true then(some (false))else(bN (jE U e f g d b a) U (0:Int))
def fX (U:Nat) (c:dM) (f:Int) (d:tQ) (e:fY) (a:Int) (b:(Int)->V1 V4):V1 V4:=
 if a<(c.2.length:Int)then(ck (0<=a/\a<(c.2.length:Int)) (ck (0<=a/\a<(d.2.1.length:Int)) (if((at' d.2.1 a).length:Int)≠((at' c.2 a).length:Int)then(zW U c f d e a b (true))else(ck (0<=a/\a<(d.2.2.length:Int)) (zW U c f d e a b (decide (((at' d.2.2 a).length:Int)≠((at' c.2 a).length:Int))))))))else(zU (()))
def zT (U:Nat) (a:nM) (b:dM) (e:Int) (f:tQ) (d:V4):V1 V4:=
 if d=true then(some (false))else(Option.bind (gZ U ((a.1,a.2.1,a.2.2)) ((b.1,b.2))) λc=>(bN (fX U b e f c) U (0:Int)))
def uO (U:Nat) (c:nM) (a:dM) (d:Int) (b:tQ) (e:V4):V1 V4:=
 if e=true then(some (false))else(if(b.2.1.length:Int)≠(a.2.length:Int)then(zT U c a d b (true))else(zT U c a d b (decide ((b.2.2.length:Int)≠(a.2.length:Int)))))
def qC (U:Nat) (a:nM) (b:dM) (c:Int) (d:tQ):V1 V4:=
 Option.bind (uG U ((a.1,a.2.1,a.2.2)) ((b.1,b.2)) d.1) λe=>(if(!e)=true then(uO U a b c d (true))else(if c<(1:Int)then(uO U a b c d (true))else(uO U a b c d (decide ((8:Int)<c)))))
theorem aaj:aU prog 77:=call77
theorem Hm (U:Nat) {p0:nM} {p:dM} {w:Int} {v:tQ} (M N v2 L:V0) (z4:mS) (v5:V0) (z6:lI) (v7:V0) (z8:OQ) (v9:V0) (G:OP) (r:Bool) (h:qC U p0 p w v=some r):
  a_ prog 77 #[Value.agg #[vS (p0.1),M,N],Value.agg #[v2,L],vI (w),Value.agg #[v5,v7,v9]] [Sl aH M p0.2.1,Sl aD N p0.2.2,PF (Value.agg #[vS p0.1,M,N]),Sl aL v2 p.1,S2 aY L z4 p.2,S2 aL v5 z6 v.1,S3 aL v7 z8 v.2.1,S4 aL v9 G v.2.2] (λx:Unit=>vB (r)) (λx l=>l) (λ_ l=>l):=by
 let Y:=S2 aL v5 z6 v.1;let X:=S2 aY L z4 p.2;let W:=S3 aL v7 z8 v.2.1;let V:=S4 aL v9 G v.2.2;let S:=PF (Value.agg #[vS p0.1,M,N]);let K:=(p.2.length:Int)
 refine a_.of func77 Z ntmps77 Z λc=>?_;refine aP<|aI (aN.box (cs:=[vS (p0.1),M,N]) Z Z) Z λb1=>aI (aN.box (cs:=[v2,L]) Z Z) Z λb2=>aI (aN.box (cs:=[v5,v7,v9]) Z Z) Z λb3=>let k:=bH b3 [v5,v7,v9] 42;aC Z<|aM<|aK<|aK<|iA (λa5=>uO U p0 p w v a5=some r) (λa5 b6=>[(2,vI (w)),(4,vP b1),(5,vP b2),(7,vP b3),(29,vB (a5))]) (λa5 b6=>[k,bH b2 [v2,L] 28,bH b1 [vS (p0.1),M,N] 33]) ?_ ?_
 .refine aR<|dL 2 Z<|dL 1 Z<|bT Z<|dO 0 Z<|fP h λa6 bb h=>aI (zBk adW (Nl U M N v2 L z4 v5 z6 a6 bb) Z (jS [0,1,2,3,4,5] Z)) Z λbf=>aB (sI Z) Z<|aA Z ?_;refine Ef (by exact rfl) (by exact rfl) (λR=>?_) (λR=>?_)
  .have h:=SE R h;refine aQ Z<|aQ Z<|gE Z<|aA Z<|aQ Z<|aQ Z<|gE Z<|aM ?_;exact j_ (true) () h SF Z
  have h:=Qh R h;refine iP Z<|bA Z (Ft Z Z) Z<|jD Z<|aA Z ?_;refine GN h Z (λ_ h=>?_) λ_ h=>?_
  .refine aQ Z<|aQ Z<|gE Z<|aM ?_;exact j_ (true) () h SF Z
  refine iP Z<|bA Z (wM Z Z) Z<|jD Z<|aM ?_;exact j_ (decide ((8:Int)<w)) () h SF Z
 intro a5 b6 h;refine Ca h Z (λ_ h=>?_) λ_ h=>?_
 .refine aP<|aC Z<|aM<|aT<|aJ ?_;cases h;exact xT Z
 refine cQ<|aK<|aK<|iA (λa9=>zT U p0 p w v a9=some r) (λa9 ao=>[(2,vI (w)),(4,vP b1),(5,vP b2),(7,vP b3),(45,vB (a9))]) (λa9 ao=>[k,bH b2 [v2,L] 28,bH b1 [vS (p0.1),M,N] 33]) ?_ ?_
 .refine aR<|bT Z<|dO 0 Z<|aB (fN Z (JB Z) Z) Z<|bT Z<|dO 1 Z<|aB (fN Z (CN Z) Z) Z<|oZ Z<|aA Z ?_;refine GN h Z (λ_ h=>?_) λ_ h=>?_
  .refine aQ Z<|aQ Z<|aQ Z<|aQ Z<|aQ Z<|aQ Z<|aQ Z<|gE Z<|aM ?_;exact j_ (true) () h SF Z
  refine bA Z (cV Z Z Z Z Z) Z<|bA Z (eB 0 Z Z Z Z Z) Z<|bA Z (fN Z (GT Z) Z) Z<|bA Z (cV Z Z Z Z Z) Z<|bA Z (eB 1 Z Z Z Z Z) Z<|bA Z (fN Z (CN Z) Z) Z<|bA Z (Kl Z Z) Z<|jD Z<|aM ?_;exact j_ (decide ((v.2.2.length:Int)≠K)) () h SF Z
 intro a9 ao h;refine Ca h Z (λ_ h=>?_) λ_ h=>?_
 .refine aP<|aC Z<|aM<|aT<|aJ ?_;cases h;exact xT Z
 refine cQ<|aP<|dL 2 Z<|dL 1 Z<|fP h λm a7 h=>aI (zBk Lc (Ad U M N v2 L z4 m a7) Z (jS [0,1,2,3,4] Z)) Z λD=>let u:=fE bO D.2 m;let s:=Ar bI.raw D.1 D.2;aI (aN.alloc (cs:=[eV]) Z Z) Z λJ=>let ak:=Value.pointer (some ⟨J,0,none⟩);let t:=bH J [D.1] 143;bG (AA (cC (i:=1) (j:=2) Z Z bX)) λaV=>fS 0 Z Z aV Z Z Z<|aM<|aP<|aB (uB (cs:=[.tmp 9]) (vs:=[vP J]) Z) Z<|aI (aN.alloc (cs:=[Value.nilFunc]) Z Z) Z λe=>let q:=bH e [Value.func (.func 136) #[] #[vP J]] 147;fS 0 Z Z Z Z Z Z<|aM<|aK<|iA (λaa=>zU aa=some r) (λaa ap=>[]) (λaa ap=>[]) ?_ ?_
 .refine aP<|bT Z<|dO 5 Z<|aB (fN Z (CN Z) Z) Z<|aA Z<|aM<|aS<|gC (fX U p w v m) (λa aq=>[(2,vI (w)),(7,vP b3),(10,vP e),(51,L),(52,vI K),(53,vI (a))]) (λa aq=>[q,t,s,u,k]) (0:Int) () h SF (aX.ix [0,1,2,3,4] Z Z) ?_;intro a1 a aq h;let T:=((at' p.2 a).length:Int)
  let ah:=(bN (fX U p w v m) a1)
  refine aP<|dD Z<|aM<|aK ?_;refine eI h Z (λh=>?_) λh=>?_
  .refine cQ<|aK<|iA (λab=>zV a ah ab=some r) (λab ar=>[(2,vI (w)),(7,vP b3),(10,vP e),(51,L),(52,vI K),(53,vI (a))]) (λab ar=>[q,t,s,u,k]) ?_ ?_
   .refine aS<|aP<|aA Z<|dV h λf h=>aB (cA Z Z (CN Z) Z Z f) Z<|aB (cW Z (CN Z) Z Z f) Z<|aI (aN.alloc (cs:=[vI (0:Int)]) Z Z) Z λo=>let C:=bH o [vI (a)] 3;fS 0 Z Z Z Z Z Z<|aC Z<|aM<|aK<|aK<|iA (λO=>zW U p w v m a ah O=some r) (λO au=>[(2,vI (w)),(7,vP b3),(10,vP e),(11,vP o),(12,(at' z4 a).1),(51,L),(52,vI K),(53,vI (a)),(77,vB (O))]) (λO au=>[C,q,t,s,u,k]) ?_ ?_
    .refine aR<|bT Z<|dO 5 Z<|dO 0 Z<|dV h λaf h=>aB (cA Z Z (JB Z) Z Z af) Z<|aB (n_ Z (JB Z) Z Z af) Z ?_;refine aB (fN Z (eL (JB Z) af.1 af.2) Z) Z ?_;refine aA Z<|aB (iN Z (zBm (CN Z) f.1 f.2) Z) Z<|oZ Z<|aA Z ?_;refine GN h Z (λ_ h=>?_) λ_ h=>?_
     .refine aQ Z<|aQ Z<|aQ Z<|aQ Z<|aQ Z<|aQ Z<|aQ Z<|aQ Z<|aQ Z<|gE Z<|aM ?_;exact j_ (true) () h SF Z
     refine bA Z (cV Z Z Z Z Z) Z<|bA Z (eB 5 Z Z Z Z Z) Z<|bA Z (eB 0 Z Z Z Z Z) Z<|dV h λag h=>bA Z (cA Z Z (GT Z) Z Z ag) Z<|bA Z (n_ Z (GT Z) Z Z ag) Z ?_;refine bA Z (fN Z (eL (GT Z) ag.1 ag.2) Z) Z ?_;refine iP Z<|bA Z (iN Z (zBm (CN Z) f.1 f.2) Z) Z<|bA Z (Kl Z Z) Z<|jD Z<|aM ?_;exact j_ (decide (((at' v.2.2 a).length:Int)≠T)) () h SF Z
    intro O au h;refine Ca h Z (λ_ h=>?_) λ_ h=>?_
    .refine aP<|aC Z<|aM<|aT<|aJ<|bW<|aJ<|aJ<|bW<|aJ ?_;cases h;exact xT Z
    refine cQ<|aP<|aA Z<|aB (iN Z (zBm (CN Z) f.1 f.2) Z) Z<|aA Z<|aM<|aS<|gC (jE U p w v m a ah) (λb av=>[(2,vI (w)),(7,vP b3),(10,vP e),(11,vP o),(51,L),(52,vI K),(53,vI (a)),(78,(at' z4 a).1),(79,vI T),(80,vI (b))]) (λb av=>[C,q,t,s,u,k]) (0:Int) () h SF (aX.refl _) ?_;intro a2 b av h;let aj:=((at' (at' v.2.2 a) b).length:Int)
    let ai:=(at' ((at' G a).2) b)
    let F:=(bN (jE U p w v m a ah) a2)
    refine aP<|dD Z<|aM<|aK ?_;refine eI h Z (λh=>?_) λh=>?_
    .refine cQ<|aK<|aS<|aP<|aA Z<|dV h λaW h=>aB (bR Z Z (zBm (CN Z) f.1 f.2) Z Z aW) Z<|aB (gT (cs:=[vI ((at' (at' p.2 a) b).1),vI ((at' (at' p.2 a) b).2)]) Z (zBm (CN Z) f.1 f.2) bX Z Z Z Z aW) Z<|aI (aN.alloc (cs:=Uj) Z Z) Z λbd=>aC Z<|bQ 0 (vs:=[vI ((at' (at' p.2 a) b).1),vI ((at' (at' p.2 a) b).2)]) Z Z Z Z Z Z<|aM<|aP<|bT Z<|dO 6 Z<|dO 1 Z<|dV h λd h=>aB (cA Z Z (GT Z) Z Z d) Z<|aB (n_ Z (GT Z) Z Z d) Z<|aA Z<|dV h λg h=>aB (cA Z Z (eL (GT Z) d.1 d.2) Z Z g) Z ?_;refine aB (n_ Z (eL (GT Z) d.1 d.2) Z Z g) Z ?_;refine aC Z<|aM<|aK<|aK<|iA (λP=>zX U v m a b F P=some r) (λP aw=>[(2,vI (w)),(7,vP b3),(10,vP e),(11,vP o),(15,ai.1),(51,L),(52,vI K),(53,vI (a)),(78,(at' z4 a).1),(79,vI T),(80,vI (b)),(111,vB (P))]) (λP aw=>[C,q,t,s,u,k]) ?_ ?_
     .refine yP [0,0,2,0,8,0,56,120,0,504,1016,2047,4095,8191,16383,32767,16383,131071,262143] 17 mixedOrders ?_;refine gW 2 Z<|cN Z<|gW 0 Z<|cN Z<|gW 6 Z<|gW 1 Z<|dV h λy h=>bJ (lU (JB Z)) λaz=>jL Z (mI Z Z az Z Z y)<|bK Z .nil (nD 6 Z) (n_ Z (dH Z) Z Z y) aO.z<|bD Z<|dV h λae h=>bJ (lU (eL (JB Z) y.1 y.2)) λaE=>?_;refine jL Z (mI Z Z aE Z Z ae) ?_;refine bK Z .nil (nD 6 Z) (cW Z (eL (dH Z) y.1 y.2) Z Z ae) aO.z<|fP h λa4 ba h=>zBl Z Z Z (nN (vs:=[vI ((at' (at' p.2 a) b).1),(at' ((at' z8 a).2) b).1]) (cs:=[ak]) Wl Z (ES U ((at' ((at' z8 a).2) b).1) J D.1 (List.zip D.2 m) a4 ba) Z (aF.cons (zBm (eL (JB Z) y.1 y.2) ae.1 ae.2) (aF.cons (aG.res 3 Z) (aF.cons (cC (i:=4) (j:=5) Z Z bX) .nil))) (λ_ _=>rfl)) Z (λbc=>(pB [] Z)) λbc=>?_;refine jL Z (sI Z)<|jL Z (iO Z) ?_;refine JR.guard (by exact rfl) (by exact rfl) (by exact rfl) (λQ=>?_) (λQ=>?_)
      .have h:=SE Q h;refine bY Z Z Z Z<|bY Z Z Z Z<|bY Z Z Z Z<|bU 17 Z Z<|aQ Z<|gE Z<|aM ?_;exact cT (true) () h SF (aX.ix [1,2,3,4,5,6] Z Z) (aF.refl _ _)
      have h:=Qh Q h;refine gX Z .nil .nil (iO Z) (Ow Z) ?_;refine gX Z .nil (nD 7 Z) (fN Z (eL (eL (dH Z) d.1 d.2) g.1 g.2) Z) (Ow Z) ?_;refine gX Z .nil .nil (iO Z) (Ow Z)<|bU 17 Z Z<|bA Z (wM Z Z) Z<|jD Z<|aM ?_;exact cT (decide (w<aj)) () h SF (aX.ix [1,2,3,4,5,6] Z Z) (aF.refl _ _)
     intro P aw h;refine Ca h Z (λ_ h=>?_) λ_ h=>?_
     .refine aP<|aC Z<|aM<|aT<|aJ<|bW<|aJ<|aJ<|bW<|bW<|aJ<|aJ<|bW<|aJ ?_;cases h;exact xT Z
     refine cQ<|aP<|aA Z<|aB (uB (cs:=[.tmp 10,.tmp 11]) (vs:=[vP e,vP o]) Z) Z<|vY (A:=Bool) (B:=Unit) (vs:=[(at' ((at' G a).2) b).1,Value.func (.func 138) #[] #[vP e,vP o]]) (λH=>zY b F H=some r) (λH al=>vB (H)) (λH al=>[C,q,t,s,u,k]) (λH al=>[Sl aH M p0.2.1,Sl aD N p0.2.2,S,Sl aL v2 p.1,X,Y,W,V]) (nY.fn (show aU prog 80 from call80) Z) func80 Z ntmps80 Z Z ?_ ?_
     .refine aP<|aC Z<|aM<|aP<|aA Z<|aA Z<|vY (A:=Int) (B:=Unit) (vs:=[(at' ((at' G a).2) b).1,Value.func (.func 138) #[] #[vP e,vP o]]) (λE=>rJ b F E=some r) (λE am=>vI (E)) (λE am=>[C,q,t,s,u,k]) (λE am=>[Sl aH M p0.2.1,Sl aD N p0.2.2,S,Sl aL v2 p.1,X,Y,W,V]) (nY.fn (show aU prog 139 from call139) Z) func139 Z ntmps139 Z Z ?_ ?_
      .refine aP<|aC Z<|aM<|aK<|iA (λac=>uP b F ac=some r) (λac ax=>[]) (λac ax=>[C,q,t,s,u,k]) ?_ ?_
       .refine aP<|aA Z ?_;refine aB (fN Z (eL (eL (GT Z) d.1 d.2) g.1 g.2) Z) Z ?_;refine aA Z<|aM<|aS<|gC (rK U v m a b F) (λn ay=>[(0,ai.1),(1,Value.func (.func 138) #[] #[vP e,vP o]),(7,vI aj),(8,vI (n))]) (λn ay=>[C,q,t,s,u,k]) (0:Int) () h SF (aX.refl _) ?_;intro a3 n ay h;refine aP<|dD Z<|aM<|aK ?_;refine eI h Z (λh=>?_) λh=>?_
        .refine cQ<|aK<|aS<|aP<|aA Z<|aC Z<|aM<|aP<|aA Z<|aA Z<|aA Z<|dV h λad h=>aB (cA Z Z (eL (eL (GT Z) d.1 d.2) g.1 g.2) Z Z ad) Z ?_;refine aB (cW Z (eL (eL (GT Z) d.1 d.2) g.1 g.2) Z Z ad) Z ?_;refine vY (A:=Bool) (B:=Unit) (vs:=[(at' ((at' ((at' G a).2) b).2) n).1,vP e,vP o]) (λI=>BA b F n (bN (rK U v m a b F) a3) I=some r) (λI an=>vB (I)) (λI an=>[C,q,t,s,u,k]) (λI an=>[Sl aH M p0.2.1,Sl aD N p0.2.2,S,Sl aL v2 p.1,X,Y,W,V]) (NQ (us:=[(at' (ai.2) n).1]) (cs:=[vP e,vP o]) (show aU prog 138 from call138) Z Z Z) func138 Z ntmps138 Z Z ?_ ?_
         .refine aP<|aC Z<|aM<|aP<|dO 1 Z<|dO 0 Z<|aA Z<|fP h λa0 a8 h=>aI (nN (vs:=[vI (a),(at' ((at' ((at' G a).2) b).2) n).1]) (cs:=[ak]) Wl Z (ES U ((at' (ai.2) n).1) J D.1 (List.zip D.2 m) a0 a8) Z (aF.cons (zBm (eL (eL (GT Z) d.1 d.2) g.1 g.2) ad.1 ad.2) (aF.cons (aG.res 2 Z) (aF.cons (cC (i:=3) (j:=4) Z Z bX) .nil))) (λ_ _=>rfl)) Z λbe=>?_;refine aB (sI Z) Z<|aC Z<|aM<|aT ?_;exact jN ((!a0)) () h (.inl Z) (CO.r1 Z (RV.tmp Z)) Z (aX.refl _) (aF.refl _ _)
         intro I an h;refine aM ?_;refine Ca h Z (λ_ h=>?_) λ_ h=>?_
         .refine aP<|aA Z<|aC Z<|aM<|aT<|bW<|aJ<|aJ<|bW<|aJ ?_;exact jN (n) () h (.inl Z) (CO.r1 Z (RV.tmp Z)) Z (aX.refl _) (aF.refl _ _)
         refine eP<|m_<|aR<|cU Z<|aA Z<|aM ?_;exact BD (wI .i64 (n+(1:Int))) () h SF Z
        refine fO ?_;exact j_ () (()) h SF Z
       intro ac ax h;unfold uP at h;refine aP<|aC Z<|aM<|aT ?_;exact jN (-1:Int) () h (.inl Z) (CO.r1 Z (RV.tmp Z)) Z (aX.refl _) (aF.refl _ _)
      intro E am h;unfold rJ at h;refine aB (CV Z Z) Z<|aC Z<|aM<|aT ?_;exact jN (decide ((0:Int)<=E)) () h (.inl Z) (CO.r1 Z (RV.tmp Z)) Z (aX.refl _) (aF.refl _ _)
     intro H al h;refine aM ?_;refine Ca h Z (λ_ h=>?_) λ_ h=>?_
     .refine aP<|aC Z<|aM<|aT<|bW<|aJ<|aJ<|bW<|bW<|aJ<|aJ<|bW<|aJ ?_;cases h;exact xT Z
     refine eP<|m_<|aR<|cU Z<|aA Z<|aM ?_;exact BD (wI .i64 (b+(1:Int))) () h SF Z
    refine tB<|fT<|fT<|Aj<|m_ ?_;exact cT () (()) h SF (aX.ix [1,2,3,4,5] Z Z) (aF.refl _ _)
   intro ab ar h;unfold zV at h;refine aR<|cU Z<|aA Z<|aM ?_;exact BD (wI .i64 (a+(1:Int))) () h SF Z
  refine fO ?_;exact cT () (()) h SF .nil (aF.refl _ _)
 intro aa ap h;unfold zU at h;refine aP<|aC Z<|aM<|aT ?_;cases h;exact mA Z
end Go.Proofs.YtgciopekomcbfaaGreatDoor
namespace Go.Proofs.YtgciopekomcbfaaGreatDoor
open Go Go.Sx
def Dn (n:Nat) (b:Nat->V4):V4:=(List.range n).all b
theorem pS {n:Nat} {b:Nat->V4}:Dn n b=true↔∀k,k<n->b k=true:=by simp[Dn]
theorem Sd {n:Nat} {b:Nat->V4} (h:¬Dn n b=true):∃m,m<n/\b m=false/\∀j,j<m->b j=true:=by
 have g:∃k,k<n/\b k=false:=Classical.byContradiction λq=>h (pS.2 λk a=>by
  cases e:b k
  .exact absurd ⟨k,a,e⟩ q
  .rfl)
 obtain⟨k,a,e⟩:=g;obtain⟨m,i,c,d⟩:=least (p:=λk=>b k=false) k e;exact⟨m,V7,c,λj f=>by
  cases e:b j
  .exact absurd e (d j f)
  .rfl⟩
theorem zB {B:Type} {n:Nat} {b:Nat->V4} {a:Int->(Int->V1 B)->V1 B} {z:B} {K:V1 B}
  (e:∀(k:Nat) c,k<n->a (k:Int) c=if b k=true then c ((k+1:Nat):Int)else some z) (l:∀c,a (n:Int) c=K) (o:n<1000):bN a 1000 0=if Dn n b=true then K else some z:=by
 by_cases h:Dn n b=true
 .rw[if_pos h];have f:=pS.1 h;exact dZ n (λk=>(k:Int)) (λk c d=>by rw[e k c d,if_pos (f k d)]) l 1000 o
 .rw[if_neg h];obtain⟨m,g,i,j⟩:=Sd h;exact dZ m (λk=>(k:Int)) (λk c d=>by rw[e k c V7,if_pos (j k d)]) (λc=>by rw[e m c g,if_neg (by rw[i];decide)]) 1000 V7
theorem ifB (b:V4):(if b=true then some true else some false)=some b:=by cases b<;>rfl
def GW (g:GR) (a:V6 xF) (v:Nat) (l:aW):V4:=decide (l.length=a.length)&&Dn a.length λx=>decide ((pT g a v x).1<=at' l (x:Int)/\at' l (x:Int)<=(pT g a v x).2)
def cfB (g:GR) (a:V6 xF) (c:bE):V4:=decide (c.length=g.2.length)&&Dn g.2.length λv=>GW g a v (at' c (v:Int))
section
variable {g:GR} {vars:V6 xF} {p:tC}
theorem acx (i:vars.length<=20) (v:Nat) (l:V6 Int):oI 1000 (CP g vars v) l=some (GW g vars v l):=by
 have c:(CP g vars v).length=vars.length:=by simp[CP]
 unfold oI GW;by_cases h:l.length=vars.length
 .rw[if_neg (by rw[c,h];simp),zAd h,zB9,<-ifB];refine zB (λk d f=> ?_) (λd=> ?_) V7
  .have e:at' (CP g vars v) (k:Int)=pT g vars v k:=wV _ f;unfold lH sR;rw[Q3,Q7,Q7,e];by_cases a:at' l (k:Int)<(pT g vars v k).1
   .rw[if_pos a,if_pos Z,if_neg (by rw[zA1];omega)]
   .rw[if_neg a,Q7];by_cases b:(pT g vars v k).2<at' l (k:Int)
    .rw[zAd b,if_pos Z,if_neg (by rw[zA1];omega)]
    .rw[zA8 b,if_neg Q2,if_pos (by rw[zA1];omega),Q8]
  .unfold lH sQ;rw[Q0]
 .rw[if_pos (by rw[c];omega),zA8 h,Bool.false_and]
theorem ahy (a:VG g) (b:lV g p.2.1) (c:V6 (V6 Int)):kY 1000 p g c=some (if cfB g p.2.1 c=true then 0 else 10):=by
 have f:=a.n24;have d:(tP g p.2.1).length=g.2.length:=by simp[tP]
 unfold kY;rw[bF (show nQ 1000 _ _=some 0 from PX a b),if_neg Q2,bF (show gZ 1000 _ _=_ from FZ a b)];have:pG 1000 (tP g p.2.1) c=some (cfB g p.2.1 c):=by
  unfold pG cfB;by_cases h:c.length=g.2.length
  .rw[if_neg (by rw[d,h];simp),zAd h,zB9,<-ifB];refine zB (λk e i=> ?_) (λe=> ?_) V7
   .have j:at' (tP g p.2.1) (k:Int)=CP g p.2.1 k:=wV _ i;unfold lZ;rw[Q3,Q7,Q7,j,bF (acx b.len k _),Q8];cases GW g p.2.1 k (at' c (k:Int))<;>rfl
   .unfold lZ rA;rw[Q0]
  .rw[if_pos (by rw[d];omega),zA8 h,Bool.false_and]
 rw[bF this];cases cfB g p.2.1 c<;>rfl
theorem abB (a:VG g) (b:lV g p.2.1) (c:V6 (V6 Int)):uG 1000 p g c=some (cfB g p.2.1 c):=by
 unfold uG;rw[bF (show kY 1000 _ _ _=_ from ahy a b c)];cases cfB g p.2.1 c<;>rfl
end
def wiB (g:GR) (a:V6 xF) (b:Int) (y:yV) (v i:Nat):V4:=GW g a (sF g v i) (nO y.2.1 v i)&&(decide (((nO y.2.2 v i).length:Int)<=b)&&Dn (nO y.2.2 v i).length λk=>GW g a v (at' (nO y.2.2 v i) (k:Int)))
def rvB (g:GR) (a:V6 xF) (b:Int) (y:yV) (v:Nat):V4:=decide ((at' y.2.1 (v:Int)).length=(row g v).length)&&(decide ((at' y.2.2 (v:Int)).length=(row g v).length)&&Dn (row g v).length (wiB g a b y v))
def YZ (g:GR) (a:V6 xF) (b:Int) (y:yV):V4:=cfB g a y.1&&(decide (1<=b/\b<=8)&&(decide (y.2.1.length=g.2.length)&&(decide (y.2.2.length=g.2.length)&&Dn g.2.length (rvB g a b y))))
section
variable {g:GR} {p:tC}
theorem TU (hV:VG g) (hp:lV g p.2.1) (cap:Int) (y:yV):qC 1000 p g cap y=some (YZ g p.2.1 cap y):=by
 have h24:=hV.n24;have ht:(tP g p.2.1).length=g.2.length:=by simp[tP]
 have one:∀(v:Nat) (l:List Int),v<g.2.length->pI 1000 (v:Int) l (tP g p.2.1)=some (GW g p.2.1 v l):=λv l hv=>by
  have hr:at' (tP g p.2.1) (v:Int)=CP g p.2.1 v:=wV _ hv;unfold pI;rw[cR (by omega),hr,bF (acx hp.len v l)]
 unfold qC YZ;rw[bF (show uG 1000 _ _ _=_ from abB hV hp y.1)];cases hc:cfB g p.2.1 y.1
 .rfl
 rw[if_neg (by decide),zB9];by_cases h1:cap<1
 .rw[if_pos h1,zA8 (p:=1<=cap/\cap<=8) (by omega)];rfl
 rw[if_neg h1];by_cases h2:8<cap
 .rw[zAd h2,zA8 (p:=1<=cap/\cap<=8) (by omega)];rfl
 rw[zA8 h2,zAd (p:=1<=cap/\cap<=8) (by omega),zB9];unfold uO;rw[if_neg (by decide)];by_cases h3:y.2.1.length=g.2.length
 rotate_left
 .rw[if_pos (by omega),zA8 h3];rfl
 rw[if_neg (by omega),zAd h3,zB9];by_cases h4:y.2.2.length=g.2.length
 rotate_left
 .rw[zA8 h4,show decide ((y.2.2.length:Int)≠(g.2.length:Int))=true from zAd (by omega)];rfl
 rw[zAd h4,zB9,show decide ((y.2.2.length:Int)≠(g.2.length:Int))=false from zA8 (by omega)];unfold zT;rw[if_neg (by decide),bF (show gZ 1000 _ _=_ from FZ hV hp),<-ifB];refine zB (λv ag hv=> ?_) (λag=> ?_) (by omega)
 rotate_left
 .unfold fX zU;rw[if_neg (by omega)]
 have hdeg:=(hV.node v hv).deg;have hrow:at' g.2 (v:Int)=row g v:=rfl;unfold fX rvB;rw[if_pos (by omega),cR (by omega),cR (by omega),hrow];by_cases h5:(at' y.2.1 (v:Int)).length=(row g v).length
 rotate_left
 .rw[if_pos (by omega),zA8 h5,Bool.false_and,if_neg (by decide)];rfl
 rw[if_neg (by omega),cR (by omega),zAd h5,zB9];by_cases h6:(at' y.2.2 (v:Int)).length=(row g v).length
 rotate_left
 .rw[zA8 h6,Bool.false_and,if_neg (by decide),show decide (((at' y.2.2 (v:Int)).length:Int)≠((row g v).length:Int))=true from zAd (by omega)];rfl
 rw[zAd h6,zB9,show decide (((at' y.2.2 (v:Int)).length:Int)≠((row g v).length:Int))=false from zA8 (by omega)];unfold zW;rw[if_neg (by decide)];refine zB (λi ag2 hi=> ?_) (λag2=> ?_) (by omega)
 rotate_left
 .unfold jE zV;rw[hrow,if_neg (by omega),dC (by omega)]
 have hto:=Ct hV hv hi;have hul:=(wT hV hv hi).ul;have hl1:at' (row g v) (i:Int)=iU (row g v) i:=rfl;unfold jE wiB;rw[hrow,if_pos (by omega),cR (by omega),cR (by omega),cR (by omega),cR (by omega),cR (by omega),hl1,hto,bF (one _ _ hul)];have e1:at' (at' y.2.1 (v:Int)) (i:Int)=nO y.2.1 v i:=rfl;have e2:at' (at' y.2.2 (v:Int)) (i:Int)=nO y.2.2 v i:=rfl;rw[e1,e2];cases GW g p.2.1 (sF g v i) (nO y.2.1 v i)
 .rfl
 rw[if_neg (by decide),zB9];unfold zX;by_cases h7:((nO y.2.2 v i).length:Int)<=cap
 rotate_left
 .rw[zA8 h7,Bool.false_and,if_pos (by rw[zA1];omega),if_neg (by decide)]
 rw[zAd h7,zB9,if_neg (by rw[zA1];omega)];have key:bN (rK 1000 y (tP g p.2.1) (v:Int) (i:Int) ag2) 1000 0=if Dn (nO y.2.2 v i).length (λk=>GW g p.2.1 v (at' (nO y.2.2 v i) (k:Int)))=true then uP (i:Int) ag2 ()else some false:=by
  refine zB (λk ag3 hk=> ?_) (λag3=> ?_) (by omega)
  .unfold rK;rw[e2,if_pos (by omega),cR (by omega),bF (show pI 1000 _ _ _=_ from one v _ hv)];unfold BA;cases GW g p.2.1 v (at' (nO y.2.2 v i) (k:Int))
   .rw[if_pos (by decide),if_neg (by decide)];unfold rJ zY;rw[if_pos (by rw[zA1];omega)]
   .rw[if_neg (by decide),if_pos (by decide),dC (by omega)]
  .unfold rK;rw[e2,if_neg (by omega)]
 refine key.trans ?_;unfold uP rJ zY;rw[if_neg (show¬decide ((0:Int) <= -1)=true by decide),dC (by omega)]
end
end Go.Proofs.YtgciopekomcbfaaGreatDoor
namespace Go.Proofs.YtgciopekomcbfaaGreatDoor
open Go.Sx
def uQ (U:Nat) (a:nM) (d:dM) (f:Int) (b:tQ) (e:V4):V1 (Int):=
 if e=true then(some (2:Int))else(Option.bind (qC U ((a.1,a.2.1,a.2.2)) ((d.1,d.2)) f ((b.1,b.2.1,b.2.2))) λc=>(if(!c)=true then(some (7:Int))else(some (0:Int))))
def wQ (U:Nat) (a:nM) (b:dM) (c:Int) (d:tQ):V1 (Int):=
 Option.bind (nQ U ((a.1,a.2.1,a.2.2)) ((b.1,b.2))) λe=>(if e≠(0:Int)then(some (e))else(if c<(1:Int)then(uQ U a b c d (true))else(uQ U a b c d (decide ((8:Int)<c)))))
theorem ahm:aU prog 67:=call67
theorem NK (U:Nat) {p0:nM} {p1:dM} {p2:Int} {i:tQ} (a b d e:V0) (q:mS) (j:V0) (v:lI) (k:V0) (w:OQ) (m:V0) (n:OP) (r:Int) (h:wQ U p0 p1 p2 i=some r):
  a_ prog 67 #[Value.agg #[vS (p0.1),a,b],Value.agg #[d,e],vI (p2),Value.agg #[j,k,m]] [Sl aH a p0.2.1,Sl aD b p0.2.2,PF (Value.agg #[vS p0.1,a,b]),Sl aL d p1.1,S2 aY e q p1.2,S2 aL j v i.1,S3 aL k w i.2.1,S4 aL m n i.2.2] (λx:Unit=>vI (r)) (λx l=>l) (λ_ l=>l):=by
 refine a_.of func67 Z ntmps67 Z λc=>aP<|aI (aN.box (cs:=[vS (p0.1),a,b]) Z Z) Z λs=>aI (aN.box (cs:=[d,e]) Z Z) Z λt=>aI (aN.box (cs:=[j,k,m]) Z Z) Z λu=>Q5 Z<|aK<|aP<|dL 2 Z<|dL 1 Z<|fP h λy z h=>aI (zBk Wi (Hl U a b d e q y z) Z (jS [0,1,2,3,4] Z)) Z λB=>Q5 Z<|Q6 Z<|oZ Z<|aM<|eI h Z (λh=>?_) λh=>?_
 .refine Q6 Z<|Q5 Z<|aT<|aJ ?_;cases h;exact xT Z
 refine cQ<|aK<|aK<|iA (λf=>uQ U p0 p1 p2 i f=some r) (λf g=>[(2,vI (p2)),(4,vP s),(5,vP t),(7,vP u),(21,vB (f))]) (λf g=>[bH u [j,k,m] 42,bH t [d,e] 28,bH s [vS (p0.1),a,b] 33]) ?_ ?_
 .refine aR<|aA Z<|dD Z<|aA Z<|GN h Z (λ_ h=>?_) λ_ h=>?_
  .exact aQ Z<|aQ Z<|gE Z<|aM<|j_ (true) () h SF Z
  exact iP Z<|bA Z (wM Z Z) Z<|jD Z<|aM<|j_ (decide ((8:Int)<p2)) () h SF Z
 intro f g h;refine Ca h Z (λ_ h=>?_) λ_ h=>?_
 .refine Q4 Z<|aT<|aJ ?_;cases h;exact xT Z
 refine cQ<|aK<|aP<|dL 2 Z<|dL 1 Z<|aA Z<|dL 0 Z<|fP h λo p h=>aI (zBk aaj (Hm U a b d e q j v k w m n o p) Z (jS [0,1,2,3,4,5,6,7] Z)) Z λA=>aB (sI Z) Z<|aM<|Ca h Z (λ_ h=>?_) λ_ h=>?_
 .refine Q4 Z<|aT<|aJ ?_;cases h;exact xT Z
 refine cQ<|Q4 Z<|aT ?_;cases h;exact xT Z
def yC (a:fY×Int×bE) (b:tQ):V1 Ed:=
 some (a.1,a.2.1,b.1,a.2.2,b.2.1,b.2.2)
def sD (b:fY×Int×bE) (c:bE) (a:V6 bE×V6 (V6 bE)):V1 Ed:=
 yC b (c,a.1,a.2)
def yD (a:IY) (c:Nq->V1 Ed) (d:bE) (b:Bm):V1 Ed:=
 ck ((a.2.2.length:Int)+(List.length ([b]):Int)<=1099511627) (c ((wI .i64 (a.1+(1:Int))),(a.2.1++[d]),(a.2.2++[b])))
def oM (U:Nat) (f:tQ) (b:IY) (e:Nq->V1 Ed) (g:bE) (a:V6 bE×Int) (d:(V6 bE×Int)->V1 Ed):V1 Ed:=
 if a.2<((at' f.2.2 b.1).length:Int)then(ck (0<=a.2/\a.2<((at' f.2.2 b.1).length:Int)) (Option.bind (mF U (at' (at' f.2.2 b.1) a.2)) λc=>(ck ((a.1.length:Int)+(List.length ([c]):Int)<=1099511627) (d ((a.1++[c]),(wI .i64 (a.2+(1:Int))))))))else(yD b e g (a.1))
def kJ (U:Nat) (c:tQ) (e:fY×Int×bE) (f:bE) (a:IY) (b:Nq->V1 Ed):V1 Ed:=
 if a.1<(c.2.1.length:Int)then(ck (0<=a.1/\a.1<(c.2.1.length:Int)) (Option.bind (mF U (at' c.2.1 a.1)) λd=>(ck ((a.2.1.length:Int)+(List.length ([d]):Int)<=1099511627) (ck (0<=a.1/\a.1<(c.2.2.length:Int)) (bN (oM U c a b d) U (([]:Bm),(0:Int)))))))else(sD e f (a.2.1,a.2.2))
def sC (U:Nat) (c:tQ) (a:fY×Int×bE):V1 Ed:=
 Option.bind (mF U c.1) λb=>(bN (kJ U c a b) U ((0:Int),([]:Bm),([]:Gf)))
def sE (U:Nat) (c:nM) (d:dM) (e:tQ) (a:Dj):V1 Ed:=
 Option.bind (gZ U ((c.1,c.2.1,c.2.2)) ((d.1,d.2))) λb=>(sC U e (b,a.1,a.2))
def oL (U:Nat) (b:nM) (c:dM) (d:tQ) (a:Dj):V1 Ed:=
 sE U b c d (a.1,a.2)
def yE (d:dM) (a:Int×Int×bE) (b:Hr->V1 Ed) (c:bE):V1 Ed:=
 b ((wI .i64 (a.1+(1:Int))),(max a.2.1 (at' d.1 a.1)),c)
def yF (U:Nat) (f:dM) (a:Int×Int×bE) (d:Hr->V1 Ed) (b:Dj) (e:(Int×bE)->V1 Ed):V1 Ed:=
 if b.1<((at' f.2 a.1).length:Int)then(ck (0<=b.1/\b.1<((at' f.2 a.1).length:Int)) (ck (0<=a.1/\a.1<(b.2.length:Int)) (Option.bind (jY U ((f.1,f.2)) ((at' (at' f.2 a.1) b.1).1) a.1) λc=>(ck (((at' b.2 a.1).length:Int)+(List.length ([c]):Int)<=1099511627) (ck (0<=a.1/\a.1<((List.set b.2 (Int.toNat a.1) ((at' b.2 a.1)++[c])).length:Int)) (e ((wI .i64 (b.1+(1:Int))),(List.set b.2 (Int.toNat a.1) ((at' b.2 a.1)++[c])))))))))else(yE f a d (b.2))
def oO (U:Nat) (d:nM) (c:dM) (e:tQ) (a:Int×Int×bE) (b:Hr->V1 Ed):V1 Ed:=
 if a.1<(c.2.length:Int)then(ck (0<=a.1/\a.1<(c.2.length:Int)) (ck (0<=a.1/\a.1<(c.1.length:Int)) (bN (yF U c a b) U ((0:Int),a.2.2))))else(oL U d c e (a.2.1,a.2.2))
def kZ (U:Nat) (b:nM) (a:dM) (d:Int) (c:tQ):V1 Ed:=
 ck (0<=(a.2.length:Int)/\(a.2.length:Int)<=1099511627) (bN (oO U b a c) U ((0:Int),(0:Int),(List.replicate (Int.toNat (a.2.length:Int)) ([]:aW))))
theorem aah:aU prog 68:=call68
theorem Df (U:Nat) {p0:nM} {p1:dM} {p2:Int} {E:tQ} (m n s p:V0) (z4:mS) (L:V0) (z6:lI) (P:V0) (z8:OQ) (Q:V0) (W:OP) (r:Gd) (h:kZ U p0 p1 p2 E=some r):
  a_ prog 68 #[Value.agg #[vS (p0.1),m,n],Value.agg #[s,p],vI (p2),Value.agg #[L,P,Q]] [Sl aH m p0.2.1,Sl aD n p0.2.2,PF (Value.agg #[vS p0.1,m,n]),Sl aL s p1.1,S2 aY p z4 p1.2,S2 aL L z6 E.1,S3 aL P z8 E.2.1,S4 aL Q W E.2.2] (λg:Nat×Nat×V0×V0×V0×List V0×Nat×V0×List V0×V0×List V0×List V0×List (List V0)×List V0×List (List V0)×List (List (List V0))=>vP g.1) (λg l=>bH g.1 [s,p,vI (p2),vP g.2.1,g.2.2.1,g.2.2.2.1,g.2.2.2.2.1] 84::Ar bI.raw g.2.2.1 g.2.2.2.2.2.1::bH g.2.1 [vS (p0.1),m,n,vP g.2.2.2.2.2.2.1,g.2.2.2.2.2.2.2.1] 180::Ar bI.raw g.2.2.2.2.2.2.2.1 g.2.2.2.2.2.2.2.2.1::fE bO g.2.2.2.2.2.2.2.2.1 r.1::bH g.2.2.2.2.2.2.1 [vS (p0.1),m,n,s,p,vI (r.2.1),g.2.2.2.2.2.2.2.2.2.1] 225::Ar bI.raw g.2.2.2.2.2.2.2.2.2.1 g.2.2.2.2.2.2.2.2.2.2.1::Ar bI.raw g.2.2.2.1 g.2.2.2.2.2.2.2.2.2.2.2.1::fE bI.raw g.2.2.2.2.2.2.2.2.2.2.2.1 g.2.2.2.2.2.2.2.2.2.2.2.2.1::Ar bI.raw g.2.2.2.2.1 g.2.2.2.2.2.2.2.2.2.2.2.2.2.1::AJ bI.raw g.2.2.2.2.2.2.2.2.2.2.2.2.2.1 g.2.2.2.2.2.2.2.2.2.2.2.2.2.2.1 g.2.2.2.2.2.2.2.2.2.2.2.2.2.2.2::l) (λg l=>sW aL g.2.2.2.2.2.1 r.2.2.1::sW aL g.2.2.2.2.2.2.2.2.2.2.1 r.2.2.2.1::Dl aL g.2.2.2.2.2.2.2.2.2.2.2.2.1 r.2.2.2.2.1::Gm aL g.2.2.2.2.2.2.2.2.2.2.2.2.2.2.2 r.2.2.2.2.2::l):=by
 refine a_.of func68 Z ntmps68 Z λc=>?_;refine aP<|aI (aN.box (cs:=[vS (p0.1),m,n]) Z Z) Z λS=>aI (aN.box (cs:=[s,p]) Z Z) Z λT=>aI (aN.box (cs:=[L,P,Q]) Z Z) Z λV=>aC Z<|aM<|aK ?_;refine yP [0,0,0,0,12,0,60,127,255,511] 7 mixedOrders ?_;refine nP 1 Z<|bD Z<|nP 2 Z<|nP 1 Z<|Gk (A:=fY×Int×bE) (B:=Nat×Nat×V0×List V0×V0×List V0) (vs:=[Value.agg #[vS (p0.1),m,n],Value.agg #[s,p]]) (λo=>sC U E o=some r) (λo a=>vP a.1) (λo a=>[bH a.1 [vS (p0.1),m,n,vP a.2.1,a.2.2.1] 180,Ar bI.raw a.2.2.1 a.2.2.2.1,fE bO a.2.2.2.1 o.1,bH a.2.1 [vS (p0.1),m,n,s,p,vI (o.2.1),a.2.2.2.2.1] 225,Ar bI.raw a.2.2.2.2.1 a.2.2.2.2.2,fE dW a.2.2.2.2.2 o.2.2,bH V [L,P,Q] 42,bH T [s,p] 28,bH S [vS (p0.1),m,n] 33]) (λo a=>[Sl aH m p0.2.1,Sl aD n p0.2.2,PF (Value.agg #[vS p0.1,m,n]),Sl aL s p1.1,S2 aY p z4 p1.2,S2 aL L z6 E.1,S3 aL P z8 E.2.1,S4 aL Q W E.2.2]) Z Z Z (nY.fn (show aU prog 116 from call116) Z) func116 Z ntmps116 Z Z (λ_ _=>(pB [([7],[])] Z)) ?_ ?_
 .refine aP<|aI (aN.box (cs:=[vS (p0.1),m,n]) Z Z) Z λaf=>aI (aN.box (cs:=[s,p]) Z Z) Z λag=>aC Z<|aM<|aK ?_;refine yP [0,0,0,6,0,0,62,127,255,511] 7 mixedOrders ?_;refine nP 1 Z<|nP 1 Z<|nP 0 Z<|Gk (A:=Dj) (B:=Nat×V0×List V0) (vs:=[Value.agg #[vS (p0.1),m,n],Value.agg #[s,p]]) (λI=>sE U p0 p1 E I=some r) (λI y=>vP y.1) (λI y=>[bH y.1 [vS (p0.1),m,n,s,p,vI (I.1),y.2.1] 225,Ar bI.raw y.2.1 y.2.2,fE dW y.2.2 I.2,bH ag [s,p] 28,bH af [vS (p0.1),m,n] 33,bH V [L,P,Q] 42,bH T [s,p] 28,bH S [vS (p0.1),m,n] 33]) (λI y=>[Sl aH m p0.2.1,Sl aD n p0.2.2,PF (Value.agg #[vS p0.1,m,n]),Sl aL s p1.1,S2 aY p z4 p1.2,S2 aL L z6 E.1,S3 aL P z8 E.2.1,S4 aL Q W E.2.2]) Z Z Z (nY.fn (show aU prog 169 from call169) Z) func169 Z ntmps169 Z Z (λ_ _=>(pB [([4],[])] Z)) ?_ ?_
  .refine aP<|aI (aN.box (cs:=[vS (p0.1),m,n]) Z Z) Z λb3=>aI (aN.box (cs:=[s,p]) Z Z) Z λaa=>aC Z<|aM<|aK ?_;refine yP [0,0,0,4,12,28,63,127,255] 6 mixedOrders ?_;refine nP 1 Z<|nP 0 Z<|cN Z<|gW 0 Z<|bK Z .nil (nD 4 Z) (fN Z (dH Z) Z) aO.z<|dV h λbw h=>zBn (yJ dW (Int.toNat (p1.2.length:Int)))<|zBl Z Z Z (tZ (e:=bI.raw) (eV) Z Z Z Z bw Z Z Z) Z (λG=>(pB [([2],[]),([3],[])] Z)) λG=>bU 6 Z Z<|bG (AA (cC (i:=0) (j:=1) Z Z fG)) λbm=>?_;refine aB (LR (r:=Value.agg #[vS (p0.1),m,n,s,p,vI (0:Int),G]) Z Z Z (by intro w;simp[Instr.build,Instr.fill,cY,cI,cD,cZ,c_,cJ,dU,f_ bm])) Z ?_;refine aI (aN.box (cs:=[vS (p0.1),m,n,s,p,vI (0:Int),G]) Z Z) Z λJ=>aC Z<|aM<|aK<|Ez (B:=e_) (λM=>oL U p0 p1 E M=some r) (λM ah=>[(5,vP J)]) (λM ah=>[bH J [vS (p0.1),m,n,s,p,vI (M.1),G] 225,Ar bI.raw G ah,fE dW ah M.2,bH ag [s,p] 28,bH af [vS (p0.1),m,n] 33,bH V [L,P,Q] 42,bH T [s,p] 28,bH S [vS (p0.1),m,n] 33]) ?_ ?_
   .refine aP<|bT Z<|dO 3 Z<|aB (fN Z (CN Z) Z) Z<|aA Z<|aM<|aS<|gC (B:=e_) (oO U p0 p1 E) (λd ab=>[(3,vP aa),(5,vP J),(19,p),(20,vI (p1.2.length:Int)),(21,vI (d.1))]) (λd ab=>[bH J [vS (p0.1),m,n,s,p,vI (d.2.1),G] 225,Ar bI.raw G ab,fE dW ab d.2.2,bH aa [s,p] 28,bH ag [s,p] 28,bH af [vS (p0.1),m,n] 33,bH V [L,P,Q] 42,bH T [s,p] 28,bH S [vS (p0.1),m,n] 33]) ((0:Int),(0:Int),(List.replicate (Int.toNat (p1.2.length:Int)) ([]:aW))) (List.replicate (Int.toNat (p1.2.length:Int)) (eV)) h SF (aX.ix [0,1,2,3,5,6,7,8,9] Z Z) ?_;intro bc d ab h;refine aP<|dD Z<|aM<|aK ?_;refine eI h Z (λh=>?_) λh=>?_
    .refine cQ<|aK<|Ez (B:=e_) (λY=>yE p1 d (bN (oO U p0 p1 E) bc) Y=some r) (λY ai=>[(3,vP aa),(5,vP J),(19,p),(20,vI (p1.2.length:Int)),(21,vI (d.1))]) (λY ai=>[bH J [vS (p0.1),m,n,s,p,vI (max d.2.1 (at' p1.1 d.1)),G] 225,Ar bI.raw G ai,fE dW ai Y,bH aa [s,p] 28,bH ag [s,p] 28,bH af [vS (p0.1),m,n] 33,bH V [L,P,Q] 42,bH T [s,p] 28,bH S [vS (p0.1),m,n] 33]) ?_ ?_
     .refine aS<|aP<|aA Z<|dV h λN h=>aB (cA Z Z (CN Z) Z Z N) Z<|aB (cW Z (CN Z) Z Z N) Z<|aC Z<|aC Z<|aM<|aK ?_;refine yP [0,0,2,6,14,0,32,0,224,480,1022,2047,4095,8191] 11 mixedOrders ?_;refine bD Z<|bD Z<|jL Z (bL Z)<|cN Z<|gW 0 Z<|cN Z<|gW 3 Z<|bD Z<|dV h λba h=>bK Z .nil (nD 3 Z) (bR Z Z (dH Z) Z Z ba) aO.z<|bK Z .nil (nD 3 Z) (cK Z (dH Z) Z Z Z gF ba) aO.z<|jL Z (LU Z Z)<|bU 11 Z Z<|aB (bL Z) Z<|bT Z<|fS 0 Z Z Z Z Z Z<|aM<|aP<|aA Z<|aB (iN Z (zBm (CN Z) N.1 N.2) Z) Z<|aA Z<|aM<|aS<|gC (B:=e_) (yF U p1 d (bN (oO U p0 p1 E) bc)) (λF ac=>[(3,vP aa),(5,vP J),(6,vI (d.1)),(19,p),(20,vI (p1.2.length:Int)),(21,vI (d.1)),(39,(at' z4 d.1).1),(40,vI ((at' p1.2 d.1).length:Int)),(41,vI (F.1))]) (λF ac=>[bH J [vS (p0.1),m,n,s,p,vI (max d.2.1 (at' p1.1 d.1)),G] 225,Ar bI.raw G ac,fE dW ac F.2,bH aa [s,p] 28,bH ag [s,p] 28,bH af [vS (p0.1),m,n] 33,bH V [L,P,Q] 42,bH T [s,p] 28,bH S [vS (p0.1),m,n] 33]) ((0:Int),d.2.2) (ab) h SF (aX.refl _) ?_;intro b6 F ac h;refine aP<|dD Z<|aM<|aK ?_;refine eI h Z (λh=>?_) λh=>?_
      .refine cQ<|aK<|aS<|aP<|dV h λbb h=>aB (bR Z Z (zBm (CN Z) N.1 N.2) Z Z bb) Z<|aB (gT (cs:=[vI ((at' (at' p1.2 d.1) F.1).1),vI ((at' (at' p1.2 d.1) F.1).2)]) Z (zBm (CN Z) N.1 N.2) bX Z Z Z Z bb) Z<|aI (aN.alloc (cs:=Uj) Z Z) Z λb4=>bQ 0 (vs:=[vI ((at' (at' p1.2 d.1) F.1).1),vI ((at' (at' p1.2 d.1) F.1).2)]) Z Z Z Z Z Z<|aM ?_;refine yP [0,1,3,7,0,0,32,96,224,0,992,2016,0,0,8192,0,61440,126976,262112,524287,1048575] 19 mixedOrders ?_;refine bD Z<|jL Z (bL Z)<|cN Z<|gW 1 Z<|bD Z<|bD Z<|jL Z (bL Z)<|cN Z<|gW 1 Z<|bD Z<|dV h λaq h=>bJ (dQ 3 Z) λbg=>?_;refine bK Z (aX.cons 2 Z .nil) .nil (sH 0 Z Z Z Z Z aq.1 (by have q1:=aq.2;have q2:=bg;(try simp only[zA2]at q1);(try simp only[zA2]at q2);(try simp only[zA2]);omega)) aO.z ?_;refine bJ (dQ 3 Z) λbh=>bK Z (aX.cons 2 Z .nil) .nil (jT 0 Z Z bh Z Z aq) aO.z<|nP 4 Z<|cN Z<|gW 0 Z<|bD Z<|fP h λam bV h=>zBl Z Z Z (zBk PG (CF U s p z4 am bV) Z (jS [3,4] Z)) Z (λbW=>(pB [([2],[]),([2],[]),([1],[]),([1],[])] Z)) λbW=>zBl Z Z Z (b_ (e:=dW) ([am]) [(0,vI (am))] Z Z Z Z (gY (vI (am)) Z) Z Z Z) Z (λbC=>(pB [([3],[]),([3],[]),([2],[]),([2],[])] Z)) λbC=>dV h λbx h=>zBl Z Z Z (pA 4 fG Z Z Z (bP (aG.res 0 Z) fG) Z Z Z Z aq bx Z) Z (λbf=>(pB [([2],[])] Z)) λbf=>bU 19 Z Z<|dV h λO h=>bG (dQ 4 Z) λbi=>?_;refine aB (sH 3 Z Z Z Z Z O.1 (by have q1:=O.2;have q2:=bi;(try simp only[zA2]at q1);(try simp only[zA2]at q2);(try simp only[zA2]);omega)) Z ?_;refine bG (Fh 4 (k:=d.1) Z ⟨O.1,by first|exact O.2|simpa using O.2⟩) λbn=>?_;refine tU 3 4 ⟨O.1,by first|exact O.2|simpa using O.2⟩ Z Z Z Z Z (by simp) bn Z ?_;refine eW<|m_<|aR<|cU Z<|aA Z<|aM ?_;exact iH ((wI .i64 (F.1+(1:Int))),(List.set F.2 (Int.toNat d.1) ((at' F.2 d.1)++[am]))) (List.set ac (Int.toNat d.1) bf) h SF (aX.ix [2,3,4,5,6,7,8,9,10] Z Z) (aF.refl _ _)
      refine tB<|fT<|fT<|Aj<|m_ ?_;exact j_ (F.2) (ac) h SF Z
     intro Y ai h;unfold yE at h;refine aR<|cU Z<|aA Z<|aM ?_;exact BD ((wI .i64 (d.1+(1:Int))),(max d.2.1 (at' p1.1 d.1)),Y) (ai) h SF Z
    refine fO ?_;exact cT (d.2.1,d.2.2) (ab) h SF (aX.ix [0,1,2,4,5,6,7,8] Z Z) (aF.refl _ _)
   intro M ah h;unfold oL at h;refine aP<|aA Z<|aC Z<|aM<|aT ?_;exact jN (M.1,M.2) (J,G,ah) h (.inl Z) (CO.r1 Z (RV.tmp Z)) Z (aX.refl _) (aF.refl _ _)
  intro I y h;unfold sE at h;refine bK Z (aX.cons 4 Z .nil) .nil (fZ 0 Z Z Z Z) (aO.h (aX.ix [1] Z Z) .nil aO.z)<|bK Z (aX.cons 3 Z .nil) .nil (fZ 0 Z Z Z Z) (aO.h (aX.ix [0] Z Z) .nil aO.z)<|fP h λbe bS h=>zBl Z Z Z (zBk Lc (Ad U m n s p z4 be bS) Z (jS [0,1,2,3,4] Z)) Z (λap=>(pB [([6],[])] Z)) λap=>bU 7 Z Z<|bG (AA (cC (i:=0) (j:=1) Z Z bX)) λbl=>?_;refine aB (LR (r:=Value.agg #[vS (p0.1),m,n,Value.pointer (some ⟨y.1,0,none⟩),ap.1]) Z Z Z (by intro w;simp[Instr.build,Instr.fill,cY,cI,cD,cZ,c_,cJ,dU,f_ bl])) Z ?_;refine aI (aN.box (cs:=[vS (p0.1),m,n,vP y.1,ap.1]) Z Z) Z λbo=>aC Z<|aM<|aT ?_;exact jN (be,I.1,I.2) (bo,y.1,ap.1,ap.2,y.2.1,y.2.2) h (.inl Z) (CO.r1 Z (RV.tmp Z)) Z (aX.ix [0,1,2,3,4,5,8,9,10] Z Z) (aF.refl _ _)
 intro o a h;unfold sC at h;refine bK Z (aX.cons 6 Z .nil) .nil (fZ 0 Z Z Z Z) (aO.h (aX.ix [0] Z Z) .nil aO.z)<|Gk (A:=tQ) (B:=V0×V0×V0×List V0×List V0×List (List V0)×List V0×List (List V0)×List (List (List V0))) (vs:=[Value.agg #[L,P,Q]]) (λae=>yC o ae=some r) (λae f=>Value.agg #[f.1,f.2.1,f.2.2.1]) (λae f=>[Ar bI.raw f.1 f.2.2.2.1,bH a.1 [vS (p0.1),m,n,vP a.2.1,a.2.2.1] 180,Ar bI.raw a.2.2.1 a.2.2.2.1,fE bO a.2.2.2.1 o.1,bH a.2.1 [vS (p0.1),m,n,s,p,vI (o.2.1),a.2.2.2.2.1] 225,Ar bI.raw a.2.2.2.2.1 a.2.2.2.2.2,bH V [L,P,Q] 42,bH T [s,p] 28,bH S [vS (p0.1),m,n] 33,Ar bI.raw f.2.1 f.2.2.2.2.1,fE bI.raw f.2.2.2.2.1 f.2.2.2.2.2.1,Ar bI.raw f.2.2.1 f.2.2.2.2.2.2.1,AJ bI.raw f.2.2.2.2.2.2.1 f.2.2.2.2.2.2.2.1 f.2.2.2.2.2.2.2.2]) (λae f=>[sW aL f.2.2.2.1 ae.1,sW aL a.2.2.2.2.2 o.2.2,Sl aH m p0.2.1,Sl aD n p0.2.2,PF (Value.agg #[vS p0.1,m,n]),Sl aL s p1.1,S2 aY p z4 p1.2,S2 aL L z6 E.1,S3 aL P z8 E.2.1,S4 aL Q W E.2.2,Dl aL f.2.2.2.2.2.1 ae.2.1,Gm aL f.2.2.2.2.2.2.2.2 ae.2.2]) Z Z Z (nY.fn (show aU prog 117 from call117) Z) func117 Z ntmps117 Z Z (λ_ _=>(pB [([7],[])] Z)) ?_ ?_
 .refine aP<|aI (aN.box (cs:=[L,P,Q]) Z Z) Z λar=>cF (lD 6 Z (rV (j:=0) Z fG))<|aI (aN.alloc (cs:=[eV,eV,eV]) Z Z) Z λaj=>aM<|aP<|bT Z<|dO 1 Z<|fP h λX b1 h=>aI (zBk Ij (xC U L z6 X b1) Z (jS [6] Z)) Z λD=>cF (lD 1 Z (rV (j:=0) Z fG))<|bG (AA (dN (i:=0) (j:=0) Z Z)) λbq=>?_;refine aB (Ps (r:=Value.agg #[D.1,eV,eV]) Z (by intro w;simp[Instr.build,Instr.fill,cY,cI,cD,cZ,c_,cJ,dU,f_ bq])) Z ?_;refine aI (aN.alloc (cs:=[eV,eV,eV]) Z Z) Z λak=>bG (AA (dN (i:=1) (j:=0) Z Z)) λbr=>bQ 0 (vs:=[D.1,eV,eV]) Z Z (eJ br (eJ Z (eJ Z Z))) Z Z Z<|aM<|aK<|lT (B:=Xv) (λad=>sD o X ad=some r) (λad u=>[(2,vP aj),(3,vP ak)]) (λad u=>[bH ak [D.1,u.1,u.2.2.2.1] 42,Ar bI.raw D.1 D.2,bH aj [eV,eV,eV] 42,bH a.1 [vS (p0.1),m,n,vP a.2.1,a.2.2.1] 180,Ar bI.raw a.2.2.1 a.2.2.2.1,fE bO a.2.2.2.1 o.1,bH a.2.1 [vS (p0.1),m,n,s,p,vI (o.2.1),a.2.2.2.2.1] 225,Ar bI.raw a.2.2.2.2.1 a.2.2.2.2.2,bH V [L,P,Q] 42,bH T [s,p] 28,bH S [vS (p0.1),m,n] 33,Ar bI.raw u.1 u.2.1,fE bI.raw u.2.1 u.2.2.1,Ar bI.raw u.2.2.2.1 u.2.2.2.2.1,AJ bI.raw u.2.2.2.2.1 u.2.2.2.2.2.1 u.2.2.2.2.2.2]) (λad u=>[sW aL D.2 X,sW aL a.2.2.2.2.2 o.2.2,Sl aH m p0.2.1,Sl aD n p0.2.2,PF (Value.agg #[vS p0.1,m,n]),Sl aL s p1.1,S2 aY p z4 p1.2,S2 aL L z6 E.1,S3 aL P z8 E.2.1,S4 aL Q W E.2.2,Dl aL u.2.2.1 ad.1,Gm aL u.2.2.2.2.2.2 ad.2]) ?_ ?_
  .refine aP<|bT Z<|dO 3 Z<|aB (fN Z (WY Z) Z) Z<|aA Z<|aM<|aS<|cF (fK bI.raw)<|cF (kL bI.raw)<|cF (dJ (fJ:aG _ _ (Dl aL (tg 1 ([]:EW)) ([]:Bm))))<|cF (fK bI.raw)<|cF (Av bI.raw)<|cF (dJ (fJ:aG _ _ (Gm aL (tg 2 ([]:TJ)) ([]:Gf))))<|pN (B:=Xv) (kJ U E o X) (λt b=>[(1,vP ar),(2,vP aj),(3,vP ak),(14,vI (E.2.1.length:Int)),(15,vI (t.1))]) (λt b=>[bH ak [D.1,b.1,b.2.2.2.1] 42,Ar bI.raw D.1 D.2,bH aj [eV,eV,eV] 42,bH ar [L,P,Q] 42,bH a.1 [vS (p0.1),m,n,vP a.2.1,a.2.2.1] 180,Ar bI.raw a.2.2.1 a.2.2.2.1,fE bO a.2.2.2.1 o.1,bH a.2.1 [vS (p0.1),m,n,s,p,vI (o.2.1),a.2.2.2.2.1] 225,Ar bI.raw a.2.2.2.2.1 a.2.2.2.2.2,bH V [L,P,Q] 42,bH T [s,p] 28,bH S [vS (p0.1),m,n] 33,Ar bI.raw b.1 b.2.1,fE bI.raw b.2.1 b.2.2.1,Ar bI.raw b.2.2.2.1 b.2.2.2.2.1,AJ bI.raw b.2.2.2.2.1 b.2.2.2.2.2.1 b.2.2.2.2.2.2]) (λt b=>[sW aL D.2 X,sW aL a.2.2.2.2.2 o.2.2,Sl aH m p0.2.1,Sl aD n p0.2.2,PF (Value.agg #[vS p0.1,m,n]),Sl aL s p1.1,S2 aY p z4 p1.2,S2 aL L z6 E.1,S3 aL P z8 E.2.1,S4 aL Q W E.2.2,Dl aL b.2.2.1 t.2.1,Gm aL b.2.2.2.2.2.2 t.2.2]) ((0:Int),([]:Bm),([]:Gf)) ((tg 1 (eV)),(tg 1 ([]:e_)),(tg 1 ([]:EW)),(tg 2 (eV)),(tg 2 ([]:e_)),(tg 2 ([]:EW)),(tg 2 ([]:TJ))) h SF (aX.ix [4,5,6,7,8,9,10,11,12,13,14,15,3,2,1,0] Z Z) (jS [2,3,4,5,6,7,8,9,10,11,1,0] Z) ?_;intro bz t b h;refine aP<|dD Z<|aM<|aK ?_;refine eI h Z (λh=>?_) λh=>?_
   .refine cQ<|aK<|aS<|aP<|aA Z<|aC Z<|aM<|aK ?_;refine yP [0,1,0,4,0,28,60,124,252,511,1023,2047] 9 mixedOrders ?_;refine cN Z<|gW 0 Z<|cN Z<|gW 3 Z<|bD Z<|dV h λa3 h=>bJ (lU (WY Z)) λbp=>jL Z (mI Z Z bp Z Z a3)<|bK Z .nil (nD 8 Z) (n_ Z (dH Z) Z Z a3) aO.z<|fP h λau b2 h=>zBl Z Z Z (zBk Ij (xC U ((at' z8 t.1).1) ((at' z8 t.1).2) au b2) Z (aF.cons (eL (WY Z) a3.1 (by first|exact a3.2|simpa using a3.2)) .nil)) Z (λK=>(pB [([2],[])] Z)) λK=>?_;refine zBn (lD 1 Z (rV (j:=0) Z fG))<|bJ (AA (dN (i:=0) (j:=0) Z Z)) λa6=>zBn (kL bI.raw)<|zBn (Au 0 1 Z Z Z)<|zBn (dJ (kA (dH Z) fJ))<|zBl Z Z Z (b_ (e:=bI.raw) ([K.1]) [(0,K.1)] Z Z Z Z (gY (K.1) a6) Z Z (eJ a6 Z)) Z (λb0=>(pB [([2],[])] Z)) λb0=>bU 9 Z Z<|bG (bM (aG.fact 12 Z)) λa4=>bG (bM (dH Z)) λa5=>bG (dQ 15 Z) λav=>bG (dQ 1 Z) λaw=>dV h λa7 h=>cF (dJ (iW (aG.fact 12 Z) (dH Z)))<|cF (t_ 15 1 Z Z Z) ?_;refine aI (aN.append 13 0 Z Z Z Z Z Z Z (by have q:=a7;have q0:=a4;have q1:=a5;have q2:=av;have q3:=aw;(try simp only[zA9,zAm,zA5]at *);omega) (by have q:=a7;have q0:=a4;have q1:=a5;have q2:=av;have q3:=aw;(try simp only[zA9,zAm,zA5]at *);omega) Z) Z λan=>?_;refine bT Z<|bG (AA (kW (i:=13) (q:=14) (j:=0) Z Z Z)) λbj=>fS 1 Z Z bj Z Z Z<|aM<|aP<|aC Z<|aM<|aK<|lT (B:=V0×List V0×List (List V0)) (λR=>yD t (bN (kJ U E o X) bz) au R=some r) (λR v=>[(1,vP ar),(2,vP aj),(3,vP ak),(5,v.1),(14,vI (E.2.1.length:Int)),(15,vI (t.1))]) (λR v=>[bH ak [D.1,an,b.2.2.2.1] 42,Ar bI.raw D.1 D.2,bH aj [eV,eV,eV] 42,bH ar [L,P,Q] 42,bH a.1 [vS (p0.1),m,n,vP a.2.1,a.2.2.1] 180,Ar bI.raw a.2.2.1 a.2.2.2.1,fE bO a.2.2.2.1 o.1,bH a.2.1 [vS (p0.1),m,n,s,p,vI (o.2.1),a.2.2.2.2.1] 225,Ar bI.raw a.2.2.2.2.1 a.2.2.2.2.2,bH V [L,P,Q] 42,bH T [s,p] 28,bH S [vS (p0.1),m,n] 33,Ar bI.raw an (b.2.1++[K.1]),fE bI.raw (b.2.1++[K.1]) (b.2.2.1++[K.2]),Ar bI.raw b.2.2.2.1 b.2.2.2.2.1,AJ bI.raw b.2.2.2.2.1 b.2.2.2.2.2.1 b.2.2.2.2.2.2,Ar bI.raw v.1 v.2.1,fE bI.raw v.2.1 v.2.2]) (λR v=>[Dl aL (b.2.2.1++[K.2]) (t.2.1++[au]),sW aL D.2 X,sW aL a.2.2.2.2.2 o.2.2,Sl aH m p0.2.1,Sl aD n p0.2.2,PF (Value.agg #[vS p0.1,m,n]),Sl aL s p1.1,S2 aY p z4 p1.2,S2 aL L z6 E.1,S3 aL P z8 E.2.1,S4 aL Q W E.2.2,Gm aL b.2.2.2.2.2.2 t.2.2,Dl aL v.2.2 R]) ?_ ?_
    .refine aP<|bT Z<|dO 4 Z<|aA Z<|dV h λC h=>aB (cA Z Z (aG.fact 12 Z) Z Z C) Z<|aB (n_ Z (aG.fact 12 Z) Z Z C) Z ?_;refine aB (fN Z (eL (aG.fact 12 Z) C.1 (by first|exact C.2|simpa using C.2)) Z) Z ?_;refine aA Z<|aM<|aS<|cF (fK bI.raw)<|cF (kL bI.raw)<|cF (dJ (fJ:aG _ _ (Dl aL (tg 1 ([]:EW)) ([]:Bm))))<|pN (B:=V0×List V0×List (List V0)) (oM U E t (bN (kJ U E o X) bz) au) (λH x=>[(1,vP ar),(2,vP aj),(3,vP ak),(5,x.1),(14,vI (E.2.1.length:Int)),(15,vI (t.1)),(33,(at' W t.1).1),(34,vI ((at' E.2.2 t.1).length:Int)),(35,vI (H.2))]) (λH x=>[bH ak [D.1,an,b.2.2.2.1] 42,Ar bI.raw D.1 D.2,bH aj [eV,eV,eV] 42,bH ar [L,P,Q] 42,bH a.1 [vS (p0.1),m,n,vP a.2.1,a.2.2.1] 180,Ar bI.raw a.2.2.1 a.2.2.2.1,fE bO a.2.2.2.1 o.1,bH a.2.1 [vS (p0.1),m,n,s,p,vI (o.2.1),a.2.2.2.2.1] 225,Ar bI.raw a.2.2.2.2.1 a.2.2.2.2.2,bH V [L,P,Q] 42,bH T [s,p] 28,bH S [vS (p0.1),m,n] 33,Ar bI.raw an (b.2.1++[K.1]),fE bI.raw (b.2.1++[K.1]) (b.2.2.1++[K.2]),Ar bI.raw b.2.2.2.1 b.2.2.2.2.1,AJ bI.raw b.2.2.2.2.1 b.2.2.2.2.2.1 b.2.2.2.2.2.2,Ar bI.raw x.1 x.2.1,fE bI.raw x.2.1 x.2.2]) (λH x=>[Dl aL (b.2.2.1++[K.2]) (t.2.1++[au]),sW aL D.2 X,sW aL a.2.2.2.2.2 o.2.2,Sl aH m p0.2.1,Sl aD n p0.2.2,PF (Value.agg #[vS p0.1,m,n]),Sl aL s p1.1,S2 aY p z4 p1.2,S2 aL L z6 E.1,S3 aL P z8 E.2.1,S4 aL Q W E.2.2,Gm aL b.2.2.2.2.2.2 t.2.2,Dl aL x.2.2 H.1]) (([]:Bm),(0:Int)) ((tg 1 (eV)),(tg 1 ([]:e_)),(tg 1 ([]:EW))) h SF (aX.ix [3,4,5,6,7,8,9,10,11,12,13,14,15,16,17,18,1,0] Z Z) (jS [1,4,5,6,7,8,9,10,11,12,13,15,0] Z) ?_;intro b5 H x h;refine aP<|dD Z<|aM<|aK ?_;refine eI h Z (λh=>?_) λh=>?_
     .refine cQ<|aK<|aS<|aP<|dV h λal h=>aB (cA Z Z (eL (aG.fact 10 Z) C.1 (by first|exact C.2|simpa using C.2)) Z Z al) Z ?_;refine aB (n_ Z (eL (aG.fact 10 Z) C.1 (by first|exact C.2|simpa using C.2)) Z Z al) Z ?_;refine aC Z<|aM<|aR<|aA Z<|aA Z<|fP h λbd bF h=>aI (zBk Ij (xC U ((at' ((at' W t.1).2) H.2).1) ((at' ((at' W t.1).2) H.2).2) bd bF) Z (aF.cons (eL (eL (aG.fact 10 Z) C.1 (by first|exact C.2|simpa using C.2)) al.1 (by first|exact al.2|simpa using al.2)) .nil)) Z λao=>?_;refine cF (lD 1 Z (rV (j:=0) Z fG))<|bG (AA (dN (i:=0) (j:=0) Z Z)) λa2=>cF (kL bI.raw)<|cF (Au 0 1 Z Z Z)<|cF (dJ (kA (dH Z) fJ))<|aI (b_ (e:=bI.raw) ([ao.1]) [(0,ao.1)] Z Z Z Z (gY (ao.1) a2) Z Z (eJ a2 Z)) Z λb8=>bG (bM (aG.fact 14 Z)) λaJ=>bG (bM (dH Z)) λaQ=>bG (dQ 19 Z) λaV=>bG (dQ 1 Z) λa0=>dV h λa9 h=>cF (dJ (iW (aG.fact 14 Z) (dH Z)))<|cF (t_ 19 1 Z Z Z) ?_;refine aI (aN.append 17 0 Z Z Z Z Z Z Z (by have q:=a9;have q0:=aJ;have q1:=aQ;have q2:=aV;have q3:=a0;(try simp only[zA9,zAm,zA5]at *);omega) (by have q:=a9;have q0:=aJ;have q1:=aQ;have q2:=aV;have q3:=a0;(try simp only[zA9,zAm,zA5]at *);omega) Z) Z λbB=>?_;refine aC Z<|eW<|m_<|aR<|cU Z<|aA Z<|aM ?_;exact iH ((H.1++[bd]),(wI .i64 (H.2+(1:Int)))) (bB,(x.2.1++[ao.1]),(x.2.2++[ao.2])) h SF (aX.ix [1,2,3,4,5,6,7,8,9,10,11,12,13,14,15,16,17,18] Z Z) (jS [3,4,5,6,7,8,9,10,11,12,13,14,0] Z)
     refine fO ?_;exact j_ (H.1) (x.1,x.2.1,x.2.2) h SF Z
    intro R v h;refine aR<|bT Z<|dO 0 Z<|aA Z<|bG (AA (kW (i:=16) (q:=17) (j:=12) Z Z Z)) λa1=>cF (Av bI.raw)<|cF (Ic 17 18 Z Z Z)<|cF (Ei 0 17 Z Z Z)<|cF (dJ (kA (aG.fact 12 Z) fJ))<|aI (b_ (e:=bI.raw) ([v.1]) [(0,v.1)] Z Z Z Z (gY (v.1) a1) Z Z (eJ a1 Z)) Z λb7=>bG (bM (aG.fact 12 Z)) λax=>bG (bM (dH Z)) λay=>bG (wK 17 Z) λaz=>bG (wK 1 Z) λaE=>dV h λa8 h=>cF (dJ (iW (aG.fact 12 Z) (dH Z)))<|cF (Hu 17 1 Z Z Z) ?_;refine aI (aN.append 15 0 Z Z Z Z Z Z Z (by have q:=a8;have q0:=ax;have q1:=ay;have q2:=az;have q3:=aE;(try simp only[zA9,zAm,zA5]at *);omega) (by have q:=a8;have q0:=ax;have q1:=ay;have q2:=az;have q3:=aE;(try simp only[zA9,zAm,zA5]at *);omega) Z) Z λbA=>?_;refine bT Z<|bG (AA (tY (i:=15) (q:=16) (j:=0) Z Z Z)) λbk=>fS 1 Z Z bk Z Z Z<|eW<|m_<|aR<|cU Z<|aA Z<|aM ?_;exact iH ((wI .i64 (t.1+(1:Int))),(t.2.1++[au]),(t.2.2++[R])) (an,(b.2.1++[K.1]),(b.2.2.1++[K.2]),bA,(b.2.2.2.2.1++[v.1]),(b.2.2.2.2.2.1++[v.2.1]),(b.2.2.2.2.2.2++[v.2.2])) h SF (aX.ix [1,2,3,4,5,6,7,8,9,10,11,12,13,14,15,16] Z Z) (jS [3,4,5,6,7,8,9,10,11,12,2,0] Z)
   refine fO ?_;exact cT (t.2.1,t.2.2) (b.1,b.2.1,b.2.2.1,b.2.2.2.1,b.2.2.2.2.1,b.2.2.2.2.2.1,b.2.2.2.2.2.2) h SF (aX.ix [0,1,2,4,5,6,7,8,9,10,11,12,13,14,15] Z Z) (aF.refl _ _)
  intro ad u h;unfold sD at h;refine aP<|dL 0 Z<|bG (AA (dN (i:=1) (j:=0) Z Z)) λbs=>bG (AA (kW (i:=11) (q:=12) (j:=10) Z Z Z)) λbt=>bG (AA (tY (i:=13) (q:=14) (j:=11) Z Z Z)) λbu=>bQ 2 (vs:=[D.1,u.1,u.2.2.2.1]) Z Z (eJ bs (eJ bt (eJ bu Z))) Z Z Z<|aM<|aT ?_;exact jN (X,ad.1,ad.2) (D.1,u.1,u.2.2.2.1,D.2,u.2.1,u.2.2.1,u.2.2.2.2.1,u.2.2.2.2.2.1,u.2.2.2.2.2.2) h (.inl Z) (CO.r1 Z (RV.cell 2 Z Z Z Z)) Z (aX.ix [1,3,4,5,6,7,8,9,10,11,12,13,14] Z Z) (aF.refl _ _)
 intro ae f h;unfold yC at h;refine bU 7 Z Z ?_;refine aB (Pt (r:=Value.agg #[s,p,vI (p2),Value.pointer (some ⟨a.1,0,none⟩),f.1,f.2.1,f.2.2.1]) Z Z Z Z (by intro w;simp[Instr.build,Instr.fill,cY,cI,cD,cZ,c_,cJ,dU])) Z ?_;refine aI (aN.box (cs:=[s,p,vI (p2),vP a.1,f.1,f.2.1,f.2.2.1]) Z Z) Z λbY=>aC Z<|aM<|aT ?_;cases h;exact fD (bY,a.1,f.1,f.2.1,f.2.2.1,f.2.2.2.1,a.2.1,a.2.2.1,a.2.2.2.1,a.2.2.2.2.1,a.2.2.2.2.2,f.2.2.2.2.1,f.2.2.2.2.2.1,f.2.2.2.2.2.2.1,f.2.2.2.2.2.2.2.1,f.2.2.2.2.2.2.2.2) Z Z (RV.tmp Z) (aX.ix [0,1,2,3,4,5,6,10,11,12,13] Z Z) (jS [0,1,10,11] Z)
def DV (U:Nat) (p0:V6 (V0)) (p1 p2:Int):V1 (V6 (V0)):=
 ck (0<=p1/\p1<=p2/\p2<=(p0.length:Int)/\(p0.length:Int)<=(p0.length:Int)) (if p1=p2 then(some (p0))else(ck (0<=(0:Int)/\(0:Int)<=p1/\p1<=(p0.length:Int)) (ck (0<=p2/\p2<=((p0.length:Int))/\((p0.length:Int))<=(p0.length:Int)) (ck (0<=p1/\p1<p2/\p2<=(p0.length:Int)) (some ((List.take (Int.toNat p1) p0)++(List.drop (Int.toNat p2) p0)))))))
theorem adQ:aU prog 121:=call121
theorem J_ (U:Nat) {p0:List (V0)} {p1 p2:Int} (b:V0) (r:List (V0)) (h:DV U p0 p1 p2=some r):
  Bp prog 121 #[b,vI (p1),vI (p2)] [Ar bI.raw b p0] [] (λx:V0=>x) (λx l=>Ar bI.raw x r::l):=by
 refine Bp.of (vs:=[b,vI (p1),vI (p2)]) func121 Z ntmps121 Z λc=>?_;refine aP<|aC Z<|aM<|aP<|aA Z<|aA Z<|aA Z<|aA Z<|aB (iN Z (rS (i:=0) Z) Z) Z<|dV h λe h=>aB (ZR Z Z Z Z (rS (i:=0) Z) Z Z e) Z<|aM<|aK<|aP<|aA Z<|aA Z<|bZ Z<|aM ?_;refine eI h Z (λh=>?_) λh=>?_
 .refine aP<|aA Z<|aC Z<|aM<|aT<|aJ ?_;cases h;exact fD (b) Z Z (RV.tmp Z) (aX.refl _) aF.nil
 refine cQ<|aP<|aA Z<|aB (iN Z (rS (i:=0) Z) Z) Z<|aC Z<|aM<|aK ?_;refine yP [0,0,3,0,0,24,63,127] 6 mixedOrders ?_;refine bD Z<|bD Z<|dV h λf h=>bK Z (aX.cons 0 Z .nil) .nil (ZS Z Z (rS (i:=0) Z) Z Z f) aO.z<|bD Z<|bD Z<|dV h λg h=>bK Z (aX.cons 0 Z .nil) .nil (ZT Z Z (rS (i:=0) Z) Z Z g) aO.z<|bU 6 Z Z<|dV h λd h=>bG (Know.cap 0 Z) λa=>aI (LJ (i:=p1) (j:=p2) 0 Z Z Z Z Z Z d) Z λk=>aC Z<|aM<|aP<|aA Z<|aA Z<|aB (iN Z (rS (i:=0) Z) Z) Z<|aA Z ?_;refine aB (Sb 0 Z Z Z Z Z Z (Im.slq a) (by have q:=d;simp;omega)) Z ?_;refine Rm 0 Z Z (zAf _) (Im.slq a) (by have q:=d;simp;omega) Z Z Z Z Z ?_;refine aM<|aP<|aA Z<|aC Z<|aM<|aT ?_;cases h;exact fD (slq b 0 (Int.toNat (p1+((p0.length:Int) - p2))) 1) Z Z (RV.tmp Z) (aX.refl _) aF.nil
def uI (U:Nat) (a:aW):V1 aW:=
 ck ((List.length ([]:aW):Int)+(a.length:Int)<=1099511627) (some (([]:aW)++a))
theorem ad_:aU prog 172:=call172
theorem Nm (U:Nat) {p0:aW} (d:V0) (r:aW) (h:uI U p0=some r):
  a_ prog 172 #[d] [Sl aL d p0] (λx:V0=>x) (λx l=>Ar dW x r::l) (λ_ l=>l):=by
 refine a_.of func172 Z ntmps172 Z λc=>?_;unfold uI at h;refine Q4 Z<|aK<|Q6 Z<|NS (dH Z) (λa b=>?_) (λa=>?_)
 .replace h:(some ([]:aW))=some r:=by simpa [ck,b]using h
  refine aB (K_ Z (dH Z) a Z) Z<|aM<|KX Z<|Q4 Z<|aT<|aJ<|cF (fK dW) ?_;cases h;exact fD (eV) Z Z (RV.tmp Z) (aX.refl _) aF.nil
 refine aB (K_ Z (dH Z) a Z) Z<|aM<|Gi Z<|cQ<|aP<|aI (b_ (e:=dW) ([]:aW) [] Z Z Z Z ((λi h=>by simp at h;subst h;rfl)) Z Z Z) Z λj=>aA Z<|dV h λf h=>aI (fU 0 fG Z Z Z (dH Z) Z Z Z Z f Z) Z λg=>Q5 Z<|aT ?_;cases h;exact fD (g) Z Z (RV.tmp Z) (aX.refl _) aF.nil
def xS (U:Nat) (p0:V6 (V0)):V1 (V6 (V0)):=
 ck ((List.length ([]:e_):Int)+(p0.length:Int)<=1099511627) (some (([]:e_)++p0))
theorem Wt:aU prog 184:=call184
theorem EU (U:Nat) {p0:V6 (V0)} (d:V0) (r:V6 (V0)) (h:xS U p0=some r):
  a_ prog 184 #[d] [Sl Fl d p0] (λx:V0=>x) (λx l=>Ar bI.raw x r::l) (λ_ l=>l):=by
 refine a_.of func184 Z ntmps184 Z λc=>?_;unfold xS at h;refine Q4 Z<|aK<|Q6 Z<|NS (dH Z) (λa b=>?_) (λa=>?_)
 .replace h:(some ([]:e_))=some r:=by simpa [ck,b]using h
  refine aB (K_ Z (dH Z) a Z) Z<|aM<|KX Z<|Q4 Z<|aT<|aJ<|cF (fK bI.raw) ?_;cases h;exact fD (eV) Z Z (RV.tmp Z) (aX.refl _) aF.nil
 refine aB (K_ Z (dH Z) a Z) Z<|aM<|Gi Z<|cQ<|aP<|aI (b_ (e:=bI.raw) ([]:e_) [] Z Z Z Z ((λi h=>by simp at h;subst h;rfl)) Z Z Z) Z λj=>aA Z<|dV h λf h=>aI (Nx 0 Hb Z Z Z (dH Z) Z Z Z Z f Z) Z λg=>Q5 Z<|aT ?_;cases h;exact fD (g) Z Z (RV.tmp Z) (aX.refl _) aF.nil
end Go.Proofs.YtgciopekomcbfaaGreatDoor