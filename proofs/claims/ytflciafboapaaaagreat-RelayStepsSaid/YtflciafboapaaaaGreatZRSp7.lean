/- Models and proofs. Conditions: none. -/
import Derived.Test.YtflciafboapaaaaGreatZRSp6
import Derived.Test.YtflciafboapaaaaGreatZRSp2
import Derived.Test.YtflciafboapaaaaGreatZRSp5
set_option linter.unusedVariables false
set_option linter.unusedSimpArgs false
set_option maxHeartbeats 4000000
set_option maxRecDepth 20000
namespace Go.Proofs.YtflciafboapaaaaGreat
open Go Go.Sx
abbrev RL:=E×List (Nat×E)
abbrev Ls:=Fh×GR×Int×bQ
def BE (R:List RL):Rz:=R.map λr=>(r.1.ts,r.2.map λs=>((s.1:Int),s.2.ts))
def Kl (a:Nat) (e:E):Bool:=e.wf a false&&decide (e.depth<=100)&&decide (e.ts.length<=800)
def kJ (a:Nat) (R:List RL):Bool:=decide (R.length<=20)&&R.all λr=>Kl a r.1&&decide (r.2.length<=20)&&r.2.all λs=>decide (s.1<a)&&Kl a s.2
instance:Inhabited E:=⟨.lf 1 0⟩
def TS (g:GR) (v i:Nat):Int:=BI (row g (jM (row g v) i).1.toNat) (v:Int)
def kZ (g:GR):bQ:=(List.range g.2.length).map λv=>(List.range (row g v).length).map (TS g v)
def DY (S:Ls) (c:bQ) (v:Nat) (e:E):Int:=e.den (Pa (S,c,(v:Int),[])) (row S.2.1 v).length (-1)
def s_ (S:Ls) (R:List RL) (c:bQ) (v:Nat):Int:=iM (R.map λr=>DY S c v r.1)
def Gk (a:Int) (b:fF) (x:Int):Int:=if b.1<=x/\x<=b.2 then x else if a=3 then -1 else if x<b.1 then b.1 else b.2
def KF (S:Ls) (a:List EC) (c:bQ) (v:Nat) (b:bT) (s:Nat×E):bT:=b.set s.1 (Gk (at' a (s.1:Int)).2.1 (qB S.2.1 a v s.1) (DY S c v s.2))
def NN (S:Ls) (a:List EC) (R:List RL) (c:bQ) (v:Nat) (i:Int):bT:=(at' R i).2.foldl (KF S a c v) (at' c (v:Int))
structure Ke (g:GR) (nv:Nat) (c:bQ):Prop where
 len:c.length=g.2.length
 row:∀v:Nat,v<g.2.length->(at' c (v:Int)).length=nv
theorem Wo.shape {g:GR} {c:bQ} {a:List EC} (h:Wo g c a):Ke g a.length c:=⟨h.len,h.row⟩
section
variable {S:Ls} {nv:Nat} {c:List (List Int)} {v:Nat}
theorem wok (b:S.2.2.2=kZ S.2.1) (d:VG S.2.1) (e:Ke S.2.1 nv c) (h:v<S.2.1.2.length) (j:List (Int×Int)):WOk (S,c,(v:Int),j) nv S.2.1.2.length v:=by
 refine⟨rfl,h,rfl,d.len,e.len,e.row,λu a i g=> ?_,by show S.2.2.2.length=_;rw[b];simp[kZ],λu a=>by
  show(at' S.2.2.2 (u:Int)).length=_;rw[b,kZ,ES _ a,List.length_map,List.length_range]⟩
 obtain⟨w,k,f⟩:=d.to a g;show 0<=(jM (row S.2.1 u) i).1/\(jM (row S.2.1 u) i).1<_;rw[f];omega
theorem RI (i:S.2.2.2=kZ S.2.1) (a:VG S.2.1) (j:Ke S.2.1 nv c) (f:v<S.2.1.2.length) {e:E} (b:Kl nv e=true):i_ 1000 S c (v:Int) e.ts=some (DY S c v e):=by
 simp only[Kl,zA6,zAa]at b;have g:=a.n24;have d:=(a.node v f).deg;unfold i_;have:=Zw (wok i a j f e.ts) (deg:=(row S.2.1 v).length) Z (by omega) b.2 e false 1000 0 (-1) [] [] (by simp) Z b.1.1 (λh=>by cases h) (by omega);rw[bH (show cP 1000 _ (0:Int) (-1)=_ from this)];rfl
end
section
variable {p:Fh} {g:GR} {gr:Int} {R:List RL} {nv:Nat} {c:List (List Int)} {v:Nat}
theorem ER (a:p.2.2.map sO=BE R):p.2.2.length=R.length:=by simpa [BE]using congrArg List.length a
theorem Lc (b:p.2.2.map sO=BE R) {i:Nat} (a:i<R.length):sO (at' p.2.2 (i:Int))=((at' R (i:Int)).1.ts,(at' R (i:Int)).2.map λs=>((s.1:Int),s.2.ts)):=by
 have d:=ER b;have:=congrArg (λq=>q[i]?) b;simp only[BE,List.getElem?_map,zA2 a,zA2 (show i<p.2.2.length by omega),Option.map_some,Option.some.injEq]at this;rw[kE a,kE (show i<p.2.2.length by omega)];exact this
theorem Le (a:kJ nv R=true) {i:Nat} (b:i<R.length):Kl nv (at' R (i:Int)).1=true/\(at' R (i:Int)).2.length<=20/\∀s∈(at' R (i:Int)).2,s.1<nv/\Kl nv s.2=true:=by
 simp only[kJ,zA6,zA7,zAa]at a;have:=a.2 (at' R (i:Int)) (by rw[kE b];exact List.getElem_mem b);exact⟨this.1.1,this.1.2,λs d=>this.2 s d⟩
theorem UI (a:kJ nv R=true):R.length<=20:=by
 simp only[kJ,zA6,zAa]at a;exact a.1
theorem Yb (f:VG g) (h:Ke g nv c) (j:v<g.2.length) (b:p.2.2.map sO=BE R) (d:kJ nv R=true) {i:Nat} (a:i<R.length):l_ 1000 (p,g,gr,kZ g) c (v:Int) (i:Int)=some (nz (DY (p,g,gr,kZ g) c v (at' R (i:Int)).1)):=by
 have k:=ER b;have e:(at' p.2.2 (i:Int)).2.1.2=(at' R (i:Int)).1.ts:=congrArg Prod.fst (Lc b a);unfold l_;dsimp only;rw[cF (by omega),e];rw[bH (show i_ 1000 _ c (v:Int) _=_ from RI (S:=(p,g,gr,kZ g)) Z f h j (Le d a).1)];rfl
theorem Pr (z:VG g) (A:Ke g nv c) (C:v<g.2.length) (w:p.2.2.map sO=BE R) (s:kJ nv R=true) (h:List (List (Int×Int))):fP 1000 (p,(p,g,gr,kZ g),h) c (v:Int)=some (s_ (p,g,gr,kZ g) R c v):=by
 have E:=ER w;have y:=UI s;let l:=R.map λr=>DY (p,g,gr,kZ g) c v r.1;have B:l.length=R.length:=by simp[l]
 have o:∀i,i<R.length->at' l (i:Int)=DY (p,g,gr,kZ g) c v (at' R (i:Int)).1:=λi t=>by
  rw[kE (by omega),kE t];simp[l]
 have b:∀(k:Nat) a,k<R.length->lZ 1000 (p,(p,g,gr,kZ g),h) c (v:Int) (k:Int) a=if nz (at' l (k:Int))=true then some (k:Int)else a (((k+1:Nat):Int)):=by
  intro k a d;unfold lZ;dsimp only;rw[if_pos (by omega),bH (show l_ 1000 _ c (v:Int) (k:Int)=_ from Yb z A C w s d),o k d,cV (by omega)]
 unfold fP s_;by_cases f:∃i,i<R.length/\at' l (i:Int)≠0
 ·obtain⟨i,t,x⟩:=f;obtain⟨m,D,q,n⟩:=NK (p:=λi=>at' l (i:Int)≠0) i x;have n:∀j,j<m->at' l (j:Int)=0:=λj u=>zAy.1 (n j u);rw[show iM _=(m:Int)from Ea (l:=l) (by omega) q n];exact dJ (K:=some (m:Int)) m (λk=>(k:Int)) (λk a d=>by rw[b k a (by omega),if_neg (by simp[nz,n k d])]) (λa=>by rw[b m a (by omega),if_pos (by simpa [nz]using q)]) 1000 (by omega)
 ·have f:∀j,j<l.length->at' l (j:Int)=0:=λj u=>zAy.1 λe=>f ⟨j,by omega,e⟩;rw[show iM _=(-1:Int)from D_ (l:=l) f];exact dJ (K:=some (-1)) R.length (λk=>(k:Int)) (λk a d=>by rw[b k a d,if_neg (by simp[nz,f k (by omega)])]) (λa=>by
   unfold lZ oY;dsimp only;rw[if_neg (by omega)]) 1000 (by omega)
theorem Mh (S:Ls) (R:List RL) (c:List (List Int)) (v:Nat):s_ S R c v = -1\/∃i:Nat,s_ S R c v=(i:Int)/\i<R.length/\DY S c v (at' R (i:Int)).1≠0:=by
 let l:=R.map λr=>DY S c v r.1;by_cases h:∃i,i<l.length/\at' l (i:Int)≠0
 ·obtain⟨i,n,k⟩:=h;obtain⟨m,o,f,a⟩:=NK (p:=λi=>at' l (i:Int)≠0) i k;have a:∀j,j<m->at' l (j:Int)=0:=λj b=>zAy.1 (a j b);have d:m<R.length:=by simp[l]at n;omega
  refine .inr ⟨m,Ea (l:=l) (by omega) f a,d,?_⟩;have:at' l (m:Int)=DY S c v (at' R (m:Int)).1:=by rw[kE (by simpa [l]using d),kE d];simp[l]
  rw[<-this];exact f
 ·exact .inl (D_ (l:=l) λj b=>zAy.1 λe=>h ⟨j,b,e⟩)
end
theorem Xv (f:Nat) (k:Int) (b:fF) (x:Int):Aa f k b x=some (Gk k b x):=by
 unfold Aa yA Gk;by_cases a:b.1<=x
 ·by_cases c:x<=b.2
  ·simp only[a,c,and_self,if_true,decide_true]
  ·simp only[a,c,and_false,if_true,if_false,decide_false,Bool.false_eq_true];split
   ·rfl
   ·split<;>rfl
 ·simp only[a,false_and,if_false,Bool.false_eq_true];split
  ·rfl
  ·split<;>rfl
theorem Rn {S:Ls} {a:List EC} {c:bQ} {v:Nat} (l:List (Nat×E)) (b:bT):(l.foldl (KF S a c v) b).length=b.length:=by
 induction l generalizing b with
 |nil=>rfl
 |cons s l d=>rw[List.foldl_cons,d];simp[KF]
section
variable {p:Fh} {g:GR} {gr:Int} {R:List RL} {c:List (List Int)} {v:Nat}
theorem abo (A:VG g) (J:gR g p.2.1) (o:Ke g p.2.1.length c) (x:v<g.2.length) (E:p.2.2.map sO=BE R) (H:kJ p.2.1.length R=true) {i:Nat} (B:i<R.length):
  mL 1000 (p,(p,g,gr,kZ g),BO g p.2.1) c (v:Int) (i:Int)=some (NN (p,g,gr,kZ g) p.2.1 R c v (i:Int)):=by
 have G:=A.n24;have I:=o.len;have l:=o.row v x;have N:=J.len;have O:=ER E;have r:=Lc E B;obtain⟨-,m,d⟩:=Le H B;have D:(BO g p.2.1).length=g.2.length:=by simp[BO]
 have w:at' (BO g p.2.1) (v:Int)=Hu g p.2.1 v:=ES _ x;have L:(Hu g p.2.1 v).length=p.2.1.length:=by simp[Hu]
 have y:(at' p.2.2 (i:Int)).2.2.2.map (λs=>(s.1,s.2.2))=(at' R (i:Int)).2.map λs=>((s.1:Int),s.2.ts):=congrArg Prod.snd r;have n:(at' p.2.2 (i:Int)).2.2.2.length=(at' R (i:Int)).2.length:=by simpa using congrArg List.length y
 unfold mL;dsimp only;rw[cF (by omega),cF (by simp;omega),cF (by omega),zB8];unfold NN;let a:=(at' R (i:Int)).2;have:=dJ (step:=lY 1000 (p,(p,g,gr,kZ g),BO g p.2.1) c (v:Int) (i:Int)) (K:=some (a.foldl (KF (p,g,gr,kZ g) p.2.1 c v) (at' c (v:Int)))) a.length (λk=>((k:Int),(a.take k).foldl (KF (p,g,gr,kZ g) p.2.1 c v) (at' c (v:Int)))) (λk F e=>by
  have j:k<(at' p.2.2 (i:Int)).2.2.2.length:=by rw[n];exact e
  have z:((at' (at' p.2.2 (i:Int)).2.2.2 (k:Int)).1,(at' (at' p.2.2 (i:Int)).2.2.2 (k:Int)).2.2)=(((at' a (k:Int)).1:Int),(at' a (k:Int)).2.ts):=by
   have:=congrArg (λq=>q[k]?) y;simp only[List.getElem?_map,zA2 j,zA2 (show k<(at' R (i:Int)).2.length from e),Option.map_some,Option.some.injEq]at this;rw[kE j,kE e];exact this
  have f:=congrArg Prod.fst z;have h:=congrArg Prod.snd z;dsimp only at f h;obtain⟨t,u⟩:=d (at' a (k:Int)) (by rw[kE e];exact List.getElem_mem e);have C:((a.take k).foldl (KF (p,g,gr,kZ g) p.2.1 c v) (at' c (v:Int))).length=p.2.1.length:=by rw[Rn,l]
  have b:at' (Hu g p.2.1 v) ((at' a (k:Int)).1:Int)=qB g p.2.1 v (at' a (k:Int)).1:=ES _ t;have M:a.length<=20:=m;unfold lY;dsimp only;rw[if_pos (by omega),cF (by omega),f,h,bH (show i_ 1000 _ c (v:Int) _=_ from RI (S:=(p,g,gr,kZ g)) Z A o x u),cF (by omega),cF (by omega),w,cF (by omega),b,bH (Xv 1000 _ _ _),cF (by omega),cV (by omega),zAf,nZ e,List.foldl_append];rfl) (λF=>by
  unfold lY oW;dsimp only;rw[if_neg (by show¬(a.length:Int)<_;rw[n];exact Int.lt_irrefl _),zB2]) 1000 (by show(at' R (i:Int)).2.length<1000;omega)
 exact this
end
def dO (p:Fh) (g:GR):Ls:=(p,g,jH g g.2.length,kZ g)
theorem Kt {a:Type} [Inhabited a] (l:List a) {k:Nat} (h:k<l.length):l.set k (at' l (k:Int))=l:=by
 have:=FJ l (k:Int) (by simpa using h) (by omega);simpa using this
end Go.Proofs.YtflciafboapaaaaGreat
namespace Go.Proofs.YtflciafboapaaaaGreat
open Go.Sx
def Ap (b:Int) (a:Bool):Option (Int):=
 if a=true then(some (2:Int))else(if b=(43:Int)then(some (3:Int))else(some (-1:Int)))
def Ao (a:Int) (b:Bool):Option (Int):=
 if b=true then(some (1:Int))else(if(30:Int)<=a then(Ap a (decide (a<=(42:Int))))else(Ap a (false)))
def An (a:Int) (b:Bool):Option (Int):=
 if b=true then(some (0:Int))else(if(18:Int)<=a then(Ao a (decide (a<=(29:Int))))else(Ao a (false)))
def nQ (U:Nat) (a:Int):Option (Int):=
 if(1:Int)<=a then(An a (decide (a<=(17:Int))))else(An a (false))
theorem OI:bB Tryz.prog 200:=Tryz.call200
theorem Ey (U:Nat) {b:Int} (r:Int) (h:nQ U b=some r):
  bE Tryz.prog 200 #[vI (b)] [] (λx:Unit=>vI (r)) (λx l=>l) (λ_ l=>l):=by
 refine bE.of Tryz.func200 Z Tryz.ntmps200 Z λc=>?_;refine aU<|aC Z<|aP<|aN<|aT<|aN<|eB (λd=>An b d=some r) (λd g=>[(0,vI (b)),(3,vB (d))]) (λd g=>[]) ?_ ?_
 ·refine aR<|aA Z<|aB (uI Z Z) Z<|aA Z ?_;refine Ds h Z (λ_ h=>?_) λ_ h=>?_
  ·refine dD Z<|aW Z (CS Z Z) Z<|d_ Z<|aC Z<|aP ?_;exact f_ (decide (b<=(17:Int))) () h SF Z
  refine aO Z<|aO Z<|eR Z<|aC Z<|aP ?_;exact f_ (false) () h SF Z
 intro d g h;refine rR h Z (λ_ h=>?_) λ_ h=>?_
 ·refine aU<|aC Z<|aP<|aS<|bF<|aG ?_;cases h;exact iR Z
 refine aN<|eB (λe=>Ao b e=some r) (λe i=>[(0,vI (b)),(10,vB (e))]) (λe i=>[]) ?_ ?_
 ·refine aR<|aA Z<|aB (uI Z Z) Z<|aA Z ?_;refine Ds h Z (λ_ h=>?_) λ_ h=>?_
  ·refine dD Z<|aW Z (CS Z Z) Z<|d_ Z<|aC Z<|aP ?_;exact f_ (decide (b<=(29:Int))) () h SF Z
  refine aO Z<|aO Z<|eR Z<|aC Z<|aP ?_;exact f_ (false) () h SF Z
 intro e i h;refine rR h Z (λ_ h=>?_) λ_ h=>?_
 ·refine aU<|aC Z<|aP<|aS<|bF<|aG ?_;cases h;exact iR Z
 refine aN<|eB (λa=>Ap b a=some r) (λa f=>[(0,vI (b)),(17,vB (a))]) (λa f=>[]) ?_ ?_
 ·refine aR<|aA Z<|aB (uI Z Z) Z<|aA Z ?_;refine Ds h Z (λ_ h=>?_) λ_ h=>?_
  ·refine dD Z<|aW Z (CS Z Z) Z<|d_ Z<|aC Z<|aP ?_;exact f_ (decide (b<=(42:Int))) () h SF Z
  refine aO Z<|aO Z<|eR Z<|aC Z<|aP ?_;exact f_ (false) () h SF Z
 intro a f h;refine rR h Z (λ_ h=>?_) λ_ h=>?_
 ·refine aU<|aC Z<|aP<|aS<|bF<|aG ?_;cases h;exact iR Z
 refine aU<|aA Z<|cH Z<|aC Z<|aP ?_;refine eG h Z (λh=>?_) λh=>?_
 ·refine aU<|aC Z<|aP<|aS<|bF<|aG ?_;cases h;exact iR Z
 refine dW<|lA<|aU<|aC Z<|aP<|aS ?_;cases h;exact iR Z
def tY (a:Int):Option (Int):=
 some (a)
def tZ (c:cJ) (a:fF) (b:fW->Option (Int)):Option (Int):=
 if a.2<(c.1.length:Int)then(ck (0<=a.2/\a.2<(c.1.length:Int)) (b ((max a.1 (at' c.1 a.2)),(wI .i64 (a.2+(1:Int))))))else(tY (a.1))
def jP (U:Nat) (a:cJ):Option (Int):=
 bL (tZ a) U ((0:Int),(0:Int))
theorem TW:bB Tryz.prog 164:=Tryz.call164
theorem EW (U:Nat) {e:cJ} (f g:V0) (n:kX) (r:Int) (h:jP U e=some r):
  bE Tryz.prog 164 #[Value.agg #[f,g]] [Sl aM f e.1,S2 aY g n e.2] (λx:Unit=>vI (r)) (λx l=>l) (λ_ l=>l):=by
 refine bE.of Tryz.func164 Z Tryz.ntmps164 Z λc=>?_;unfold jP at h;refine aU<|aJ (aQ.box (cs:=[f,g]) Z Z) Z λi=>aC Z<|aP<|aU<|aC Z<|aP<|aN<|eB (λb=>tY b=some r) (λb j=>[(3,vI (b))]) (λb j=>[]) ?_ ?_
 ·refine aU<|aC Z<|aP<|aT<|eW (tZ e) (λa k=>[(1,vP i),(3,vI (a.1)),(4,vI (a.2))]) (λa k=>[bM i [f,g] 31]) ((0:Int),(0:Int)) () h SF (a_.refl _) ?_;intro m a k h;refine aN<|aU<|aA Z<|bV Z<|dK 0 Z<|iL (b_ Z) Z<|cU Z<|aP ?_;refine eG h Z (λh=>?_) λh=>?_
  ·refine cL<|aN<|aT<|aR<|aA Z<|bV Z<|dK 0 Z<|aA Z<|cQ h λd h=>aB (bG Z Z (b_ Z) Z Z d) Z<|aB (cI Z (b_ Z) Z Z Z eZ d) Z<|aB (HB Z Z) Z<|aC Z<|eS<|lA<|aR<|aA Z<|cN Z<|aC Z<|aP ?_;exact xD ((max a.1 (at' e.1 a.2)),(wI .i64 (a.2+(1:Int)))) () h SF Z
  refine eP ?_;exact cB (a.1) () h SF .nil (aH.refl _ _)
 intro b j h;unfold tY at h;refine aU<|aA Z<|aC Z<|aP<|aS ?_;cases h;exact iR Z
def dX (U:Nat) (a:Bool):Option (Int):=
 if a=true then(some (1:Int))else(some (0:Int))
theorem rZ:bB Tryz.prog 223:=Tryz.call223
theorem gW (U:Nat) {a:Bool} (r:Int) (h:dX U a=some r):
  bE Tryz.prog 223 #[vB (a)] [] (λx:Unit=>vI (r)) (λx l=>l) (λ_ l=>l):=by
 refine bE.of Tryz.func223 Z Tryz.ntmps223 Z λc=>?_;refine aU<|aC Z<|aP<|aN<|aU<|aA Z<|aP ?_;refine rR h Z (λ_ h=>?_) λ_ h=>?_
 ·refine aU<|aC Z<|aP<|aS<|aG ?_;cases h;exact iR Z
 refine cL<|aU<|aC Z<|aP<|aS ?_;cases h;exact iR Z
def IQ (U:Nat) (a:cJ) (d b c:Int):Option (Int):=
 if d=(6:Int)then(some (a.2.length:Int))else(if d=(7:Int)then(Option.bind (jP U ((a.1,a.2))) λh=>(some (h)))else(if d=(8:Int)then(ck (0<=b/\b<(a.1.length:Int)) (some (at' a.1 b)))else(if d=(9:Int)then(ck (0<=b/\b<(a.2.length:Int)) (some ((at' a.2 b).length:Int)))else(if d=(10:Int)then(Option.bind (dX U (decide (b=(0:Int)))) λe=>(some (e)))else(if d=(11:Int)then(some (c))else(ck (0<=b/\b<(a.2.length:Int)) (ck (0<=c/\c<((at' a.2 b).length:Int)) (if d=(13:Int)then(ck (0<=((at' (at' a.2 b) c).1)/\((at' (at' a.2 b) c).1)<(a.1.length:Int)) (some (at' a.1 ((at' (at' a.2 b) c).1))))else(if d=(14:Int)then(ck (0<=((at' (at' a.2 b) c).1)/\((at' (at' a.2 b) c).1)<(a.2.length:Int)) (some ((at' a.2 ((at' (at' a.2 b) c).1)).length:Int)))else(if d=(15:Int)then(Option.bind (dX U (decide (((at' (at' a.2 b) c).1)=(0:Int)))) λf=>(some (f)))else(if d=(16:Int)then(ck (0<=b/\b<(a.2.length:Int)) (ck (0<=c/\c<((at' a.2 b).length:Int)) (some ((at' (at' a.2 b) c).2))))else(Option.bind (sB U ((a.1,a.2)) ((at' (at' a.2 b) c).1) b) λg=>(some (g))))))))))))))
theorem aax:bB Tryz.prog 222:=Tryz.call222
theorem PH (U:Nat) {m:cJ} {w y z:Int} (j k:V0) (u:kX) (r:Int) (h:IQ U m w y z=some r):
  bE Tryz.prog 222 #[Value.agg #[j,k],vI (w),vI (y),vI (z)] [Sl aM j m.1,S2 aY k u m.2] (λx:Unit=>vI (r)) (λx l=>l) (λ_ l=>l):=by
 refine bE.of Tryz.func222 Z Tryz.ntmps222 Z λc=>?_;refine aU<|aJ (aQ.box (cs:=[j,k]) Z Z) Z λF=>aC Z<|aP<|aN<|aU<|aA Z<|aP<|aT<|aU<|cH Z<|aC Z<|aP ?_;refine eG h Z (λh=>?_) λh=>?_
 ·refine aU<|bV Z<|dK 0 Z<|aB (dM Z (mR Z) Z) Z<|aC Z<|aP<|aS<|bF<|aG ?_;cases h;exact mO Z
 refine aU<|cH Z<|aC Z<|aP ?_;refine eG h Z (λh=>?_) λh=>?_
 ·refine aU<|cM 0 Z<|eI h λA B h=>aJ (zBb TW (EW U j k u A B) Z (iB [0,1] Z)) Z λG=>aC Z<|aP<|aS<|bF<|aG ?_;cases h;exact mO Z
 refine aU<|cH Z<|aC Z<|aP ?_;refine eG h Z (λh=>?_) λh=>?_
 ·refine aU<|bV Z<|dK 0 Z<|aA Z<|cQ h λv h=>aB (bG Z Z (b_ Z) Z Z v) Z<|aB (cI Z (b_ Z) Z Z Z eZ v) Z<|aC Z<|aP<|aS<|bF<|aG ?_;cases h;exact mO Z
 refine aU<|cH Z<|aC Z<|aP ?_;refine eG h Z (λh=>?_) λh=>?_
 ·refine aU<|bV Z<|dK 0 Z<|aA Z<|cQ h λd h=>aB (bK Z Z (mR Z) Z Z d) Z<|aB (bS Z (mR Z) Z Z d) Z<|aB (fH Z (zBc (mR Z) d.1 d.2) Z) Z<|aC Z<|aP<|aS<|bF<|aG ?_;cases h;exact mO Z
 refine aU<|cH Z<|aC Z<|aP ?_;refine eG h Z (λh=>?_) λh=>?_
 ·refine aU<|aA Z<|cH Z<|eI h λn q h=>aJ (zBb rZ (gW U n q) Z .nil) Z λC=>aC Z<|aP<|aS<|bF<|aG ?_;cases h;exact mO Z
 refine aU<|cH Z<|aC Z<|aP ?_;refine eG h Z (λh=>?_) λh=>?_
 ·refine aU<|aA Z<|aC Z<|aP<|aS<|bF<|aG ?_;cases h;exact mO Z
 refine dW<|lA<|aU<|bV Z<|dK 0 Z<|aA Z<|cQ h λa h=>aB (bK Z Z (mR Z) Z Z a) Z<|aB (bS Z (mR Z) Z Z a) Z<|aA Z<|cQ h λf h=>aB (bG Z Z (zBc (mR Z) a.1 a.2) Z Z f) Z<|aB (dC Z Z Z Z Z) Z<|aB (eL Z (zBc (mR Z) a.1 a.2) Z Z Z gA f) Z<|aC Z<|aP<|aN<|aU<|aA Z<|aP<|aT<|aU<|cH Z<|aC Z<|aP ?_;refine eG h Z (λh=>?_) λh=>?_
 ·refine aU<|bV Z<|dK 0 Z<|aA Z<|cQ h λg h=>aB (bG Z Z (b_ Z) Z Z g) Z<|aB (cI Z (b_ Z) Z Z Z eZ g) Z<|aC Z<|aP<|aS<|bF<|aG ?_;cases h;exact mO Z
 refine aU<|cH Z<|aC Z<|aP ?_;refine eG h Z (λh=>?_) λh=>?_
 ·refine aU<|bV Z<|dK 0 Z<|aA Z<|cQ h λe h=>aB (bK Z Z (mR Z) Z Z e) Z<|aB (bS Z (mR Z) Z Z e) Z<|aB (fH Z (zBc (mR Z) e.1 e.2) Z) Z<|aC Z<|aP<|aS<|bF<|aG ?_;cases h;exact mO Z
 refine aU<|cH Z<|aC Z<|aP ?_;refine eG h Z (λh=>?_) λh=>?_
 ·refine aU<|aA Z<|cH Z<|eI h λo s h=>aJ (zBb rZ (gW U o s) Z .nil) Z λD=>aC Z<|aP<|aS<|bF<|aG ?_;cases h;exact mO Z
 refine aU<|cH Z<|aC Z<|aP ?_;refine eG h Z (λh=>?_) λh=>?_
 ·refine aU<|bV Z<|dK 0 Z<|aA Z<|cQ h λb h=>aB (bK Z Z (mR Z) Z Z b) Z<|aB (bS Z (mR Z) Z Z b) Z<|aA Z<|cQ h λi h=>aB (bG Z Z (zBc (mR Z) b.1 b.2) Z Z i) Z<|aB (dC Z Z Z Z Z) Z<|aB (eL Z (zBc (mR Z) b.1 b.2) Z Z Z Fi i) Z<|aC Z<|aP<|aS<|bF<|aG ?_;cases h;exact mO Z
 refine dW<|lA<|aU<|cM 0 Z<|aA Z<|aA Z<|eI h λp t h=>aJ (zBb OE (FN U j k u p t) Z (iB [0,1] Z)) Z λE=>aC Z<|aP<|aS ?_;cases h;exact mO Z
def Ae (U:Nat) (c:cJ) (e:bQ) (b d:Int) (a:fF):Option (Int):=
 if a.1=(1:Int)then(some (a.2))else(if a.1=(2:Int)then(some (1:Int))else(if a.1=(3:Int)then(some (0:Int))else(if a.1=(4:Int)then(some (-1:Int))else(if a.1=(5:Int)then(ck (0<=b/\b<(e.length:Int)) (ck (0<=a.2/\a.2<((at' e b).length:Int)) (some (at' (at' e b) a.2))))else(if a.1=(12:Int)then(ck (0<=b/\b<(c.2.length:Int)) (ck (0<=d/\d<((at' c.2 b).length:Int)) (ck (0<=((at' (at' c.2 b) d).1)/\((at' (at' c.2 b) d).1)<(e.length:Int)) (ck (0<=a.2/\a.2<((at' e ((at' (at' c.2 b) d).1)).length:Int)) (some (at' (at' e ((at' (at' c.2 b) d).1)) a.2))))))else(Option.bind (IQ U ((c.1,c.2)) a.1 b d) λf=>(some (f))))))))
theorem aaq:bB Tryz.prog 201:=Tryz.call201
theorem PK (U:Nat) {k:cJ} {p:bQ} {q s:Int} {g:fF} (i j:V0) (u:kX) (t:V0) (w:nG) (r:Int) (h:Ae U k p q s g=some r):
  bE Tryz.prog 201 #[Value.agg #[i,j],t,vI (q),vI (s),Value.agg #[vI (g.1),vI (g.2)]] [Sl aM i k.1,S2 aY j u k.2,S2 aM t w p] (λx:Unit=>vI (r)) (λx l=>l) (λ_ l=>l):=by
 refine bE.of Tryz.func201 Z Tryz.ntmps201 Z λc=>?_;refine aU<|aJ (aQ.box (cs:=[i,j]) Z Z) Z λy=>aJ (aQ.box (cs:=[vI (g.1),vI (g.2)]) Z Z) Z λA=>aC Z<|aP<|aN<|aU<|bV Z<|dK 0 Z<|aP<|aT<|aU<|cH Z<|aC Z<|aP ?_;refine eG h Z (λh=>?_) λh=>?_
 ·refine aU<|bV Z<|dK 0 Z<|aC Z<|aP<|aS<|bF<|aG ?_;cases h;exact mO Z
 refine aU<|cH Z<|aC Z<|aP ?_;refine eG h Z (λh=>?_) λh=>?_
 ·refine aU<|aC Z<|aP<|aS<|bF<|aG ?_;cases h;exact mO Z
 refine aU<|cH Z<|aC Z<|aP ?_;refine eG h Z (λh=>?_) λh=>?_
 ·refine aU<|aC Z<|aP<|aS<|bF<|aG ?_;cases h;exact mO Z
 refine aU<|cH Z<|aC Z<|aP ?_;refine eG h Z (λh=>?_) λh=>?_
 ·refine aU<|aC Z<|aP<|aS<|bF<|aG ?_;cases h;exact mO Z
 refine aU<|cH Z<|aC Z<|aP ?_;refine eG h Z (λh=>?_) λh=>?_
 ·refine aN ?_;refine rP [0,0,3,7,0,16,63,127,255] 6 mixedOrders ?_;refine aV Z<|aV Z<|cQ h λd h=>bA Z .nil (eV 2 Z) (bK Z Z (b_ Z) Z Z d) aL.z<|bA Z .nil (eV 2 Z) (bS Z (b_ Z) Z Z d) aL.z<|cC Z<|eQ 0 Z<|bN 6 Z Z<|cQ h λo h=>aB (bG Z Z (zBc (zI Z) d.1 d.2) Z Z o) Z<|aB (cI Z (zBc (zI Z) d.1 d.2) Z Z Z eZ o) Z<|aC Z<|aP<|aS<|bF<|aG ?_;cases h;exact mO Z
 refine aU<|cH Z<|aC Z<|aP ?_;refine eG h Z (λh=>?_) λh=>?_
 ·refine aN ?_;refine rP [0,0,2,0,14,30,0,126,254,510,1023,2047,0,4096,16383,32767,65535] 14 mixedOrders ?_;refine aV Z<|cC Z<|eQ 1 Z<|aV Z<|cQ h λa h=>bA Z .nil (eV 1 Z) (bK Z Z (b_ Z) Z Z a) aL.z<|bA Z .nil (eV 1 Z) (bS Z (b_ Z) Z Z a) aL.z<|aV Z<|cQ h λe h=>bA Z .nil (eV 1 Z) (bG Z Z (zBc (b_ Z) a.1 a.2) Z Z e) aL.z<|eN Z (dC Z Z Z Z Z)<|bA Z .nil (eV 1 Z) (eL Z (zBc (b_ Z) a.1 a.2) Z Z Z gA e) aL.z<|cQ h λb h=>bA Z .nil (eV 2 Z) (bK Z Z (b_ Z) Z Z b) aL.z<|bA Z .nil (eV 2 Z) (bS Z (b_ Z) Z Z b) aL.z<|cC Z<|eQ 0 Z<|bN 14 Z Z<|cQ h λf h=>aB (bG Z Z (zBc (zI Z) b.1 b.2) Z Z f) Z<|aB (cI Z (zBc (zI Z) b.1 b.2) Z Z Z eZ f) Z<|aC Z<|aP<|aS<|bF<|aG ?_;cases h;exact mO Z
 refine dW<|lA<|aU<|cM 1 Z<|bV Z<|dK 0 Z<|aA Z<|aA Z<|eI h λm n h=>aJ (zBb aax (PH U i j u m n) Z (iB [0,1] Z)) Z λv=>aC Z<|aP<|aS ?_;cases h;exact mO Z
def sD (a:Bool):Option Bool:=
 some (a)
def tU (U:Nat) (a:Int):Option Bool:=
 if(20:Int)<=a then(sD (decide (a<=(29:Int))))else(sD (false))
theorem aar:bB Tryz.prog 202:=Tryz.call202
theorem Jh (U:Nat) {b:Int} (r:Bool) (h:tU U b=some r):
  bE Tryz.prog 202 #[vI (b)] [] (λx:Unit=>vB (r)) (λx l=>l) (λ_ l=>l):=by
 refine bE.of Tryz.func202 Z Tryz.ntmps202 Z λc=>?_;refine aU<|aC Z<|aP<|aN<|eB (λa=>sD a=some r) (λa d=>[(2,vB (a))]) (λa d=>[]) ?_ ?_
 ·refine aR<|aA Z<|aB (uI Z Z) Z<|aA Z ?_;refine Ds h Z (λ_ h=>?_) λ_ h=>?_
  ·refine dD Z<|aW Z (CS Z Z) Z<|d_ Z<|aC Z<|aP ?_;exact f_ (decide (b<=(29:Int))) () h SF Z
  refine aO Z<|aO Z<|eR Z<|aC Z<|aP ?_;exact f_ (false) () h SF Z
 intro a d h;unfold sD at h;refine aS ?_;cases h;exact iR Z
def nV (U:Nat) (a:Int):Option (Int):=
 some (min (max a (-1073741824:Int)) (1073741824:Int))
theorem T_:bB Tryz.prog 224:=Tryz.call224
theorem EX (U:Nat) {a:Int} (r:Int) (h:nV U a=some r):
  bE Tryz.prog 224 #[vI (a)] [] (λx:Unit=>vI (r)) (λx l=>l) (λ_ l=>l):=by
 refine bE.of Tryz.func224 Z Tryz.ntmps224 Z λc=>?_;unfold nV at h;refine aU<|aC Z<|aP<|aU<|aA Z<|aB (HB Z Z) Z<|aB (Nq Z Z) Z<|aC Z<|aP<|aS ?_;cases h;exact iR Z
def yK (a:Unit):Option Bool:=
 some (false)
def pG (c:bT) (d a:Int) (b:(Int)->Option Bool):Option Bool:=
 if a<(c.length:Int)then(ck (0<=a/\a<(c.length:Int)) (if(at' c a)=d then(some (true))else(b (wI .i64 (a+(1:Int))))))else(yK (()))
def uW (U:Nat) (a:bT) (b:Int):Option Bool:=
 bL (pG a b) U (0:Int)
theorem aay:bB Tryz.prog 225:=Tryz.call225
theorem Mt (U:Nat) {e:bT} {d:Int} (f:V0) (r:Bool) (h:uW U e d=some r):
  bE Tryz.prog 225 #[f,vI (d)] [Sl aM f e] (λx:Unit=>vB (r)) (λx l=>l) (λ_ l=>l):=by
 refine bE.of Tryz.func225 Z Tryz.ntmps225 Z λc=>?_;unfold uW at h;refine aU<|aC Z<|aP<|aN<|eB (λa=>yK a=some r) (λa g=>[]) (λa g=>[]) ?_ ?_
 ·refine aU<|aC Z<|aP<|aT<|eW (pG e d) (λb i=>[(0,f),(1,vI (d)),(5,vI (b))]) (λb i=>[]) (0:Int) () h SF (a_.refl _) ?_;intro k b i h;refine aN<|aU<|aA Z<|aA Z<|iL (b_ Z) Z<|cU Z<|aP ?_;refine eG h Z (λh=>?_) λh=>?_
  ·refine cL<|aN<|aT<|aU<|aA Z<|aA Z<|cQ h λj h=>aB (bG Z Z (b_ Z) Z Z j) Z<|aB (cI Z (b_ Z) Z Z Z eZ j) Z<|aA Z<|cH Z<|aP ?_;refine eG h Z (λh=>?_) λh=>?_
   ·refine aU<|aC Z<|aP<|aS<|bF<|aG<|aG<|bF<|aG ?_;cases h;exact iR Z
   refine dW<|lA<|aR<|aA Z<|cN Z<|aC Z<|aP ?_;exact xD (wI .i64 (b+(1:Int))) () h SF Z
  refine eP ?_;exact f_ () (()) h SF Z
 intro a g h;unfold yK at h;refine aU<|aC Z<|aP<|aS ?_;cases h;exact iR Z
def Cb (a:Int):Option (Int):=
 some (a)
def xQ (U:Nat) (d:bT) (a:Int) (b:(Int)->Option (Int)):Option (Int):=
 Option.bind (uW U d a) λc=>(if c=true then(b (wI .i64 (a+(1:Int))))else(Cb (a)))
def tH (U:Nat) (a:Int) (c:bT) (b:Int×Int×Int×Int×Int×Int):Option (Int):=
 if a=(20:Int)then(Option.bind (dX U (decide (b.1=(c.length:Int)))) λd=>(some (d)))else(if a=(21:Int)then(Option.bind (dX U (decide ((0:Int)<b.1))) λe=>(some (e)))else(if a=(22:Int)then(some (b.1))else(if a=(23:Int)then(some (b.2.1))else(if a=(24:Int)then(some (b.2.2.1))else(if a=(25:Int)then(some (b.2.2.2.1))else(if a=(26:Int)then(Option.bind (nV U b.2.2.2.2.2) λf=>(some (f)))else(if a=(28:Int)then(some (b.2.2.2.2.1))else(if a=(27:Int)then(bL (xQ U c) U (0:Int))else(if(c.length:Int)=(0:Int)then(some (0:Int))else(ck (0<=(0:Int)/\(0:Int)<(c.length:Int)) (some (at' c (0:Int)))))))))))))
def Cd (b:bT) (a:Ry) (c:UT->Option (Int)) (d e:Int):Option (Int):=
 ck (0<=a.2.2.2.2.2.2/\a.2.2.2.2.2.2<(b.length:Int)) (ck (0<=a.2.2.2.2.2.2/\a.2.2.2.2.2.2<(b.length:Int)) (ck (0<=a.2.2.2.2.2.2/\a.2.2.2.2.2.2<(b.length:Int)) (ck (0<=a.2.2.2.2.2.2/\a.2.2.2.2.2.2<(b.length:Int)) (c (d,e,(min a.2.2.1 (at' b a.2.2.2.2.2.2)),(max a.2.2.2.1 (at' b a.2.2.2.2.2.2)),(max a.2.2.2.2.1 (min a.2.2.2.1 (at' b a.2.2.2.2.2.2))),(wI .i64 (a.2.2.2.2.2.1+(at' b a.2.2.2.2.2.2))),(wI .i64 (a.2.2.2.2.2.2+(1:Int))))))))
def Ce (e:bT) (a:Ry) (b:UT->Option (Int)) (c:Int) (d:Bool):Option (Int):=
 if d=true then(Cd e a b c (a.2.2.2.2.2.2))else(Cd e a b c (a.2.1))
def Cc (d:bT) (a:Ry) (b:UT->Option (Int)) (c:Int):Option (Int):=
 ck (0<=a.2.2.2.2.2.2/\a.2.2.2.2.2.2<(d.length:Int)) (if(at' d a.2.2.2.2.2.2)≠(0:Int)then(Ce d a b c (decide (a.2.1<(0:Int))))else(Ce d a b c (false)))
def nR (U:Nat) (d:Int) (c:bT) (a:Ry) (b:UT->Option (Int)):Option (Int):=
 if a.2.2.2.2.2.2<(c.length:Int)then(ck (0<=a.2.2.2.2.2.2/\a.2.2.2.2.2.2<(c.length:Int)) (if(at' c a.2.2.2.2.2.2)≠(0:Int)then(Cc c a b (wI .i64 (a.1+(1:Int))))else(Cc c a b (a.1))))else(tH U d c (a.1,a.2.1,a.2.2.1,a.2.2.2.1,a.2.2.2.2.1,a.2.2.2.2.2.1))
def nL (U:Nat) (a:Int) (b:bT):Option (Int):=
 bL (nR U a b) U ((0:Int),(-1:Int),(1073741824:Int),(-1073741824:Int),(-1073741824:Int),(0:Int),(0:Int))
theorem aas:bB Tryz.prog 203:=Tryz.call203
theorem PI (U:Nat) {p:Int} {g:bT} (q:V0) (r:Int) (h:nL U p g=some r):
  bE Tryz.prog 203 #[vI (p),q] [Sl aM q g] (λx:Unit=>vI (r)) (λx l=>l) (λ_ l=>l):=by
 refine bE.of Tryz.func203 Z Tryz.ntmps203 Z λc=>?_;unfold nL at h;refine aU<|aC Z<|aP<|aU<|aC Z<|aC Z<|aC Z<|aC Z<|aC Z<|aC Z<|aP<|aN<|eB (λo=>tH U p g o=some r) (λo Q=>[(0,vI (p)),(1,q),(5,vI (o.1)),(6,vI (o.2.1)),(7,vI (o.2.2.1)),(8,vI (o.2.2.2.1)),(9,vI (o.2.2.2.2.1)),(10,vI (o.2.2.2.2.2))]) (λo Q=>[]) ?_ ?_
 ·refine aU<|aC Z<|aP<|aT<|eW (nR U p g) (λa v=>[(0,vI (p)),(1,q),(5,vI (a.1)),(6,vI (a.2.1)),(7,vI (a.2.2.1)),(8,vI (a.2.2.2.1)),(9,vI (a.2.2.2.2.1)),(10,vI (a.2.2.2.2.2.1)),(11,vI (a.2.2.2.2.2.2))]) (λa v=>[]) ((0:Int),(-1:Int),(1073741824:Int),(-1073741824:Int),(-1073741824:Int),(0:Int),(0:Int)) () h SF (a_.refl _) ?_;intro H a v h;let m:=a.2.2.1;let s:=(bL (nR U p g) H)
  let b:=a.2.2.2;let n:=b.2.2.1;let e:=b.2.2.2;refine aN<|aU<|aA Z<|aA Z<|iL (b_ Z) Z<|cU Z<|aP ?_;refine eG h Z (λh=>?_) λh=>?_
  ·refine cL<|aN<|aT<|aN<|eB (λd=>Cc g a s d=some r) (λd w=>[(0,vI (p)),(1,q),(5,vI (d)),(6,vI (a.2.1)),(7,vI (m)),(8,vI (b.1)),(9,vI (b.2.1)),(10,vI (n)),(11,vI (e))]) (λd w=>[]) ?_ ?_
   ·refine aU<|aA Z<|aA Z<|cQ h λG h=>aB (bG Z Z (b_ Z) Z Z G) Z<|aB (cI Z (b_ Z) Z Z Z eZ G) Z<|lB Z<|aP ?_;refine eG h Z (λh=>?_) λh=>?_
    ·refine aR<|aA Z<|cN Z<|aC Z<|aP ?_;exact f_ (wI .i64 (a.1+(1:Int))) () h SF Z
    refine cL ?_;exact f_ (a.1) () h SF Z
   intro d w h;refine aN<|eB (λf=>Cd g a s d f=some r) (λf y=>[(0,vI (p)),(1,q),(5,vI (d)),(6,vI (f)),(7,vI (m)),(8,vI (b.1)),(9,vI (b.2.1)),(10,vI (n)),(11,vI (e))]) (λf y=>[]) ?_ ?_
   ·refine aN<|eB (λk=>Ce g a s d k=some r) (λk z=>[(0,vI (p)),(1,q),(5,vI (d)),(6,vI (a.2.1)),(7,vI (m)),(8,vI (b.1)),(9,vI (b.2.1)),(10,vI (n)),(11,vI (e)),(34,vB (k))]) (λk z=>[]) ?_ ?_
    ·refine aR<|aA Z<|aA Z<|cQ h λF h=>aB (bG Z Z (b_ Z) Z Z F) Z<|aB (cI Z (b_ Z) Z Z Z eZ F) Z<|lB Z<|aA Z ?_;refine Ds h Z (λ_ h=>?_) λ_ h=>?_
     ·refine dD Z<|aW Z (EF Z Z) Z<|d_ Z<|aP ?_;exact f_ (decide (a.2.1<(0:Int))) () h SF Z
     refine aO Z<|aO Z<|eR Z<|aP ?_;exact f_ (false) () h SF Z
    intro k z h;refine rR h Z (λ_ h=>?_) λ_ h=>?_
    ·refine aR<|aA Z<|aC Z<|aP ?_;exact f_ (e) () h SF Z
    refine cL ?_;exact f_ (a.2.1) () h SF Z
   intro f y h;refine aU<|aA Z<|aA Z<|aA Z<|cQ h λB h=>aB (bG Z Z (b_ Z) Z Z B) Z<|aB (cI Z (b_ Z) Z Z Z eZ B) Z<|aB (Nq Z Z) Z<|aC Z<|aP<|aU<|aA Z<|aA Z<|aA Z<|aA Z<|cQ h λC h=>aB (bG Z Z (b_ Z) Z Z C) Z<|aB (cI Z (b_ Z) Z Z Z eZ C) Z<|aB (Nq Z Z) Z<|aB (HB Z Z) Z<|aC Z<|aP<|aU<|aA Z<|aA Z<|aA Z<|cQ h λD h=>aB (bG Z Z (b_ Z) Z Z D) Z<|aB (cI Z (b_ Z) Z Z Z eZ D) Z<|aB (HB Z Z) Z<|aC Z<|aP<|aR<|aA Z<|aA Z<|aA Z<|cQ h λE h=>aB (bG Z Z (b_ Z) Z Z E) Z<|aB (cI Z (b_ Z) Z Z Z eZ E) Z<|cN Z<|aC Z<|eS<|lA<|aR<|aA Z<|cN Z<|aC Z<|aP ?_;exact xD (d,f,(min m (at' g e)),(max b.1 (at' g e)),(max b.2.1 (min b.1 (at' g e))),(wI .i64 (n+(at' g e))),(wI .i64 (e+(1:Int)))) () h SF Z
  refine eP ?_;exact f_ (a.1,a.2.1,m,b.1,b.2.1,n) () h SF Z
 intro o Q h;refine aN<|aU<|aA Z<|aP<|aT<|aU<|cH Z<|aC Z<|aP ?_;refine eG h Z (λh=>?_) λh=>?_
 ·refine aU<|aA Z<|aA Z<|iL (b_ Z) Z<|cH Z<|eI h λI M h=>aJ (zBb rZ (gW U I M) Z .nil) Z λS=>aC Z<|aP<|aS<|bF<|aG ?_;cases h;exact iR Z
 refine aU<|cH Z<|aC Z<|aP ?_;refine eG h Z (λh=>?_) λh=>?_
 ·refine aU<|aA Z<|aB (wY Z Z) Z<|eI h λJ N h=>aJ (zBb rZ (gW U J N) Z .nil) Z λT=>aC Z<|aP<|aS<|bF<|aG ?_;cases h;exact iR Z
 refine aU<|cH Z<|aC Z<|aP ?_;refine eG h Z (λh=>?_) λh=>?_
 ·refine aU<|aA Z<|aC Z<|aP<|aS<|bF<|aG ?_;cases h;exact iR Z
 refine aU<|cH Z<|aC Z<|aP ?_;refine eG h Z (λh=>?_) λh=>?_
 ·refine aU<|aA Z<|aC Z<|aP<|aS<|bF<|aG ?_;cases h;exact iR Z
 refine aU<|cH Z<|aC Z<|aP ?_;refine eG h Z (λh=>?_) λh=>?_
 ·refine aU<|aA Z<|aC Z<|aP<|aS<|bF<|aG ?_;cases h;exact iR Z
 refine aU<|cH Z<|aC Z<|aP ?_;refine eG h Z (λh=>?_) λh=>?_
 ·refine aU<|aA Z<|aC Z<|aP<|aS<|bF<|aG ?_;cases h;exact iR Z
 refine aU<|cH Z<|aC Z<|aP ?_;refine eG h Z (λh=>?_) λh=>?_
 ·refine aU<|aA Z<|eI h λK O h=>aJ (zBb T_ (EX U K O) Z .nil) Z λV=>aC Z<|aP<|aS<|bF<|aG ?_;cases h;exact iR Z
 refine aU<|cH Z<|aC Z<|aP ?_;refine eG h Z (λh=>?_) λh=>?_
 ·refine aU<|aA Z<|aC Z<|aP<|aS<|bF<|aG ?_;cases h;exact iR Z
 refine aU<|cH Z<|aC Z<|aP ?_;refine eG h Z (λh=>?_) λh=>?_
 ·refine aU<|aC Z<|aP<|aN<|eB (λi=>Cb i=some r) (λi t=>[(12,vI (i))]) (λi t=>[]) ?_ ?_
  ·refine aT<|eW (xQ U g) (λj u=>[(1,q),(12,vI (j))]) (λj u=>[]) (0:Int) () h SF (a_.refl _) ?_;intro R j u h;refine aN<|aU<|aA Z<|aA Z<|eI h λL P h=>aJ (zBb aay (Mt U q L P) Z (iB [0] Z)) Z λW=>aP ?_;refine rR h Z (λ_ h=>?_) λ_ h=>?_
   ·refine cL<|aT<|aR<|aA Z<|cN Z<|aC Z<|eS<|lA ?_;exact xD (wI .i64 (j+(1:Int))) () h SF Z
   refine eP ?_;exact f_ (j) () h SF Z
  intro i t h;unfold Cb at h;refine aU<|aA Z<|aC Z<|aP<|aS<|bF<|aG ?_;cases h;exact iR Z
 refine dW<|lA<|aN<|aU<|aA Z<|iL (b_ Z) Z<|cH Z<|aP ?_;refine eG h Z (λh=>?_) λh=>?_
 ·refine aU<|aC Z<|aP<|aS<|aG ?_;cases h;exact iR Z
 refine cL<|aU<|aA Z<|cQ h λA h=>aB (bG Z Z (b_ Z) Z Z A) Z<|aB (cI Z (b_ Z) Z Z Z eZ A) Z<|aC Z<|aP<|aS ?_;cases h;exact iR Z
def sZ (a:Bool):Option Bool:=
 some (a)
def oG (U:Nat) (a:Int):Option Bool:=
 if(-1073741824:Int)<=a then(sZ (decide (a<=(1073741824:Int))))else(sZ (false))
theorem KU:bB Tryz.prog 226:=Tryz.call226
theorem AV (U:Nat) {b:Int} (r:Bool) (h:oG U b=some r):
  bE Tryz.prog 226 #[vI (b)] [] (λx:Unit=>vB (r)) (λx l=>l) (λ_ l=>l):=by
 refine bE.of Tryz.func226 Z Tryz.ntmps226 Z λc=>?_;refine aU<|aC Z<|aP<|aN<|eB (λa=>sZ a=some r) (λa d=>[(2,vB (a))]) (λa d=>[]) ?_ ?_
 ·refine aR<|aA Z<|aB (uI Z Z) Z<|aA Z ?_;refine Ds h Z (λ_ h=>?_) λ_ h=>?_
  ·refine dD Z<|aW Z (CS Z Z) Z<|d_ Z<|aC Z<|aP ?_;exact f_ (decide (b<=(1073741824:Int))) () h SF Z
  refine aO Z<|aO Z<|eR Z<|aC Z<|aP ?_;exact f_ (false) () h SF Z
 intro a d h;unfold sZ at h;refine aS ?_;cases h;exact iR Z
def vJ (U:Nat) (c a:Int) (b:Bool):Option fW:=
 if b=true then(some ((0:Int),(2:Int)))else(if c=(18:Int)then(some ((wI .i64 (0 - a)),(0:Int)))else(Option.bind (dX U (decide (a=(0:Int)))) λd=>(some (d,(0:Int)))))
def Er (U:Nat) (a b:Int):Option fW:=
 if a≠(18:Int)then(if a≠(19:Int)then(vJ U a b (true))else(Option.bind (oG U b) λc=>(vJ U a b ((!c)))))else(Option.bind (oG U b) λd=>(vJ U a b ((!d))))
theorem aat:bB Tryz.prog 204:=Tryz.call204
theorem Na (U:Nat) {e f:Int} (r:fF) (h:Er U e f=some r):
  bE Tryz.prog 204 #[vI (e),vI (f)] [] (λx:Unit=>Value.tuple #[vI (r.1),vI (r.2)]) (λx l=>l) (λ_ l=>l):=by
 refine bE.of Tryz.func204 Z Tryz.ntmps204 Z λc=>?_;refine aU<|aC Z<|aC Z<|aP<|aN<|aN<|eB (λa=>vJ U e f a=some r) (λa j=>[(0,vI (e)),(1,vI (f)),(16,vB (a))]) (λa j=>[]) ?_ ?_
 ·refine aR<|aA Z<|lB Z<|aA Z ?_;refine Ds h Z (λ_ h=>?_) λ_ h=>?_
  ·refine dD Z<|aW Z (Bg Z Z) Z<|d_ Z<|aA Z ?_;refine Ds h Z (λ_ h=>?_) λ_ h=>?_
   ·refine aO Z<|aO Z<|aO Z<|d_ Z<|aP ?_;exact f_ (true) () h SF Z
   refine dD Z<|eI h λb g h=>oU Z (zBb KU (AV U b g) Z .nil) Z λn=>aW Z (jG Z) Z<|eR Z<|aP ?_;exact f_ ((!b)) () h SF Z
  refine aO Z<|aO Z<|eR Z<|aA Z<|dD Z<|eI h λd i h=>oU Z (zBb KU (AV U d i) Z .nil) Z λo=>aW Z (jG Z) Z<|eR Z<|aP ?_;exact f_ ((!d)) () h SF Z
 intro a j h;refine rR h Z (λ_ h=>?_) λ_ h=>?_
 ·refine aU<|aC Z<|aC Z<|aP<|aS<|aG ?_;cases h;exact gY () Z Z (RV.tmp Z) (RV.tmp Z) (a_.refl _) aH.nil
 refine cL<|aN<|aU<|aA Z<|cH Z<|aP ?_;refine eG h Z (λh=>?_) λh=>?_
 ·refine aU<|aA Z<|aB (abW Z) Z<|aC Z<|aC Z<|aP<|aS<|aG ?_;cases h;exact gY () Z Z (RV.tmp Z) (RV.tmp Z) (a_.refl _) aH.nil
 refine cL<|aU<|aA Z<|cH Z<|eI h λk m h=>aJ (zBb rZ (gW U k m) Z .nil) Z λp=>aC Z<|aC Z<|aP<|aS ?_;cases h;exact gY () Z Z (RV.tmp Z) (RV.tmp Z) (a_.refl _) aH.nil
def pR (a:Int):Option (Int):=
 some (a)
def t_ (a b:Int) (c:Bool):Option (Int):=
 if c=true then(pR (wI .i64 ((wI .i64 (Int.tdiv a b)) - (1:Int))))else(pR (wI .i64 (Int.tdiv a b)))
def mB (U:Nat) (b a:Int):Option (Int):=
 if a=(0:Int)then(some (0:Int))else(ck (a≠0) (ck (a≠0) (if(Int.tmod b a)≠(0:Int)then(t_ b a (((decide (b<(0:Int))) != (decide (a<(0:Int))))))else(t_ b a (false)))))
theorem Ub:bB Tryz.prog 254:=Tryz.call254
theorem EY (U:Nat) {a b:Int} (r:Int) (h:mB U a b=some r):
  bE Tryz.prog 254 #[vI (a),vI (b)] [] (λx:Unit=>vI (r)) (λx l=>l) (λ_ l=>l):=by
 refine bE.of Tryz.func254 Z Tryz.ntmps254 Z λc=>?_;refine aU<|aC Z<|aP<|aN<|aU<|aA Z<|cH Z<|aP ?_;refine eG h Z (λh=>?_) λh=>?_
 ·refine aU<|aC Z<|aP<|aS<|aG ?_;cases h;exact iR Z
 refine cL<|aU<|aA Z<|aA Z<|cQ h λj h=>aB (WW Z Z j) Z<|aC Z<|aP<|aN<|eB (λd=>pR d=some r) (λd g=>[(5,vI (d))]) (λd g=>[]) ?_ ?_
 ·refine aN<|eB (λe=>t_ a b e=some r) (λe i=>[(5,vI (wI .i64 (Int.tdiv a b))),(21,vB (e))]) (λe i=>[]) ?_ ?_
  ·refine aR<|aA Z<|aA Z<|cQ h λf h=>aB (Nr Z Z f) Z<|lB Z<|aA Z ?_;refine Ds h Z (λ_ h=>?_) λ_ h=>?_
   ·refine dD Z<|aW Z (EF Z Z) Z<|dD Z<|aW Z (EF Z Z) Z<|aW Z (WV Z Z Z) Z<|d_ Z<|aP ?_;exact f_ (((decide (a<(0:Int))) != (decide (b<(0:Int))))) () h SF Z
   refine aO Z<|aO Z<|aO Z<|aO Z<|aO Z<|eR Z<|aP ?_;exact f_ (false) () h SF Z
  intro e i h;refine rR h Z (λ_ h=>?_) λ_ h=>?_
  ·refine aR<|aA Z<|aB (nI Z Z) Z<|aC Z<|aP ?_;exact f_ (wI .i64 ((wI .i64 (Int.tdiv a b)) - (1:Int))) () h SF Z
  refine cL ?_;exact f_ (wI .i64 (Int.tdiv a b)) () h SF Z
 intro d g h;unfold pR at h;refine aU<|aA Z<|aC Z<|aP<|aS ?_;cases h;exact iR Z
def As (a:Int):Option (Int):=
 some (a)
def Au (a:Int):Option (Int):=
 some (a)
def Es (U:Nat) (c b a:Int):Option (Int):=
 if c=(30:Int)then(some (wI .i64 (b*a)))else(if c=(31:Int)then(Option.bind (mB U b a) λn=>(some (n)))else(if c=(32:Int)then(if a=(0:Int)then(some (0:Int))else(Option.bind (mB U b a) λo=>(some (wI .i64 (b - (wI .i64 (a*o)))))))else(if c=(33:Int)then(some (wI .i64 (b+a)))else(if c=(34:Int)then(some (wI .i64 (b - a)))else(if c=(35:Int)then(Option.bind (dX U (decide (b=a))) λd=>(some (d)))else(if c=(36:Int)then(Option.bind (dX U (decide (b≠a))) λe=>(some (e)))else(if c=(37:Int)then(Option.bind (dX U (decide (b<a))) λf=>(some (f)))else(if c=(38:Int)then(Option.bind (dX U (decide (b<=a))) λg=>(some (g)))else(if c=(39:Int)then(Option.bind (dX U (decide (a<b))) λh=>(some (h)))else(if c=(40:Int)then(Option.bind (dX U (decide (a<=b))) λi=>(some (i)))else(if c=(41:Int)then(if b≠(0:Int)then(Option.bind (dX U (decide (a≠(0:Int)))) λj=>(As (j)))else(Option.bind (dX U false) λk=>(As (k))))else(if b≠(0:Int)then(Option.bind (dX U true) λl=>(Au (l)))else(Option.bind (dX U (decide (a≠(0:Int)))) λm=>(Au (m)))))))))))))))
theorem aaz:bB Tryz.prog 227:=Tryz.call227
theorem Nb (U:Nat) {D E F:Int} (r:Int) (h:Es U D E F=some r):
  bE Tryz.prog 227 #[vI (D),vI (E),vI (F)] [] (λx:Unit=>vI (r)) (λx l=>l) (λ_ l=>l):=by
 refine bE.of Tryz.func227 Z Tryz.ntmps227 Z λc=>?_;refine aU<|aC Z<|aP<|aN<|aU<|aA Z<|aP<|aT<|aU<|cH Z<|aC Z<|aP ?_;refine eG h Z (λh=>?_) λh=>?_
 ·refine aU<|aA Z<|aA Z<|aB (xA Z Z) Z<|aC Z<|aP<|aS<|bF<|aG ?_;cases h;exact iR Z
 refine aU<|cH Z<|aC Z<|aP ?_;refine eG h Z (λh=>?_) λh=>?_
 ·refine aU<|aA Z<|aA Z<|eI h λG I h=>aJ (zBb Ub (EY U G I) Z .nil) Z λW=>aC Z<|aP<|aS<|bF<|aG ?_;cases h;exact iR Z
 refine aU<|cH Z<|aC Z<|aP ?_;refine eG h Z (λh=>?_) λh=>?_
 ·refine aN<|aU<|aA Z<|cH Z<|aP ?_;refine eG h Z (λh=>?_) λh=>?_
  ·refine aU<|aC Z<|aP<|aS<|aG<|bF<|aG ?_;cases h;exact iR Z
  refine cL<|aU<|aA Z<|aA Z<|aA Z<|aA Z<|eI h λH J h=>aJ (zBb Ub (EY U H J) Z .nil) Z λK=>aB (xA Z Z) Z<|aB (nI Z Z) Z<|aC Z<|aP<|aS<|bF<|aG ?_;cases h;exact iR Z
 refine aU<|cH Z<|aC Z<|aP ?_;refine eG h Z (λh=>?_) λh=>?_
 ·refine aU<|aA Z<|aA Z<|cN Z<|aC Z<|aP<|aS<|bF<|aG ?_;cases h;exact iR Z
 refine aU<|cH Z<|aC Z<|aP ?_;refine eG h Z (λh=>?_) λh=>?_
 ·refine aU<|aA Z<|aA Z<|aB (nI Z Z) Z<|aC Z<|aP<|aS<|bF<|aG ?_;cases h;exact iR Z
 refine aU<|cH Z<|aC Z<|aP ?_;refine eG h Z (λh=>?_) λh=>?_
 ·refine aU<|aA Z<|aA Z<|cH Z<|eI h λk s h=>aJ (zBb rZ (gW U k s) Z .nil) Z λL=>aC Z<|aP<|aS<|bF<|aG ?_;cases h;exact iR Z
 refine aU<|cH Z<|aC Z<|aP ?_;refine eG h Z (λh=>?_) λh=>?_
 ·refine aU<|aA Z<|aA Z<|lB Z<|eI h λm t h=>aJ (zBb rZ (gW U m t) Z .nil) Z λM=>aC Z<|aP<|aS<|bF<|aG ?_;cases h;exact iR Z
 refine aU<|cH Z<|aC Z<|aP ?_;refine eG h Z (λh=>?_) λh=>?_
 ·refine aU<|aA Z<|aA Z<|cU Z<|eI h λn u h=>aJ (zBb rZ (gW U n u) Z .nil) Z λN=>aC Z<|aP<|aS<|bF<|aG ?_;cases h;exact iR Z
 refine aU<|cH Z<|aC Z<|aP ?_;refine eG h Z (λh=>?_) λh=>?_
 ·refine aU<|aA Z<|aA Z<|aB (CS Z Z) Z<|eI h λo v h=>aJ (zBb rZ (gW U o v) Z .nil) Z λO=>aC Z<|aP<|aS<|bF<|aG ?_;cases h;exact iR Z
 refine aU<|cH Z<|aC Z<|aP ?_;refine eG h Z (λh=>?_) λh=>?_
 ·refine aU<|aA Z<|aA Z<|aB (wY Z Z) Z<|eI h λp w h=>aJ (zBb rZ (gW U p w) Z .nil) Z λP=>aC Z<|aP<|aS<|bF<|aG ?_;cases h;exact iR Z
 refine aU<|cH Z<|aC Z<|aP ?_;refine eG h Z (λh=>?_) λh=>?_
 ·refine aU<|aA Z<|aA Z<|aB (uI Z Z) Z<|eI h λq y h=>aJ (zBb rZ (gW U q y) Z .nil) Z λQ=>aC Z<|aP<|aS<|bF<|aG ?_;cases h;exact iR Z
 refine aU<|cH Z<|aC Z<|aP ?_;refine eG h Z (λh=>?_) λh=>?_
 ·refine aN<|eB (λa=>As a=some r) (λa d=>[(6,vI (a))]) (λa d=>[]) ?_ ?_
  ·refine aR<|aA Z<|lB Z<|aA Z ?_;refine Ds h Z (λ_ h=>?_) λ_ h=>?_
   ·refine dD Z<|aW Z (Bg Z Z) Z<|d_ Z<|eI h λf z h=>aJ (zBb rZ (gW U f z) Z .nil) Z λR=>aC Z<|aP ?_;exact f_ (f) () h SF Z
   refine aO Z<|aO Z<|eR Z<|eI h λg A h=>aJ (zBb rZ (gW U g A) Z .nil) Z λS=>aC Z<|aP ?_;exact f_ (g) () h SF Z
  intro a d h;unfold As at h;refine aS<|bF<|aG ?_;cases h;exact iR Z
 refine dW<|lA<|aN<|eB (λb=>Au b=some r) (λb e=>[(6,vI (b))]) (λb e=>[]) ?_ ?_
 ·refine aR<|aA Z<|lB Z<|aA Z ?_;refine Ds h Z (λ_ h=>?_) λ_ h=>?_
  ·refine aO Z<|aO Z<|d_ Z<|eI h λi B h=>aJ (zBb rZ (gW U i B) Z .nil) Z λT=>aC Z<|aP ?_;exact f_ (i) () h SF Z
  refine dD Z<|aW Z (Bg Z Z) Z<|eR Z<|eI h λj C h=>aJ (zBb rZ (gW U j C) Z .nil) Z λV=>aC Z<|aP ?_;exact f_ (j) () h SF Z
 intro b e h;unfold Au at h;refine aS ?_;cases h;exact iR Z
def pF (U:Nat) (b c d:Int) (a:Bool):Option fW:=
 if a=true then(some ((0:Int),(2:Int)))else(Option.bind (Es U b c d) λe=>(Option.bind (nV U e) λf=>(some (f,(0:Int)))))
def Ad (U:Nat) (a b c:Int):Option fW:=
 if a<(30:Int)then(pF U a b c (true))else(if(42:Int)<a then(pF U a b c (true))else(Option.bind (oG U b) λd=>(if(!d)=true then(pF U a b c (true))else(Option.bind (oG U c) λe=>(pF U a b c ((!e)))))))
theorem aau:bB Tryz.prog 205:=Tryz.call205
theorem Ms (U:Nat) {e f g:Int} (r:fF) (h:Ad U e f g=some r):
  bE Tryz.prog 205 #[vI (e),vI (f),vI (g)] [] (λx:Unit=>Value.tuple #[vI (r.1),vI (r.2)]) (λx l=>l) (λ_ l=>l):=by
 refine bE.of Tryz.func205 Z Tryz.ntmps205 Z λc=>?_;refine aU<|aC Z<|aC Z<|aP<|aN<|aN<|eB (λb=>pF U e f g b=some r) (λb m=>[(0,vI (e)),(1,vI (f)),(2,vI (g)),(23,vB (b))]) (λb m=>[]) ?_ ?_
 ·refine aR<|aA Z<|cU Z<|aA Z ?_;refine Ds h Z (λ_ h=>?_) λ_ h=>?_
  ·refine aO Z<|aO Z<|d_ Z<|aA Z<|aO Z<|aO Z<|aO Z<|d_ Z<|aA Z<|aO Z<|aO Z<|aO Z<|d_ Z<|aP ?_;exact f_ (true) () h SF Z
  refine dD Z<|aW Z (wY Z Z) Z<|eR Z<|aA Z ?_;refine Ds h Z (λ_ h=>?_) λ_ h=>?_
  ·refine aO Z<|aO Z<|aO Z<|d_ Z<|aA Z<|aO Z<|aO Z<|aO Z<|d_ Z<|aP ?_;exact f_ (true) () h SF Z
  refine dD Z<|eI h λi j h=>oU Z (zBb KU (AV U i j) Z .nil) Z λt=>aW Z (jG Z) Z<|eR Z<|aA Z ?_;refine vW (by exact rfl) (by exact rfl) (λa=>?_) (λa=>?_)
  ·have h:=Hh a h;refine aO Z<|aO Z<|aO Z<|d_ Z<|aP ?_;exact f_ (true) () h SF Z
  have h:=En a h;refine dD Z<|eI h λd k h=>oU Z (zBb KU (AV U d k) Z .nil) Z λu=>aW Z (jG Z) Z<|eR Z<|aP ?_;exact f_ ((!d)) () h SF Z
 intro b m h;refine rR h Z (λ_ h=>?_) λ_ h=>?_
 ·refine aU<|aC Z<|aC Z<|aP<|aS<|aG ?_;cases h;exact gY () Z Z (RV.tmp Z) (RV.tmp Z) (a_.refl _) aH.nil
 refine cL<|aU<|aA Z<|aA Z<|aA Z<|eI h λn p h=>aJ (zBb aaz (Nb U n p) Z .nil) Z λv=>eI h λo q h=>aJ (zBb T_ (EX U o q) Z .nil) Z λs=>aC Z<|aC Z<|aP<|aS ?_;cases h;exact gY () Z Z (RV.tmp Z) (RV.tmp Z) (a_.refl _) aH.nil
def FE (a:Unit):Option (Int):=
 some (-1:Int)
def IT (U:Nat) (d:fI) (a:fF) (c:fW->Option (Int)):Option (Int):=
 if a.2<(d.length:Int)then(ck (0<=a.2/\a.2<(d.length:Int)) (Option.bind (nQ U ((at' d a.2).1)) λb=>(if b<(0:Int)then(some (-1:Int))else(if(wI .i64 (a.1+(wI .i64 (b - (1:Int)))))=(0:Int)then(some (wI .i64 (a.2+(1:Int))))else(c ((wI .i64 (a.1+(wI .i64 (b - (1:Int))))),(wI .i64 (a.2+(1:Int)))))))))else(FE (()))
def FD (U:Nat) (b:fI) (c:Int) (a:Bool):Option (Int):=
 if a=true then(some (-1:Int))else(bL (IT U b) U ((1:Int),c))
def Gy (U:Nat) (b:fI) (a:Int):Option (Int):=
 if a<(0:Int)then(FD U b a (true))else(FD U b a (decide ((b.length:Int)<=a)))
theorem Ua:bB Tryz.prog 228:=Tryz.call228
theorem Ku (U:Nat) {g:fI} {b:Int} (k:V0) (r:Int) (h:Gy U g b=some r):
  bE Tryz.prog 228 #[k,vI (b)] [Sl aY k g] (λx:Unit=>vI (r)) (λx l=>l) (λ_ l=>l):=by
 refine bE.of Tryz.func228 Z Tryz.ntmps228 Z λc=>?_;refine aU<|aC Z<|aP<|aN<|aN<|eB (λd=>FD U g b d=some r) (λd n=>[(0,k),(1,vI (b)),(15,vB (d))]) (λd n=>[]) ?_ ?_
 ·refine aR<|aA Z<|cU Z<|aA Z ?_;refine Ds h Z (λ_ h=>?_) λ_ h=>?_
  ·refine aO Z<|aO Z<|aO Z<|aO Z<|d_ Z<|aP ?_;exact f_ (true) () h SF Z
  refine dD Z<|dD Z<|aW Z (fH Z (b_ Z) Z) Z<|aW Z (uI Z Z) Z<|eR Z<|aP ?_;exact f_ (decide ((g.length:Int)<=b)) () h SF Z
 intro d n h;refine rR h Z (λ_ h=>?_) λ_ h=>?_
 ·refine aU<|aC Z<|aP<|aS<|aG ?_;cases h;exact iR Z
 refine cL<|aU<|aC Z<|aP<|aN<|eB (λj=>FE j=some r) (λj o=>[]) (λj o=>[]) ?_ ?_
 ·refine aU<|aA Z<|aC Z<|aP<|aT<|eW (IT U g) (λa e=>[(0,k),(5,vI (a.1)),(6,vI (a.2))]) (λa e=>[]) ((1:Int),b) () h SF (a_.refl _) ?_;intro p a e h;refine aN<|aU<|aA Z<|aA Z<|iL (b_ Z) Z<|cU Z<|aP ?_;refine eG h Z (λh=>?_) λh=>?_
  ·refine cL<|aN<|aT<|aU<|aA Z<|aA Z<|cQ h λf h=>aB (bG Z Z (b_ Z) Z Z f) Z<|aB (dC Z Z Z Z Z) Z<|aB (eL Z (b_ Z) Z Z Z gA f) Z<|eI h λi m h=>aJ (zBb OI (Ey U i m) Z .nil) Z λq=>aC Z<|aP<|aN<|aU<|aA Z<|cU Z<|aP ?_;refine eG h Z (λh=>?_) λh=>?_
   ·refine aU<|aC Z<|aP<|aS<|aG<|bF<|aG<|aG<|bF<|aG ?_;cases h;exact iR Z
   refine cL<|aU<|aA Z<|aA Z<|aB (nI Z Z) Z<|cN Z<|aC Z<|aP<|aU<|aA Z<|cH Z<|aP ?_;refine eG h Z (λh=>?_) λh=>?_
   ·refine aU<|aA Z<|cN Z<|aC Z<|aP<|aS<|bF<|aG<|aG<|bF<|aG ?_;cases h;exact iR Z
   refine dW<|lA<|aR<|aA Z<|cN Z<|aC Z<|aP ?_;exact xD ((wI .i64 (a.1+(wI .i64 (i - (1:Int))))),(wI .i64 (a.2+(1:Int)))) () h SF Z
  refine eP ?_;exact f_ () (()) h SF Z
 intro j o h;unfold FE at h;refine aU<|aC Z<|aP<|aS ?_;cases h;exact iR Z
def BJ (a:Int):Option (Int):=
 some (a)
def EU (U:Nat) (d:fI) (e:Int) (a:fF) (b:fW->Option (Int)):Option (Int):=
 if a.2<e then(Option.bind (Gy U d a.1) λc=>(b (c,(wI .i64 (a.2+(1:Int))))))else(BJ (a.1))
def wH (U:Nat) (b:fI) (c d:Int) (a:Bool):Option (Int):=
 if a=true then(some (-1:Int))else(bL (EU U b d) U ((wI .i64 (c+(1:Int))),(0:Int)))
def mZ (U:Nat) (b:fI) (a c:Int):Option (Int):=
 Option.bind (Gy U b a) λd=>(if d<(0:Int)then(wH U b a c (true))else(if c<(0:Int)then(wH U b a c (true))else(ck (0<=a/\a<(b.length:Int)) (Option.bind (nQ U ((at' b a).1)) λe=>(wH U b a c (decide (e<=c)))))))
theorem OJ:bB Tryz.prog 206:=Tryz.call206
theorem CO (U:Nat) {n:fI} {j b:Int} (d:V0) (r:Int) (h:mZ U n j b=some r):
  bE Tryz.prog 206 #[d,vI (j),vI (b)] [Sl aY d n] (λx:Unit=>vI (r)) (λx l=>l) (λ_ l=>l):=by
 refine bE.of Tryz.func206 Z Tryz.ntmps206 Z λc=>?_;refine aU<|aC Z<|aP<|aN<|aN<|eB (λe=>wH U n j b e=some r) (λe t=>[(0,d),(1,vI (j)),(2,vI (b)),(26,vB (e))]) (λe t=>[]) ?_ ?_
 ·refine aR<|aA Z<|aA Z<|eI h λo q h=>aJ (zBb Ua (Ku U d o q) Z (iB [0] Z)) Z λy=>cU Z<|aA Z ?_;refine Ds h Z (λ_ h=>?_) λ_ h=>?_
  ·refine aO Z<|aO Z<|d_ Z<|aA Z<|aO Z<|aO Z<|aO Z<|aO Z<|aO Z<|aO Z<|aO Z<|aO Z<|d_ Z<|aP ?_;exact f_ (true) () h SF Z
  refine dD Z<|aW Z (EF Z Z) Z<|eR Z<|aA Z ?_;refine Ds h Z (λ_ h=>?_) λ_ h=>?_
  ·refine aO Z<|aO Z<|aO Z<|aO Z<|aO Z<|aO Z<|aO Z<|aO Z<|d_ Z<|aP ?_;exact f_ (true) () h SF Z
  refine dD Z<|dD Z<|dD Z<|cQ h λi h=>aW Z (bG Z Z (b_ Z) Z Z i) Z<|aW Z (dC Z Z Z Z Z) Z<|aW Z (eL Z (b_ Z) Z Z Z gA i) Z<|eI h λm s h=>oU Z (zBb OI (Ey U m s) Z .nil) Z λz=>aW Z (uI Z Z) Z<|eR Z<|aP ?_;exact f_ (decide (m<=b)) () h SF Z
 intro e t h;refine rR h Z (λ_ h=>?_) λ_ h=>?_
 ·refine aU<|aC Z<|aP<|aS<|aG ?_;cases h;exact iR Z
 refine cL<|aU<|aA Z<|cN Z<|aC Z<|aP<|aN<|eB (λf=>BJ f=some r) (λf u=>[(7,vI (f))]) (λf u=>[]) ?_ ?_
 ·refine aU<|aC Z<|aP<|aT<|eW (EU U n b) (λa g=>[(0,d),(2,vI (b)),(7,vI (a.1)),(8,vI (a.2))]) (λa g=>[]) ((wI .i64 (j+(1:Int))),(0:Int)) () h SF (a_.refl _) ?_;intro v a g h;refine aN<|aU<|aA Z<|aA Z<|cU Z<|aP ?_;refine eG h Z (λh=>?_) λh=>?_
  ·refine cL<|aN<|aT<|aR<|aA Z<|aA Z<|eI h λk p h=>aJ (zBb Ua (Ku U d k p) Z (iB [0] Z)) Z λw=>aC Z<|eS<|lA<|aR<|aA Z<|cN Z<|aC Z<|aP ?_;exact xD (k,(wI .i64 (a.2+(1:Int)))) () h SF Z
  refine eP ?_;exact f_ (a.1) () h SF Z
 intro f u h;unfold BJ at h;refine aU<|aA Z<|aC Z<|aP<|aS ?_;cases h;exact iR Z
def GC (U:Nat) (c:fI) (d:Int) (a:bT):Option (Int):=
 Option.bind (nL U ((at' c d).1) a) λb=>(some (b))
def CB (U:Nat) (d:cJ) (h:bQ) (e:Int) (f:fI) (g:Int) (i:GU->bQ->Int->Int->fI->Int->Option (Int)) (a:bT×Int) (b:(bT×Int)->Option (Int)):Option (Int):=
 ck (0<=e/\e<(d.2.length:Int)) (if a.2<((at' d.2 e).length:Int)then(Option.bind (i ((d.1,d.2)) h e a.2 f (wI .i64 (g+(1:Int)))) λc=>(ck ((a.1.length:Int)+(List.length ([c]):Int)<=1099511627) (b ((a.1++[c]),(wI .i64 (a.2+(1:Int)))))))else(GC U f g (a.1)))
def nA (g:GU->bQ->Int->Int->fI->Int->Option (Int)) (U:Nat) (c:cJ) (d:bQ) (e f:Int) (a:fI) (b:Int):Option (Int):=
 ck (0<=b/\b<(a.length:Int)) (Option.bind (nQ U ((at' a b).1)) λi=>(if i=(0:Int)then(ck (0<=b/\b<(a.length:Int)) (Option.bind (Ae U ((c.1,c.2)) d e f ((((at' a b).1),((at' a b).2)))) λu=>(some (u))))else(if i=(1:Int)then(Option.bind (tU U ((at' a b).1)) λh=>(if h=true then(bL (CB U c d e a b g) U (([]:bT),(0:Int)))else(Option.bind (g ((c.1,c.2)) d e f a (wI .i64 (b+(1:Int)))) λj=>(Option.bind (Er U ((at' a b).1) j) λk=>(some (k.1))))))else(if i=(2:Int)then(Option.bind (g ((c.1,c.2)) d e f a (wI .i64 (b+(1:Int)))) λl=>(Option.bind (mZ U a b (1:Int)) λm=>(Option.bind (g ((c.1,c.2)) d e f a m) λn=>(Option.bind (Ad U ((at' a b).1) l n) λo=>(some (o.1))))))else(Option.bind (g ((c.1,c.2)) d e f a (wI .i64 (b+(1:Int)))) λp=>(if p≠(0:Int)then(Option.bind (mZ U a b (1:Int)) λq=>(Option.bind (g ((c.1,c.2)) d e f a q) λr=>(some (r))))else(Option.bind (mZ U a b (2:Int)) λs=>(Option.bind (g ((c.1,c.2)) d e f a s) λt=>(some (t))))))))))
def fD:Nat->GU->bQ->Int->Int->fI->Int->Option (Int)
 |0,_,_,_,_,_,_=>none
 |U+1,p0,p1,p2,p3,p4,p5=>nA (fD U) U p0 p1 p2 p3 p4 p5
theorem CY:bB Tryz.prog 167:=Tryz.call167
theorem PG (Q:GU->bQ->Int->Int->fI->Int->Option (Int)) (U:Nat) (d:∀{u:cJ} {y:bQ} {v A:Int} {t:fI} {q:Int} (f g:V0) (o:kX) (i:V0) (p:nG) (a:V0) (r:Int),Q u y v A t q=some r->bE Tryz.prog 167 #[Value.agg #[f,g],i,vI (v),vI (A),a,vI (q)] [Sl aM f u.1,S2 aY g o u.2,S2 aM i p y,Sl aY a t] (λx:Unit=>vI (r)) (λx l=>l) (λ_ l=>l)) {u:cJ} {y:bQ} {v A:Int} {t:fI} {q:Int} (f g:V0) (o:kX) (i:V0) (p:nG) (a:V0) (r:Int) (h:nA Q U u y v A t q=some r):
  bE Tryz.prog 167 #[Value.agg #[f,g],i,vI (v),vI (A),a,vI (q)] [Sl aM f u.1,S2 aY g o u.2,S2 aM i p y,Sl aY a t] (λx:Unit=>vI (r)) (λx l=>l) (λ_ l=>l):=by
 let w:=vI ((at' t q).1);refine bE.of Tryz.func167 Z Tryz.ntmps167 Z λc=>?_;refine aU<|aJ (aQ.box (cs:=[f,g]) Z Z) Z λb1=>aC Z<|aP<|aU<|aA Z<|aA Z<|cQ h λj2 h=>aB (bG Z Z (Bh Z) Z Z j2) Z<|aB (dC Z Z Z Z Z) Z<|aB (eL Z (Bh Z) Z Z Z gA j2) Z<|aC Z<|aP<|aN<|aU<|aA Z<|eI h λr3 w4 h=>aJ (zBb OI (Ey U r3 w4) Z .nil) Z λx5=>aP<|aT<|aU<|cH Z<|aC Z<|aP ?_;refine eG h Z (λh=>?_) λh=>?_
 ·refine aN ?_;refine rP [0,0,0,0,0,0,48,112,255,511] 8 mixedOrders ?_;refine jA 0 Z<|aV Z<|aV Z<|aV Z<|aV Z<|aV Z<|cQ h λj7 h=>bA Z .nil (eV 3 Z) (bG Z Z (b_ Z) Z Z j7) aL.z<|bA Z .nil (eV 3 Z) (gS (cs:=[w,vI ((at' t q).2)]) Z (b_ Z) cR Z Z Z Z j7) aL.z<|bN 8 Z Z<|eI h λr8 w9 h=>aJ (zBb aaq (PK U f g o i p r8 w9) Z (iB [0,1,2] Z)) Z λaq=>aC Z<|aP<|aS<|bF<|aG ?_;cases h;exact mO Z
 refine aU<|cH Z<|aC Z<|aP ?_;refine eG h Z (λh=>?_) λh=>?_
 ·refine aN<|aU<|aA Z<|eI h λD S h=>aJ (zBb aar (Jh U D S) Z .nil) Z λar=>aP ?_;refine rR h Z (λ_ h=>?_) λ_ h=>?_
  ·refine aU<|aC Z<|aP<|aN<|KC (B:=V0) (λj=>GC U t q j=some r) (λj k=>[(13,w),(14,k)]) (λj k=>[Ar fT k j]) ?_ ?_
   ·refine aU<|aC Z<|aP<|aT<|bZ (gC fT)<|eW (B:=V0) (CB U u y v t q Q) (λb m=>[(1,i),(2,vI (v)),(4,a),(5,vI (q)),(6,vP b1),(13,w),(14,m),(15,vI (b.2))]) (λb m=>[bM b1 [f,g] 31,Ar fT m b.1]) (([]:bT),(0:Int)) (cW) h SF (a_.ix [1,0] Z Z) ?_;intro ao b m h;refine aN<|aU<|aA Z<|bV Z<|dK 0 Z<|aA Z<|cQ h λs h=>aB (bK Z Z (mR Z) Z Z s) Z<|aB (bS Z (mR Z) Z Z s) Z<|aB (fH Z (zBc (mR Z) s.1 s.2) Z) Z<|cU Z<|aP ?_;refine eG h Z (λh=>?_) λh=>?_
    ·refine cL<|aN<|aT<|aR<|aA Z<|cM 0 Z<|aA Z<|aA Z<|aA Z<|aA Z<|aA Z<|cN Z<|eI h λn V h=>aJ (zBb CY (d f g o i p a n V) Z (iB [0,1,2,3] Z)) Z λav=>aJ (cX (e:=fT) ([n]) [(0,vI (n))] Z Z Z Z (jU (vI (n)) Z) Z Z Z) Z λap=>cQ h λC h=>aJ (jN 2 iY Z Z Z (dR (aI.res 0 Z) iY) Z Z Z Z C Z) Z λR=>aC Z<|eS<|lA<|aR<|aA Z<|cN Z<|aC Z<|aP ?_;exact iP ((b.1++[n]),(wI .i64 (b.2+(1:Int)))) (R) h SF (a_.ix [1,2] Z Z) (aH.refl _ _)
    refine eP ?_;exact cB (b.1) (m) h SF (a_.ix [1] Z Z) (aH.refl _ _)
   intro j k h;refine aU<|aA Z<|aA Z<|eI h λE T h=>aJ (zBb aas (PI U k E T) Z (aH.cons (dR (aI.res 0 Z) iY) .nil)) Z λau=>aC Z<|aP<|aS<|aG<|bF<|aG ?_;cases h;exact mO Z
  refine cL<|aU<|aA Z<|cM 0 Z<|aA Z<|aA Z<|aA Z<|aA Z<|aA Z<|cN Z<|eI h λF W h=>aJ (zBb CY (d f g o i p a F W) Z (iB [0,1,2,3] Z)) Z λaw=>eI h λG X h=>aJ (zBb aat (Na U G X) Z .nil) Z λax=>aA Z<|iN Z<|iN Z<|aC Z<|aC Z<|aP<|aU<|aA Z<|aC Z<|aP<|aS<|bF<|aG ?_;cases h;exact mO Z
 refine aU<|cH Z<|aC Z<|aP ?_;refine eG h Z (λh=>?_) λh=>?_
 ·refine aN ?_;refine rP [0,0,0,0,0,0,0,64,254,0,0,0,0,0,0,0,49662,131070,262143,524287,1048575,1048575,2097151,8388607] 23 mixedOrders ?_;refine aV Z<|jA 0 Z<|aV Z<|aV Z<|aV Z<|aV Z<|aV Z<|eN Z (zN Z Z)<|eI h λH Y h=>zBd Z Z Z (zBb CY (d f g o i p a H Y) Z (iB [0,1,2,3] Z)) Z (λai=>(nK [] Z)) λai=>bA Z (a_.cons 0 Z .nil) .nil (dN 0 Z Z Z Z) (aL.h (a_.ix [0] Z Z) .nil aL.z)<|eN Z (dG Z)<|eN Z (dG Z)<|eN Z (dG Z)<|eN Z (dG Z)<|eN Z (dG Z)<|eN Z (dG Z)<|eI h λI aa h=>zBd Z Z Z (zBb OJ (CO U a I aa) Z (iB [3] Z)) Z (λaj=>(nK [([0],[])] Z)) λaj=>eI h λJ ab h=>zBd Z Z Z (zBb CY (d f g o i p a J ab) Z (iB [0,1,2,3] Z)) Z (λak=>(nK [] Z)) λak=>eI h λK ac h=>zBd Z Z Z (zBb aau (Ms U K ac) Z .nil) Z (λal=>(nK [] Z)) λal=>eN Z (dG Z)<|eN Z (vY Z Z)<|eN Z (vY Z Z)<|eN Z (zO Z)<|bN 23 Z Z<|aC Z<|aP<|aU<|aA Z<|aC Z<|aP<|aS<|bF<|aG ?_;cases h;exact mO Z
 refine dW<|lA<|aN<|aU<|cM 0 Z<|aA Z<|aA Z<|aA Z<|aA Z<|aA Z<|cN Z<|eI h λL ad h=>aJ (zBb CY (d f g o i p a L ad) Z (iB [0,1,2,3] Z)) Z λay=>lB Z<|aP ?_;refine eG h Z (λh=>?_) λh=>?_
 ·refine aN ?_;refine rP [0,0,0,0,0,0,0,96,255,511] 8 mixedOrders ?_;refine jA 0 Z<|aV Z<|aV Z<|aV Z<|aV Z<|aV Z<|aV Z<|eI h λM ae h=>zBd Z Z Z (zBb OJ (CO U a M ae) Z (iB [3] Z)) Z (λam=>(nK [([0],[])] Z)) λam=>bN 8 Z Z<|eI h λN af h=>aJ (zBb CY (d f g o i p a N af) Z (iB [0,1,2,3] Z)) Z λaz=>aC Z<|aP<|aS<|aG ?_;cases h;exact mO Z
 refine cL<|aN ?_;refine rP [0,0,0,0,0,0,0,96,255,511] 8 mixedOrders ?_;refine jA 0 Z<|aV Z<|aV Z<|aV Z<|aV Z<|aV Z<|aV Z<|eI h λO ag h=>zBd Z Z Z (zBb OJ (CO U a O ag) Z (iB [3] Z)) Z (λan=>(nK [([0],[])] Z)) λan=>bN 8 Z Z<|eI h λP ah h=>aJ (zBb CY (d f g o i p a P ah) Z (iB [0,1,2,3] Z)) Z λaD=>aC Z<|aP<|aS ?_;cases h;exact mO Z
theorem Mq (U:Nat):∀{e:cJ} {i:bQ} {j:Int} {k:Int} {m:fI} {n:Int} (a:V0) (b:V0) (f:kX) (c:V0) (g:nG) (d:V0) (r:Int),fD U e i j k m n=some r->
  bE Tryz.prog 167 #[Value.agg #[a,b],c,vI (j),vI (k),d,vI (n)] [Sl aM a e.1,S2 aY b f e.2,S2 aM c g i,Sl aY d m] (λx:Unit=>vI (r)) (λx l=>l) (λ_ l=>l):=by
 induction U with
 |zero=>intros;rename_i h;cases h
 |succ U o=>exact λa b f c g d r h=>PG (fD U) U o a b f c g d r h
end Go.Proofs.YtflciafboapaaaaGreat
namespace Go.Proofs.YtflciafboapaaaaGreat
open Go Go.Sx
def tJ (x:Int):Prop:= -1073741824<=x/\x<=1073741824
theorem Ph (f:Nat) {x:Int} (h:tJ x):oG f x=some true:=by
 unfold oG sZ;rw[if_pos h.1,zA4 h.2]
theorem PV (f:Nat) (b:Bool):dX f b=some (RX b):=by cases b<;>rfl
theorem OB (b:Bool):tJ (RX b):=by cases b<;>exact⟨by decide,by decide⟩
theorem UC (f:Nat) (l:bT) (x:Int) (h:l.length<f) (m:l.length<=1000):uW f l x=some (decide (x∈l)):=by
 unfold uW;have a:=SY (step:=pG l x) (K:=some false) (bad:=some true) l.length (λk=>at' l (k:Int)≠x) (λk=>(k:Int)) (λk g b d=>by
  unfold pG;rw[if_pos (by omega),cF (by omega),if_neg d,cV (by omega)]) (λk g b d=>by
  unfold pG;rw[if_pos (by omega),cF (by omega),if_pos (zAy.1 d)]) (λg=>by
  unfold pG yK;rw[if_neg (by omega)]) f h
 by_cases c:x∈l
 ·rw[zA4 c];refine a.2 λq=> ?_;obtain⟨i,j,e⟩:=List.mem_iff_getElem.1 c;exact q i j (by rw[kE j,e])
 ·rw[zA3 c];refine a.1 λk b e=>c ?_;rw[<-e,kE b];exact List.getElem_mem b
abbrev F7:=Ry
def QP (l:bT) (s:F7):F7:=
 (if at' l s.2.2.2.2.2.2≠0 then wI .i64 (s.1+1)else s.1,(if at' l s.2.2.2.2.2.2≠0/\s.2.1<0 then s.2.2.2.2.2.2 else s.2.1),min s.2.2.1 (at' l s.2.2.2.2.2.2),max s.2.2.2.1 (at' l s.2.2.2.2.2.2),max s.2.2.2.2.1 (min s.2.2.2.1 (at' l s.2.2.2.2.2.2)),wI .i64 (s.2.2.2.2.2.1+at' l s.2.2.2.2.2.2),wI .i64 (s.2.2.2.2.2.2+1))
def Ro (l:bT):Nat->F7
 |0=>(0,-1,1073741824,-1073741824,-1073741824,0,0)
 |k+1=>QP l (Ro l k)
theorem PC (l:bT):∀k,k<=l.length->l.length<=1000->(Ro l k).1=(((l.take k).countP nz:Nat):Int)/\(Ro l k).2.2.2.2.2.2=(k:Int)
 |0,_,_=>⟨by simp[Ro],rfl⟩
 |k+1,hk,hl=>by
  obtain⟨b,c⟩:=PC l k (by omega) hl;have d:(l.take k).countP nz<=k:=zB4 List.countP_le_length (by simp;omega);unfold Ro QP;dsimp only;rw[c,b,nZ (by omega),List.countP_append,cV (by omega),cV (by omega)];refine⟨?_,rfl⟩
  by_cases a:at' l (k:Int)=0
  ·rw[if_neg (by simpa using a)];simp[nz,a]
  ·rw[if_pos a];simp[nz,a]
theorem JD (f:Nat) (o:Int) (l:bT) (h:l.length<f) (d:l.length<=1000):nL f o l=tH f o l (((l.countP nz:Nat):Int),(Ro l l.length).2.1,(Ro l l.length).2.2.1,(Ro l l.length).2.2.2.1,(Ro l l.length).2.2.2.2.1,(Ro l l.length).2.2.2.2.2.1):=by
 unfold nL;refine dJ (step:=nR f o l) l.length (Ro l) (λk g n=> ?_) (λg=> ?_) f h
 ·have c:=(PC l k (by omega) d).2;generalize i:Ro l k=s at c;obtain⟨p,j,r,t,u,v,m⟩:=s;have c:m=(k:Int):=c;subst c;have e:Ro l (k+1)=QP l (Ro l k):=rfl;rw[e,i];unfold nR Cc Ce Cd QP;dsimp only;rw[if_pos (by omega)];simp only[cF (show 0<=(k:Int)/\(k:Int)<(l.length:Int) by omega)];by_cases a:at' l (k:Int)=0
  ·rw[if_neg (by simpa using a),if_neg (by simpa using a),if_neg (by decide),if_neg (by simpa using a),if_neg (by simp[a])]
  ·rw[if_pos a,if_pos a,if_pos a];by_cases b:j<0
   ·rw[zA4 b,if_pos Z,if_pos ⟨a,b⟩]
   ·rw[zA3 b,if_neg (by decide),if_neg (λq=>b q.2)]
 ·obtain⟨b,c⟩:=PC l l.length (zAh _) d;rw[zB2]at b;unfold nR;rw[c,if_neg (by omega),b]
theorem ND (f:Nat) (o:Int) (l:bT) (h:l.length<f) (b:l.length<=1000):∃a,nL f o l=tH f o l (((l.countP nz:Nat):Int),a):=⟨_,JD f o l h b⟩
theorem aaW (f:Nat) (l:bT) (h:l.length<f) (b:l.length<=1000):nL f 21 l=some (II 21 l):=by
 obtain⟨a,e⟩:=ND f 21 l h b;rw[e];unfold tH;dsimp only;rw[if_neg (by decide),if_pos Z,bH (PV f _),II,if_neg (by decide),if_pos Z];have:(decide ((0:Int)<((l.countP nz:Nat):Int)))=l.any nz:=by
  rw[Bool.eq_iff_iff,zAa,List.any_eq_true,show((0:Int)<((l.countP nz:Nat):Int))↔0<l.countP nz by omega,List.countP_pos_iff]
 rw[this]
theorem aaX (f:Nat) (l:bT) (h:l.length+2<f) (hl:l.length<=900):nL f 27 l=some ((LY l:Nat):Int):=by
 obtain⟨a,e⟩:=ND f 27 l (by omega) (by omega);obtain⟨h1,h2,h3⟩:=LZ l;rw[e];unfold tH;dsimp only;rw[if_neg (by decide),if_neg (by decide),if_neg (by decide),if_neg (by decide),if_neg (by decide),if_neg (by decide),if_neg (by decide),if_neg (by decide),if_pos Z];exact dJ (step:=xQ f l) (K:=some ((LY l:Nat):Int)) (LY l) (λk=>(k:Int)) (λk ag hk=>by
  unfold xQ;rw[bH (UC f l (k:Int) (by omega) (by omega)),if_pos (by simpa using h2 k hk),cV (by omega)]) (λag=>by
  unfold xQ Cb;rw[bH (UC f l _ (by omega) (by omega)),if_neg (by simpa using h1)]) f (by omega)
theorem acb {g:GR} {a:List EC} (b:gR g a) {x:Nat} (c:x<a.length) (v:Nat):lo g (at' a (x:Int)) v<=hi g (at' a (x:Int)) v:=by
 rcases b.kind x c with k|k|k
 ·have h:=(b.range x c k).2.1;unfold lo hi at h ⊢;rw[k]at h ⊢;simpa using h
 ·unfold lo hi;rw[k];simp
 ·unfold lo hi;rw[k];simp;omega
theorem Vt {g:GR} {a:List EC} (b:gR g a) {x:Nat} (c:x<a.length) (v:Nat) (y:Int):lo g (at' a (x:Int)) v<=Gk (at' a (x:Int)).2.1 (qB g a v x) y/\Gk (at' a (x:Int)).2.1 (qB g a v x) y<=hi g (at' a (x:Int)) v:=by
 have h:=acb b c v;unfold Gk qB;dsimp only;split
 ·assumption
 ·split
  ·rename_i k;unfold lo hi;rw[k];simp;omega
  ·split<;>omega
end Go.Proofs.YtflciafboapaaaaGreat
namespace Go.Proofs.YtflciafboapaaaaGreat
open Go.Sx
def jO (U:Nat) (b:fE) (c:cJ) (d a:Int):Option fW:=
 ck (0<=a/\a<(b.2.1.length:Int)) (if((at' b.2.1 a).2.1)=(2:Int)then(some ((0:Int),(1:Int)))else(if((at' b.2.1 a).2.1)=(3:Int)then(ck (0<=d/\d<(c.2.length:Int)) (some ((-1:Int),(wI .i64 (((at' c.2 d).length:Int) - (1:Int))))))else(ck (0<=a/\a<(b.2.1.length:Int)) (ck (0<=a/\a<(b.2.1.length:Int)) (ck (0<=a/\a<(b.2.1.length:Int)) (ck (0<=a/\a<(b.2.1.length:Int)) (Option.bind (jP U ((c.1,c.2))) λe=>(some (((at' b.2.1 a).2.2.1),(wI .i64 ((wI .i64 (((at' b.2.1 a).2.2.2.1)+(wI .i64 (((at' b.2.1 a).2.2.2.2.1)*(c.2.length:Int)))))+(wI .i64 (((at' b.2.1 a).2.2.2.2.2)*e)))))))))))))
theorem KS:bB Tryz.prog 100:=Tryz.call100
theorem Di (U:Nat) {a:fE} {j:cJ} {t u:Int} (e f g i:V0) (v:kX) (r:fF) (h:jO U a j t u=some r):
  bE Tryz.prog 100 #[Value.agg #[vS (a.1),e,f],Value.agg #[g,i],vI (t),vI (u)] [Sl aE e a.2.1,Sl aD f a.2.2,PF (Value.agg #[vS a.1,e,f]),Sl aM g j.1,S2 aY i v j.2] (λx:Unit=>Value.tuple #[vI (r.1),vI (r.2)]) (λx l=>l) (λ_ l=>l):=by
 refine bE.of Tryz.func100 Z Tryz.ntmps100 Z λc=>?_;refine aU<|aJ (aQ.box (cs:=[vS (a.1),e,f]) Z Z) Z λw=>aJ (aQ.box (cs:=[g,i]) Z Z) Z λy=>aC Z<|aC Z<|aP<|aN<|aU<|bV Z<|dK 1 Z<|aA Z<|cQ h λo h=>aB (bG Z Z (b_ Z) Z Z o) Z<|aB (dC Z Z Z Z Z) Z<|aB (eL Z (b_ Z) Z Z Z lV o) Z<|aP<|aT<|aU<|cH Z<|aC Z<|aP ?_;refine eG h Z (λh=>?_) λh=>?_
 ·refine aU<|aC Z<|aC Z<|aP<|aS<|bF<|aG ?_;cases h;exact gY () Z Z (RV.tmp Z) (RV.tmp Z) .nil aH.nil
 refine aU<|cH Z<|aC Z<|aP ?_;refine eG h Z (λh=>?_) λh=>?_
 ·refine aN ?_;refine rP [0,1,0,7,15,31,63,0,255] 8 mixedOrders ?_;refine cC Z<|eQ 0 Z<|aV Z<|cQ h λd h=>bA Z .nil (eV 4 Z) (bK Z Z (b_ Z) Z Z d) aL.z<|bA Z .nil (eV 4 Z) (bS Z (b_ Z) Z Z d) aL.z<|bA Z .nil (eV 4 Z) (fH Z (zBc (b_ Z) d.1 d.2) Z) aL.z<|eN Z (nI Z Z)<|eN Z (zO Z)<|bN 8 Z Z<|aC Z<|aP<|aS<|bF<|aG ?_;cases h;exact gY () Z Z (RV.tmp Z) (RV.tmp Z) .nil aH.nil
 refine dW<|lA<|aN ?_;refine rP [0,1,0,7,15,31,0,64,0,448,960,1984,0,4096,0,28672,61440,126976,0,262144,786432,2093056,4194240,0,8388608,0,58720256,125829120,260046848,0,536870912,2139095040,4294967232,1610612799,17179869183] 34 mixedOrders ?_;refine cC Z<|eQ 1 Z<|aV Z<|cQ h λp h=>bA Z .nil (eV 0 Z) (bG Z Z (b_ Z) Z Z p) aL.z<|eN Z (dC Z Z Z Z Z)<|bA Z .nil (eV 0 Z) (eL Z (b_ Z) Z Z Z Bb p) aL.z<|cC Z<|eQ 1 Z<|aV Z<|cQ h λq h=>bA Z .nil (eV 0 Z) (bG Z Z (b_ Z) Z Z q) aL.z<|eN Z (dC Z Z Z Z Z)<|bA Z .nil (eV 0 Z) (eL Z (b_ Z) Z Z Z Bc q) aL.z<|cC Z<|eQ 1 Z<|aV Z<|cQ h λs h=>bA Z .nil (eV 0 Z) (bG Z Z (b_ Z) Z Z s) aL.z<|eN Z (dC Z Z Z Z Z)<|bA Z .nil (eV 0 Z) (eL Z (b_ Z) Z Z Z Bd s) aL.z<|cC Z<|eQ 0 Z<|bA Z .nil (eV 4 Z) (dM Z (b_ Z) Z) aL.z<|eN Z (xA Z Z)<|eN Z (zN Z Z)<|cC Z<|eQ 1 Z<|aV Z<|cQ h λb h=>bA Z .nil (eV 0 Z) (bG Z Z (b_ Z) Z Z b) aL.z<|eN Z (dC Z Z Z Z Z)<|bA Z .nil (eV 0 Z) (eL Z (b_ Z) Z Z Z Be b) aL.z<|jA 0 Z<|eI h λk m h=>zBd Z Z Z (zBb TW (EW U g i v k m) Z (iB [3,4] Z)) Z (λn=>(nK [([],[0]),([],[0]),([1],[]),([],[4]),([0],[]),([],[0]),([],[0]),([1],[]),([],[0]),([],[0]),([1],[]),([],[0]),([],[0]),([1],[])] Z)) λn=>eN Z (xA Z Z)<|eN Z (zN Z Z)<|eN Z (zO Z)<|bN 34 Z Z<|aC Z<|aP<|aS ?_;cases h;exact gY () Z Z (RV.tmp Z) (RV.tmp Z) .nil aH.nil
def BY (a:Unit):Option (Int):=
 some (0:Int)
def BZ (b:Int) (a:(Int)->Option (Int)) (c:Bool):Option (Int):=
 if c=true then(some (9:Int))else(a (wI .i64 (b+(1:Int))))
def tG (U:Nat) (c:fE) (f:cJ) (a:Int) (b:(Int)->Option (Int)):Option (Int):=
 if a<(c.2.1.length:Int)then(Option.bind (jO U ((c.1,c.2.1,c.2.2)) ((f.1,f.2)) (0:Int) a) λd=>(ck (0<=a/\a<(c.2.1.length:Int)) (if((at' c.2.1 a).2.1)=(1:Int)then(Option.bind (iC U (wI .i64 (d.2 - d.1)) (0:Int) (4095:Int)) λe=>(BZ a b ((!e))))else(BZ a b (false)))))else(BY (()))
def pQ (U:Nat) (a:fE) (b:cJ):Option (Int):=
 Option.bind (Ep U ((a.1,a.2.1,a.2.2))) λc=>(if(!c)=true then(some (8:Int))else(Option.bind (lE U ((b.1,b.2))) λd=>(if(!d)=true then(some (1:Int))else(bL (tG U a b) U (0:Int)))))
theorem TV:bB Tryz.prog 112:=Tryz.call112
theorem Ji (U:Nat) {d:fE} {p:cJ} (f g i j:V0) (z:kX) (r:Int) (h:pQ U d p=some r):
  bE Tryz.prog 112 #[Value.agg #[vS (d.1),f,g],Value.agg #[i,j]] [Sl aE f d.2.1,Sl aD g d.2.2,PF (Value.agg #[vS d.1,f,g]),Sl aM i p.1,S2 aY j z p.2] (λx:Unit=>vI (r)) (λx l=>l) (λ_ l=>l):=by
 refine bE.of Tryz.func112 Z Tryz.ntmps112 Z λc=>?_;refine aU<|aJ (aQ.box (cs:=[vS (d.1),f,g]) Z Z) Z λs=>aJ (aQ.box (cs:=[i,j]) Z Z) Z λt=>aC Z<|aP<|aN<|aU<|cM 1 Z<|eI h λA C h=>aJ (zBb TY (MZ U f g A C) Z (iB [0,1,2] Z)) Z λG=>aB (jG Z) Z<|aP ?_;refine rR h Z (λ_ h=>?_) λ_ h=>?_
 ·refine aU<|aC Z<|aP<|aS<|aG ?_;cases h;exact mO Z
 refine cL<|aN<|aU<|cM 0 Z<|eI h λB D h=>aJ (zBb Xr (HN U i j z B D) Z (iB [3,4] Z)) Z λH=>aB (jG Z) Z<|aP ?_;refine rR h Z (λ_ h=>?_) λ_ h=>?_
 ·refine aU<|aC Z<|aP<|aS<|aG ?_;cases h;exact mO Z
 refine cL<|aN<|eB (λe=>BY e=some r) (λe k=>[]) (λe k=>[]) ?_ ?_
 ·refine aU<|aC Z<|aP<|aT<|eW (tG U d p) (λa m=>[(2,vP s),(3,vP t),(5,vI (a))]) (λa m=>[bM t [i,j] 31,bM s [vS (d.1),f,g] 36]) (0:Int) () h SF (a_.refl _) ?_;intro u a m h;refine aN<|aU<|aA Z<|bV Z<|dK 1 Z<|iL (b_ Z) Z<|cU Z<|aP ?_;refine eG h Z (λh=>?_) λh=>?_
  ·refine cL<|aN<|aT<|aU<|cM 1 Z<|cM 0 Z<|aA Z<|eI h λv w h=>aJ (zBb KS (Di U f g i j z v w) Z (iB [0,1,2,3,4] Z)) Z λE=>aA Z<|iN Z<|iN Z<|aC Z<|aC Z<|aP<|aN<|eB (λb=>BZ a (bL (tG U d p) u) b=some r) (λb n=>[(2,vP s),(3,vP t),(5,vI (a)),(41,vB (b))]) (λb n=>[bM t [i,j] 31,bM s [vS (d.1),f,g] 36]) ?_ ?_
   ·refine aR<|bV Z<|dK 1 Z<|aA Z<|cQ h λo h=>aB (bG Z Z (b_ Z) Z Z o) Z<|aB (dC Z Z Z Z Z) Z<|aB (eL Z (b_ Z) Z Z Z lV o) Z<|cH Z<|aA Z ?_;refine Ds h Z (λ_ h=>?_) λ_ h=>?_
    ·refine dD Z<|dD Z<|aW Z (nI Z Z) Z<|eI h λq y h=>oU Z (zBb uQ (jL U q y) Z .nil) Z λF=>aW Z (jG Z) Z<|d_ Z<|aP ?_;exact f_ ((!q)) () h SF Z
    refine aO Z<|aO Z<|aO Z<|aO Z<|aO Z<|eR Z<|aP ?_;exact f_ (false) () h SF Z
   intro b n h;refine rR h Z (λ_ h=>?_) λ_ h=>?_
   ·refine aU<|aC Z<|aP<|aS<|bF<|aG<|aG<|bF<|aG ?_;cases h;exact mO Z
   refine dW<|lA<|aR<|aA Z<|cN Z<|aC Z<|aP ?_;exact xD (wI .i64 (a+(1:Int))) () h SF Z
  refine eP ?_;exact cB () (()) h SF .nil (aH.refl _ _)
 intro e k h;unfold BY at h;refine aU<|aC Z<|aP<|aS ?_;cases h;exact iR Z
def vG (a:Unit):Option (Int):=
 some (0:Int)
def vH (b:Int) (a:(Int)->Option (Int)) (c:Unit):Option (Int):=
 a (wI .i64 (b+(1:Int)))
def oL (U:Nat) (g:fE) (i:cJ) (e:bQ) (a:Int) (c:(Int)->Option (Int)) (b:Int) (d:(Int)->Option (Int)):Option (Int):=
 ck (0<=a/\a<(e.length:Int)) (if b<((at' e a).length:Int)then(Option.bind (jO U ((g.1,g.2.1,g.2.2)) ((i.1,i.2)) a b) λf=>(ck (0<=a/\a<(e.length:Int)) (ck (0<=b/\b<((at' e a).length:Int)) (Option.bind (iC U (at' (at' e a) b) f.1 f.2) λh=>(if(!h)=true then(some (10:Int))else(d (wI .i64 (b+(1:Int)))))))))else(vH a c (())))
def lK (U:Nat) (d:fE) (e:cJ) (c:bQ) (a:Int) (b:(Int)->Option (Int)):Option (Int):=
 if a<(c.length:Int)then(ck (0<=a/\a<(c.length:Int)) (if((at' c a).length:Int)≠(d.2.1.length:Int)then(some (10:Int))else(bL (oL U d e c a b) U (0:Int))))else(vG (()))
def lF (U:Nat) (a:fE) (b:cJ) (c:bQ):Option (Int):=
 Option.bind (pQ U ((a.1,a.2.1,a.2.2)) ((b.1,b.2))) λd=>(if d≠(0:Int)then(some (d))else(if(c.length:Int)≠(b.2.length:Int)then(some (10:Int))else(bL (lK U a b c) U (0:Int))))
theorem Xt:bB Tryz.prog 99:=Tryz.call99
theorem HO (U:Nat) {i:fE} {y:cJ} {E:bQ} (n o p q:V0) (J:kX) (A:V0) (Q:nG) (r:Int) (h:lF U i y E=some r):
  bE Tryz.prog 99 #[Value.agg #[vS (i.1),n,o],Value.agg #[p,q],A] [Sl aE n i.2.1,Sl aD o i.2.2,PF (Value.agg #[vS i.1,n,o]),Sl aM p y.1,S2 aY q J y.2,S2 aM A Q E] (λx:Unit=>vI (r)) (λx l=>l) (λ_ l=>l):=by
 let m:=(lK U i y E)
 refine bE.of Tryz.func99 Z Tryz.ntmps99 Z λc=>?_;refine aU<|aJ (aQ.box (cs:=[vS (i.1),n,o]) Z Z) Z λC=>let j:=bM C [vS (i.1),n,o] 36;aJ (aQ.box (cs:=[p,q]) Z Z) Z λD=>let k:=bM D [p,q] 31;aC Z<|aP<|aN<|aU<|cM 1 Z<|cM 0 Z<|eI h λM N h=>aJ (zBb TV (Ji U n o p q J M N) Z (iB [0,1,2,3,4] Z)) Z λR=>aC Z<|aP<|aU<|aA Z<|lB Z<|aP ?_
 refine eG h Z (λh=>?_) λh=>?_
 ·refine aU<|aA Z<|aC Z<|aP<|aS<|aG ?_;cases h;exact mO Z
 refine cL<|aN<|aU<|aA Z<|aB (dM Z (zJ Z) Z) Z<|bV Z<|dK 0 Z<|aB (dM Z (CL Z) Z) Z<|lB Z<|aP ?_;refine eG h Z (λh=>?_) λh=>?_
 ·refine aU<|aC Z<|aP<|aS<|aG ?_;cases h;exact mO Z
 refine cL<|aN<|eB (λB=>vG B=some r) (λB K=>[]) (λB K=>[]) ?_ ?_
 ·refine aU<|aC Z<|aP<|aT<|eW m (λa s=>[(2,A),(3,vP C),(4,vP D),(8,vI (a))]) (λa s=>[k,j]) (0:Int) () h SF (a_.refl _) ?_;intro w a s h;refine aN<|aU<|aA Z<|aA Z<|aB (dM Z (zJ Z) Z) Z<|cU Z<|aP ?_;refine eG h Z (λh=>?_) λh=>?_
  ·refine cL<|aN<|eB (λd=>vH a (bL m w) d=some r) (λd t=>[(2,A),(3,vP C),(4,vP D),(8,vI (a))]) (λd t=>[k,j]) ?_ ?_
   ·refine aT<|aN<|aN ?_;refine rP [0,0,3,7,15,0,32,96,255] 8 mixedOrders ?_;refine aV Z<|aV Z<|cQ h λf h=>bA Z .nil (eV 5 Z) (bK Z Z (b_ Z) Z Z f) aL.z<|bA Z .nil (eV 5 Z) (bS Z (b_ Z) Z Z f) aL.z<|bA Z .nil (eV 5 Z) (fH Z (zBc (b_ Z) f.1 f.2) Z) aL.z<|cC Z<|eQ 1 Z<|bA Z .nil (eV 0 Z) (fH Z (b_ Z) Z) aL.z<|bN 8 Z Z<|lB Z<|aP ?_;refine eG h Z (λh=>?_) λh=>?_
    ·refine aU<|aC Z<|aP<|aS<|aG<|bF<|aG<|aG<|bF<|aG ?_;cases h;exact mO Z
    refine cL<|aU<|aC Z<|aP<|aT<|eW (oL U i y E a (bL m w)) (λe u=>[(2,A),(3,vP C),(4,vP D),(8,vI (a)),(9,vI (e))]) (λe u=>[k,j]) (0:Int) () h SF (a_.refl _) ?_;intro L e u h;refine aN<|aU<|aA Z<|aA Z<|aA Z<|cQ h λg h=>aB (bK Z Z (zJ Z) Z Z g) Z<|aB (bS Z (zJ Z) Z Z g) Z<|aB (fH Z (zBc (zJ Z) g.1 g.2) Z) Z<|cU Z<|aP ?_;refine eG h Z (λh=>?_) λh=>?_
    ·refine cL<|aN<|aT<|aU<|cM 1 Z<|cM 0 Z<|aA Z<|aA Z<|eI h λF H h=>aJ (zBb KS (Di U n o p q J F H) Z (iB [0,1,2,3,4] Z)) Z λO=>aA Z<|iN Z<|iN Z<|aC Z<|aC Z<|aP<|aU<|aA Z<|aA Z<|cQ h λb h=>aB (bK Z Z (zJ Z) Z Z b) Z<|aB (bS Z (zJ Z) Z Z b) Z<|aA Z<|cQ h λv h=>aB (bG Z Z (zBc (zJ Z) b.1 b.2) Z Z v) Z<|aB (cI Z (zBc (zJ Z) b.1 b.2) Z Z Z eZ v) Z<|aA Z<|aA Z<|eI h λG I h=>aJ (zBb uQ (jL U G I) Z .nil) Z λP=>aB (jG Z) Z<|aP ?_;refine rR h Z (λ_ h=>?_) λ_ h=>?_
     ·refine aU<|aC Z<|aP<|aS<|bF<|aG<|aG<|bF<|bF<|aG<|aG<|bF<|aG ?_;cases h;exact mO Z
     refine dW<|lA<|aR<|aA Z<|cN Z<|aC Z<|aP ?_;exact xD (wI .i64 (e+(1:Int))) () h SF Z
    refine uE<|g_<|g_<|Cr<|lA ?_;exact f_ () (()) h SF Z
   intro d t h;unfold vH at h;refine aR<|aA Z<|cN Z<|aC Z<|aP ?_;exact xD (wI .i64 (a+(1:Int))) () h SF Z
  refine eP ?_;exact cB () (()) h SF .nil (aH.refl _ _)
 intro B K h;unfold vG at h;refine aU<|aC Z<|aP<|aS ?_;cases h;exact iR Z
def Av (a:Unit):Option (Int):=
 some (-1:Int)
def vK (U:Nat) (c:fE) (e:cJ) (f:bQ) (g a:Int) (b:(Int)->Option (Int)):Option (Int):=
 if a<(c.2.2.length:Int)then(ck (0<=a/\a<(c.2.2.length:Int)) (Option.bind (fD U ((e.1,e.2)) f g (-1:Int) ((at' c.2.2 a).2.1.2) (0:Int)) λd=>(if d≠(0:Int)then(some (a))else(b (wI .i64 (a+(1:Int)))))))else(Av (()))
def lG (U:Nat) (a:fE) (b:cJ) (c:bQ) (d:Int):Option (Int):=
 bL (vK U a b c d) U (0:Int)
theorem OD:bB Tryz.prog 104:=Tryz.call104
theorem Ez (U:Nat) {b:fE} {k:cJ} {o:bQ} {m:Int} (e f g i:V0) (w:kX) (n:V0) (y:nG) (r:Int) (h:lG U b k o m=some r):
  bE Tryz.prog 104 #[Value.agg #[vS (b.1),e,f],Value.agg #[g,i],n,vI (m)] [Sl aE e b.2.1,Sl aD f b.2.2,PF (Value.agg #[vS b.1,e,f]),Sl aM g k.1,S2 aY i w k.2,S2 aM n y o] (λx:Unit=>vI (r)) (λx l=>l) (λ_ l=>l):=by
 refine bE.of Tryz.func104 Z Tryz.ntmps104 Z λc=>?_;unfold lG at h;refine aU<|aJ (aQ.box (cs:=[vS (b.1),e,f]) Z Z) Z λs=>aJ (aQ.box (cs:=[g,i]) Z Z) Z λt=>aC Z<|aP<|aN<|eB (λj=>Av j=some r) (λj u=>[]) (λj u=>[]) ?_ ?_
 ·refine aU<|aC Z<|aP<|aT<|eW (vK U b k o m) (λd v=>[(2,n),(3,vI (m)),(4,vP s),(5,vP t),(9,vI (d))]) (λd v=>[bM t [g,i] 31,bM s [vS (b.1),e,f] 36]) (0:Int) () h SF (a_.refl _) ?_;intro B d v h;refine aN<|aU<|aA Z<|bV Z<|dK 1 Z<|iL (mR Z) Z<|cU Z<|aP ?_;refine eG h Z (λh=>?_) λh=>?_
  ·refine cL<|aN<|aT<|aN ?_;refine rP [0,0,0,0,8,0,56,120,248,511,1023] 9 mixedOrders ?_;refine jA 0 Z<|aV Z<|aV Z<|cC Z<|eQ 1 Z<|aV Z<|cQ h λa h=>bA Z .nil (eV 1 Z) (bG Z Z (b_ Z) Z Z a) aL.z<|eN Z (dC Z Z Z Z Z)<|bA Z .nil (eV 1 Z) (eL Z (b_ Z) Z Z Z tQ a) aL.z<|bN 9 Z Z<|eI h λp q h=>aJ (zBb CY (Mq U g i w n y ((at' b.2.2 d).2.1.1) p q) Z (aH.cons (Bh Z) (aH.cons (CL Z) (aH.cons (zJ Z) (aH.cons (kA (mR Z) tS a.1 a.2) .nil))))) Z λA=>lB Z<|aP ?_;refine eG h Z (λh=>?_) λh=>?_
   ·refine aU<|aA Z<|aC Z<|aP<|aS<|bF<|aG<|aG<|bF<|aG ?_;cases h;exact mO Z
   refine dW<|lA<|aR<|aA Z<|cN Z<|aC Z<|aP ?_;exact xD (wI .i64 (d+(1:Int))) () h SF Z
  refine eP ?_;exact cB () (()) h SF .nil (aH.refl _ _)
 intro j u h;unfold Av at h;refine aU<|aC Z<|aP<|aS ?_;cases h;exact iR Z
def Aq (c:Int) (a:fF) (b:Bool):Option (Int):=
 if b=true then(some (-1:Int))else(some (min (max c a.1) a.2))
def xK (U:Nat) (a:fE) (f:cJ) (g b d:Int):Option (Int):=
 Option.bind (jO U ((a.1,a.2.1,a.2.2)) ((f.1,f.2)) g b) λc=>(ck (0<=b/\b<(a.2.1.length:Int)) (if((at' a.2.1 b).2.1)=(3:Int)then(Option.bind (iC U d c.1 c.2) λe=>(Aq d c ((!e))))else(Aq d c (false))))
theorem aav:bB Tryz.prog 208:=Tryz.call208
theorem M_ (U:Nat) {a:fE} {n:cJ} {q s i:Int} (f g k m:V0) (t:kX) (r:Int) (h:xK U a n q s i=some r):
  bE Tryz.prog 208 #[Value.agg #[vS (a.1),f,g],Value.agg #[k,m],vI (q),vI (s),vI (i)] [Sl aE f a.2.1,Sl aD g a.2.2,PF (Value.agg #[vS a.1,f,g]),Sl aM k n.1,S2 aY m t n.2] (λx:Unit=>vI (r)) (λx l=>l) (λ_ l=>l):=by
 refine bE.of Tryz.func208 Z Tryz.ntmps208 Z λc=>?_;refine aU<|aJ (aQ.box (cs:=[vS (a.1),f,g]) Z Z) Z λw=>aJ (aQ.box (cs:=[k,m]) Z Z) Z λy=>aC Z<|aP<|aU<|cM 1 Z<|cM 0 Z<|aA Z<|aA Z<|eI h λj u h=>aJ (zBb KS (Di U f g k m t j u) Z (iB [0,1,2,3,4] Z)) Z λz=>aA Z<|iN Z<|iN Z<|aC Z<|aC Z<|aP<|aN<|aN<|eB (λb=>Aq i j b=some r) (λb p=>[(4,vI (i)),(11,vI (j.1)),(12,vI (j.2)),(34,vB (b))]) (λb p=>[]) ?_ ?_
 ·refine aR<|bV Z<|dK 1 Z<|aA Z<|cQ h λd h=>aB (bG Z Z (b_ Z) Z Z d) Z<|aB (dC Z Z Z Z Z) Z<|aB (eL Z (b_ Z) Z Z Z lV d) Z<|cH Z<|aA Z ?_;refine Ds h Z (λ_ h=>?_) λ_ h=>?_
  ·refine dD Z<|dD Z<|dD Z<|eI h λe o h=>oU Z (zBb uQ (jL U e o) Z .nil) Z λv=>aW Z (jG Z) Z<|d_ Z<|aP ?_;exact cB ((!e)) () h SF .nil (aH.refl _ _)
  refine aO Z<|aO Z<|aO Z<|aO Z<|aO Z<|eR Z<|aP ?_;exact cB (false) () h SF .nil (aH.refl _ _)
 intro b p h;refine rR h Z (λ_ h=>?_) λ_ h=>?_
 ·refine aU<|aC Z<|aP<|aS<|aG ?_;cases h;exact iR Z
 refine cL<|aU<|aA Z<|aA Z<|aB (HB Z Z) Z<|aA Z<|aB (Nq Z Z) Z<|aC Z<|aP<|aS ?_;cases h;exact iR Z
def Cg (a:bT):Option bT:=
 some (a)
def xR (U:Nat) (b:fE) (e:cJ) (i:bQ) (h c:Int) (a:Int×bT) (d:(Int×bT)->Option bT):Option bT:=
 if a.1<(((at' b.2.2 c).2.2.2).length:Int)then(ck (0<=a.1/\a.1<(((at' b.2.2 c).2.2.2).length:Int)) (ck (0<=a.1/\a.1<(((at' b.2.2 c).2.2.2).length:Int)) (ck (0<=a.1/\a.1<(((at' b.2.2 c).2.2.2).length:Int)) (Option.bind (fD U ((e.1,e.2)) i h (-1:Int) ((at' ((at' b.2.2 c).2.2.2) a.1).2.2) (0:Int)) λf=>(Option.bind (xK U ((b.1,b.2.1,b.2.2)) ((e.1,e.2)) h ((at' ((at' b.2.2 c).2.2.2) a.1).1) f) λg=>(ck (0<=((at' ((at' b.2.2 c).2.2.2) a.1).1)/\((at' ((at' b.2.2 c).2.2.2) a.1).1)<(a.2.length:Int)) (d ((wI .i64 (a.1+(1:Int))),(List.set a.2 (Int.toNat ((at' ((at' b.2.2 c).2.2.2) a.1).1)) g)))))))))else(Cg (a.2))
def Ah (U:Nat) (b:fE) (d:cJ) (c:bQ) (a:Int):Option bT:=
 ck (0<=a/\a<(c.length:Int)) (ck ((List.length ([]:bT):Int)+((at' c a).length:Int)<=1099511627) (Option.bind (lG U ((b.1,b.2.1,b.2.2)) ((d.1,d.2)) c a) λe=>(ck (0<=e/\e<(b.2.2.length:Int)) (bL (xR U b d c a e) U ((0:Int),(([]:bT)++(at' c a)))))))
theorem aam:bB Tryz.prog 170:=Tryz.call170
theorem PN (U:Nat) {e:fE} {A:cJ} {B:bQ} {t:Int} (i j k m:V0) (D:kX) (w:V0) (J:nG) (r:bT) (h:Ah U e A B t=some r):
  bE Tryz.prog 170 #[Value.agg #[vS (e.1),i,j],Value.agg #[k,m],w,vI (t)] [Sl aE i e.2.1,Sl aD j e.2.2,PF (Value.agg #[vS e.1,i,j]),Sl aM k A.1,S2 aY m D A.2,S2 aM w J B] (λx:V0=>x) (λx l=>Ar fT x r::l) (λ_ l=>l):=by
 refine bE.of Tryz.func170 Z Tryz.ntmps170 Z λc=>?_;refine aU<|aJ (aQ.box (cs:=[vS (e.1),i,j]) Z Z) Z λK=>aJ (aQ.box (cs:=[k,m]) Z Z) Z λL=>aC Z<|aP<|aU<|aA Z<|aA Z<|cQ h λy h=>aB (bK Z Z (zJ Z) Z Z y) Z<|aB (bS Z (zJ Z) Z Z y) Z<|bZ (gC fT)<|cQ h λM h=>aJ (jN 0 iY Z Z Z (zBc (zJ Z) y.1 y.2) Z Z Z Z M Z) Z λv=>aC Z<|aP<|aN ?_;refine rP [0,1,0,0,0,0,60,127,255,511,1023] 7 mixedOrders ?_;refine cC Z<|eQ 2 Z<|jA 2 Z<|jA 1 Z<|aV Z<|aV Z<|eI h λC O h=>zBd Z Z Z (zBb OD (Ez U i j k m D w J C O) Z (iB [0,1,2,3,4,5] Z)) Z (λP=>(nK [([2],[])] Z)) λP=>bN 7 Z Z<|cQ h λa h=>aB (bG Z Z (mR Z) Z Z a) Z<|aB (dC Z Z Z Z Z) Z<|aB (eL Z (mR Z) Z Z Z tR a) Z<|aC Z<|aP<|aN<|eB (λd=>Cg d=some r) (λd n=>[(9,v)]) (λd n=>[Ar fT v d]) ?_ ?_
 ·refine aU<|aC Z<|aP<|aT<|eW (xR U e A B t C) (λb o=>[(2,w),(3,vI (t)),(4,vP K),(5,vP L),(9,v),(10,(at' e.2.2 C).2.2.1),(11,vI (b.1))]) (λb o=>[Ar fT v b.2,bM L [k,m] 31,bM K [vS (e.1),i,j] 36]) ((0:Int),(([]:bT)++(at' B t))) () h SF (a_.refl _) ?_;intro N b o h;let u:=(at' ((at' e.2.2 C).2.2.2) b.1)
  refine aN<|aU<|aA Z<|aA Z<|aB (fH Z (kA (mR Z) cS a.1 a.2) Z) Z<|cU Z<|aP ?_;refine eG h Z (λh=>?_) λh=>?_
  ·refine cL<|aN<|aT ?_;refine rP [0,0,0,6,14,30,0,0,0,0,0,1536,3584,7680,0,0,0,0,0,393216,917504,1966080,4177920,8388544,16777215,33554431] 24 mixedOrders ?_;refine aV Z<|aV Z<|aV Z<|cQ h λp h=>bA Z .nil (eV 1 Z) (bG Z Z (kA (b_ Z) cS a.1 a.2) Z Z p) aL.z<|eN Z (dC Z Z Z Z Z)<|bA Z .nil (eV 1 Z) (eL Z (kA (b_ Z) cS a.1 a.2) Z Z Z FV p) aL.z<|jA 2 Z<|jA 1 Z<|aV Z<|aV Z<|aV Z<|cQ h λq h=>bA Z .nil (eV 1 Z) (bG Z Z (kA (b_ Z) cS a.1 a.2) Z Z q) aL.z<|eN Z (dC Z Z Z Z Z)<|bA Z .nil (eV 1 Z) (eL Z (kA (b_ Z) cS a.1 a.2) Z Z Z FV q) aL.z<|jA 1 Z<|aV Z<|aV Z<|aV Z<|aV Z<|cQ h λf h=>bA Z .nil (eV 1 Z) (bG Z Z (kA (b_ Z) cS a.1 a.2) Z Z f) aL.z<|eN Z (dC Z Z Z Z Z)<|bA Z .nil (eV 1 Z) (eL Z (kA (b_ Z) cS a.1 a.2) Z Z Z Kz f) aL.z<|eI h λE F h=>zBd Z Z Z (zBb CY (Mq U k m D w J (u.2.1) E F) Z (aH.cons (Bh Z) (aH.cons (CL Z) (aH.cons (zJ Z) (aH.cons (kA (kA (mR Z) cS a.1 a.2) CF f.1 f.2) .nil))))) Z (λH=>(nK [([],[1]),([],[1]),([1],[]),([2],[]),([],[1]),([],[1])] Z)) λH=>eI h λg G h=>zBd Z Z Z (zBb aav (M_ U i j k m D g G) Z (iB [0,1,2,3,4] Z)) Z (λI=>(nK [([],[1]),([],[1])] Z)) λI=>bN 24 Z Z<|cQ h λs h=>aB (bG Z Z (dR (aI.res 0 Z) iY) Z Z s) Z<|Lo 0 g s Z Z Z Z Z Z Z<|eS<|lA<|aR<|aA Z<|cN Z<|aC Z<|aP ?_;exact xD ((wI .i64 (b.1+(1:Int))),(List.set b.2 (Int.toNat (u.1)) g)) () h SF Z
  refine eP ?_;exact cB (b.2) () h SF (a_.ix [0] Z Z) (aH.refl _ _)
 intro d n h;unfold Cg at h;refine aU<|aA Z<|aC Z<|aP<|aS ?_;cases h;exact kY (v) Z Z (RV.tmp Z) (a_.refl _) aH.nil
def Af (U:Nat) (a:fE) (b:cJ) (c:bQ) (d:Int):Option (bT×Int):=
 Option.bind (lF U ((a.1,a.2.1,a.2.2)) ((b.1,b.2)) c) λg=>(if g≠(0:Int)then(some (([]:bT),g))else(Option.bind (iC U d (0:Int) (wI .i64 ((c.length:Int) - (1:Int)))) λh=>(if(!h)=true then(some (([]:bT),(2:Int)))else(Option.bind (lG U ((a.1,a.2.1,a.2.2)) ((b.1,b.2)) c d) λe=>(if e<(0:Int)then(some (([]:bT),(11:Int)))else(Option.bind (Ah U ((a.1,a.2.1,a.2.2)) ((b.1,b.2)) c d) λf=>(some (f,(0:Int)))))))))
theorem aaa:bB Tryz.prog 113:=Tryz.call113
theorem PL (U:Nat) {d:fE} {k:cJ} {s:bQ} {t:Int} (a b e f:V0) (i:kX) (g:V0) (j:nG) (r:bT×Int) (h:Af U d k s t=some r):
  bE Tryz.prog 113 #[Value.agg #[vS (d.1),a,b],Value.agg #[e,f],g,vI (t)] [Sl aE a d.2.1,Sl aD b d.2.2,PF (Value.agg #[vS d.1,a,b]),Sl aM e k.1,S2 aY f i k.2,S2 aM g j s] (λx:V0=>Value.tuple #[x,vI (r.2)]) (λx l=>Ar fT x r.1::l) (λ_ l=>l):=by
 refine bE.of Tryz.func113 Z Tryz.ntmps113 Z λc=>?_;refine aU<|aJ (aQ.box (cs:=[vS (d.1),a,b]) Z Z) Z λA=>aJ (aQ.box (cs:=[e,f]) Z Z) Z λB=>aC Z<|aC Z<|aP<|aN<|aU<|cM 1 Z<|cM 0 Z<|aA Z<|eI h λu w h=>aJ (zBb Xt (HO U a b e f i g j u w) Z (iB [0,1,2,3,4,5] Z)) Z λC=>aC Z<|aP<|aU<|aA Z<|lB Z<|aP ?_;refine eG h Z (λh=>?_) λh=>?_
 ·refine aU<|aA Z<|aC Z<|aC Z<|aP<|aS<|aG<|bZ (gC fT) ?_;cases h;exact gY (cW) Z Z (RV.tmp Z) (RV.tmp Z) (a_.ix [0] Z Z) aH.nil
 refine cL<|aN<|aU<|aA Z<|aA Z<|aB (dM Z (zJ Z) Z) Z<|aB (nI Z Z) Z<|eI h λv y h=>aJ (zBb uQ (jL U v y) Z .nil) Z λD=>aB (jG Z) Z<|aP ?_;refine rR h Z (λ_ h=>?_) λ_ h=>?_
 ·refine aU<|aC Z<|aC Z<|aP<|aS<|aG<|bZ (gC fT) ?_;cases h;exact gY (cW) Z Z (RV.tmp Z) (RV.tmp Z) (a_.ix [0] Z Z) aH.nil
 refine cL<|aN<|aU<|cM 1 Z<|cM 0 Z<|aA Z<|aA Z<|eI h λm o h=>aJ (zBb OD (Ez U a b e f i g j m o) Z (iB [0,1,2,3,4,5] Z)) Z λz=>cU Z<|aP ?_;refine eG h Z (λh=>?_) λh=>?_
 ·refine aU<|aC Z<|aC Z<|aP<|aS<|aG<|bZ (gC fT) ?_;cases h;exact gY (cW) Z Z (RV.tmp Z) (RV.tmp Z) (a_.ix [0] Z Z) aH.nil
 refine cL<|aU<|cM 1 Z<|cM 0 Z<|aA Z<|aA Z<|eI h λn p h=>aJ (zBb aam (PN U a b e f i g j n p) Z (iB [0,1,2,3,4,5] Z)) Z λq=>aC Z<|aC Z<|aP<|aS ?_;cases h;exact gY (q) Z Z (RV.tmp Z) (RV.tmp Z) (a_.ix [0] Z Z) aH.nil
def mF (U:Nat) (a:fE) (b:cJ) (c:bQ):Option Bool:=
 Option.bind (lF U ((a.1,a.2.1,a.2.2)) ((b.1,b.2)) c) λd=>(some (decide (d=(0:Int))))
theorem Xm:bB Tryz.prog 53:=Tryz.call53
theorem HP (U:Nat) {a:fE} {g:cJ} {j:bQ} (b d e f:V0) (k:kX) (i:V0) (m:nG) (r:Bool) (h:mF U a g j=some r):
  bE Tryz.prog 53 #[Value.agg #[vS (a.1),b,d],Value.agg #[e,f],i] [Sl aE b a.2.1,Sl aD d a.2.2,PF (Value.agg #[vS a.1,b,d]),Sl aM e g.1,S2 aY f k g.2,S2 aM i m j] (λx:Unit=>vB (r)) (λx l=>l) (λ_ l=>l):=by
 refine bE.of Tryz.func53 Z Tryz.ntmps53 Z λc=>?_;refine aU<|aJ (aQ.box (cs:=[vS (a.1),b,d]) Z Z) Z λp=>aJ (aQ.box (cs:=[e,f]) Z Z) Z λq=>aC Z<|aP<|aU<|cM 1 Z<|cM 0 Z<|aA Z<|eI h λn o h=>aJ (zBb Xt (HO U b d e f k i m n o) Z (iB [0,1,2,3,4,5] Z)) Z λs=>cH Z<|aC Z<|aP<|aS ?_;cases h;exact mO Z
def Cf (U:Nat) (a:fE) (b:cJ) (d:bQ) (e:Int) (c:Bool):Option (Int):=
 if c=true then(some (-1:Int))else(Option.bind (lG U ((a.1,a.2.1,a.2.2)) ((b.1,b.2)) d e) λf=>(some (f)))
def Ag (U:Nat) (a:fE) (b:cJ) (c:bQ) (d:Int):Option (Int):=
 Option.bind (mF U ((a.1,a.2.1,a.2.2)) ((b.1,b.2)) c) λe=>(if(!e)=true then(Cf U a b c d (true))else(Option.bind (iC U d (0:Int) (wI .i64 ((c.length:Int) - (1:Int)))) λf=>(Cf U a b c d ((!f)))))
theorem ade:bB Tryz.prog 58:=Tryz.call58
theorem PM (U:Nat) {b:fE} {m:cJ} {o:bQ} {n:Int} (d e f g:V0) (t:kX) (k:V0) (u:nG) (r:Int) (h:Ag U b m o n=some r):
  bE Tryz.prog 58 #[Value.agg #[vS (b.1),d,e],Value.agg #[f,g],k,vI (n)] [Sl aE d b.2.1,Sl aD e b.2.2,PF (Value.agg #[vS b.1,d,e]),Sl aM f m.1,S2 aY g t m.2,S2 aM k u o] (λx:Unit=>vI (r)) (λx l=>l) (λ_ l=>l):=by
 refine bE.of Tryz.func58 Z Tryz.ntmps58 Z λc=>?_;refine aU<|aJ (aQ.box (cs:=[vS (b.1),d,e]) Z Z) Z λv=>aJ (aQ.box (cs:=[f,g]) Z Z) Z λw=>aC Z<|aP<|aN<|aN<|eB (λi=>Cf U b m o n i=some r) (λi y=>[(2,k),(3,vI (n)),(4,vP v),(5,vP w),(21,vB (i))]) (λi y=>[bM w [f,g] 31,bM v [vS (b.1),d,e] 36]) ?_ ?_
 ·refine aR<|cM 1 Z<|cM 0 Z<|aA Z<|eI h λp q h=>aJ (zBb Xm (HP U d e f g t k u p q) Z (iB [0,1,2,3,4,5] Z)) Z λB=>aB (jG Z) Z<|aA Z ?_;refine vW (by exact rfl) (by exact rfl) (λa=>?_) (λa=>?_)
  ·have h:=Hh a h;refine aO Z<|aO Z<|aO Z<|aO Z<|aO Z<|aO Z<|d_ Z<|aP ?_;exact f_ (true) () h SF Z
  have h:=En a h;refine dD Z<|dD Z<|aW Z (dM Z (zJ Z) Z) Z<|aW Z (nI Z Z) Z<|eI h λj s h=>oU Z (zBb uQ (jL U j s) Z .nil) Z λC=>aW Z (jG Z) Z<|eR Z<|aP ?_;exact f_ ((!j)) () h SF Z
 intro i y h;refine rR h Z (λ_ h=>?_) λ_ h=>?_
 ·refine aU<|aC Z<|aP<|aS<|aG ?_;cases h;exact mO Z
 refine cL<|aU<|cM 1 Z<|cM 0 Z<|aA Z<|aA Z<|eI h λz A h=>aJ (zBb OD (Ez U d e f g t k u z A) Z (iB [0,1,2,3,4,5] Z)) Z λD=>aC Z<|aP<|aS ?_;cases h;exact mO Z
def B_ (a:bQ):Option bQ:=
 some (a)
def xO (c:bQ) (a:bQ×Int) (b:(bQ×Int)->Option bQ):Option bQ:=
 if a.2<(c.length:Int)then(ck (0<=a.2/\a.2<(c.length:Int)) (ck ((List.length ([]:bT):Int)+((at' c a.2).length:Int)<=1099511627) (ck ((a.1.length:Int)+(List.length ([(([]:bT)++(at' c a.2))]):Int)<=1099511627) (b ((a.1++([(([]:bT)++(at' c a.2))])),(wI .i64 (a.2+(1:Int))))))))else(B_ (a.1))
def mE (U:Nat) (a:bQ):Option bQ:=
 bL (xO a) U (([]:bQ),(0:Int))
theorem Iz:bB Tryz.prog 105:=Tryz.call105
theorem AU (U:Nat) {o:bQ} (v:V0) (z:nG) (r:bQ) (h:mE U o=some r):
  bE Tryz.prog 105 #[v] [S2 aM v z o] (λx:DN=>x.1) (λx l=>Ar bJ.raw x.1 x.2::fQ fT x.2 r::l) (λ_ l=>l):=by
 refine bE.of Tryz.func105 Z Tryz.ntmps105 Z λc=>?_;unfold mE at h;refine aU<|aC Z<|aP<|aU<|aC Z<|aP<|aN<|KC (B:=DN) (λm=>B_ m=some r) (λm g=>[(3,g.1)]) (λm g=>[Ar bJ.raw g.1 g.2,fQ fT g.2 m]) ?_ ?_
 ·refine aU<|aC Z<|aP<|aT<|bZ (gC bJ.raw) (bZ (iJ fT) ?_);refine eW (B:=DN) (xO o) (λb a=>[(0,v),(3,a.1),(4,vI (b.2))]) (λb a=>[Ar bJ.raw a.1 a.2,fQ fT a.2 b.1]) (([]:bQ),(0:Int)) ((cW),([]:fL)) h SF (a_.ix [1,0] Z Z) ?_;intro w b a h;refine aN<|aU<|aA Z<|aA Z<|aB (dM Z (b_ Z) Z) Z<|cU Z<|aP ?_;refine eG h Z (λh=>?_) λh=>?_
  ·refine cL<|aN<|aT<|aR<|aA Z<|aA Z<|aA Z<|cQ h λd h=>aB (bK Z Z (b_ Z) Z Z d) Z<|aB (bS Z (b_ Z) Z Z d) Z<|bZ (gC fT)<|cQ h λp h=>aJ (jN 0 iY Z Z Z (zBc (b_ Z) d.1 d.2) Z Z Z Z p Z) Z λf=>bZ (iJ fT)<|bD (Know.one ((dR (aI.res 1 Z) iY))) λk=>bZ (rX 0 1 Z Z Z) ?_;refine aJ (cX (e:=bJ.raw) [f] [(0,f)] Z Z Z Z (jU (f) k) Z Z (by simp[cellsOf,bJ.raw,k])) Z λy=>?_;refine bD (dQ 3 Z) λi=>bD (dQ 1 Z) λj=>cQ h λn h=>bZ (nP 3 1 Z Z Z) ?_;refine aJ (aQ.append 1 0 Z Z Z Z Z Z Z (by have q:=n;have s:=i;have t:=j;(try simp only[zA8,zAg]at q s t ⊢);omega) (by have q:=n;have s:=i;have t:=j;(try simp only[zA8,zAg]at q s t ⊢);omega) Z) Z λu=>?_;refine aC Z<|eS<|lA<|aR<|aA Z<|cN Z<|aC Z<|aP ?_;exact iP ((b.1++([(([]:bT)++(at' o b.2))])),(wI .i64 (b.2+(1:Int)))) (u,(a.2++[f])) h SF (a_.ix [1,2] Z Z) (aH.refl _ _)
  refine eP ?_;exact f_ (b.1) (a.1,a.2) h SF Z
 intro m g h;unfold B_ at h;refine aU<|aA Z<|aC Z<|aP<|aS ?_;cases h;exact kY (g.1,g.2) Z Z (RV.tmp Z) (a_.refl _) aH.nil
end Go.Proofs.YtflciafboapaaaaGreat
namespace Go.Proofs.YtflciafboapaaaaGreat
open Go Go.Sx
theorem NF {g:GR} (a:VG g) {f:Nat} (e:30<=f):jP f g=some (jH g g.1.length):=by
 have d:=a.n24;have b:=a.len;unfold jP;refine dJ (F:=λk:Nat=>((jH g k,(k:Int)):fF)) g.1.length (λk c h=> ?_) (λc=> ?_) f (by omega)
 ·unfold tZ;simp only;rw[if_pos (by omega),cF (by omega),wr (by omega) (by omega)];rfl
 ·unfold tZ tY;simp only;rw[if_neg (by omega)]
theorem VI {g:GR} (a:VG g):jP 1000 g=some (jH g g.1.length):=NF a (by omega)
section
variable {p:Fh} {g:GR} {R:List RL} {c:List (List Int)} {v:Nat}
theorem QB (b:VG g) (j:gR g p.2.1) {x:Nat} (k:x<p.2.1.length) (r:v<g.2.length):jO 1000 p g (v:Int) (x:Int)=some (qB g p.2.1 v x):=by
 obtain⟨⟨s,t⟩,⟨l,m⟩,n,o⟩:=j.small x k;have f:=j.kind x k;have q:=b.n24;have i:=b.len;have d:=EM b g.1.length (by omega);show jO 1000 p g (v:Int) (x:Int)=some (lo g (at' p.2.1 (x:Int)) v,hi g (at' p.2.1 (x:Int)) v);unfold jO;generalize u:at' p.2.1 (x:Int)=y at s t l m n o f;have w:0<=y.2.2.2.2.1*(g.2.length:Int):=Int.mul_nonneg l (by omega);have z:y.2.2.2.2.1*(g.2.length:Int)<=100000*24:=Int.mul_le_mul m (by omega) (by omega) (by omega);have A:0<=y.2.2.2.2.2*jH g g.1.length:=Int.mul_nonneg n d.1;have B:y.2.2.2.2.2*jH g g.1.length<=100000*255:=Int.mul_le_mul o d.2 d.1 (by omega);have a:0<=(x:Int)/\(x:Int)<(p.2.1.length:Int):=by omega
 rw[cF a];unfold lo hi;rcases f with h|h|h
 ·simp only[h];rw[if_neg (by decide),if_neg (by decide),cF a,cF a,cF a,cF a,bH (VI b),if_neg (by decide),if_neg (by decide),if_neg (by decide),if_neg (by decide),wr (x:=y.2.2.2.2.1*_) (by omega) (by omega),wr (x:=y.2.2.2.2.2*_) (by omega) (by omega),wr (x:=y.2.2.2.1+_) (by omega) (by omega),wr (by omega) (by omega)]
 ·simp only[h];rw[if_pos trivial,if_pos trivial,if_pos trivial]
 ·have e:=(b.node v r).deg;simp only[h];rw[if_neg (by decide),if_pos trivial,cF (by omega),if_neg (by decide),if_pos trivial,if_neg (by decide),if_pos trivial];show some ((-1:Int),wI .i64 (((row g v).length:Int) - 1))=_;rw[wr (by omega) (by omega)]
theorem XW (b:VG g) (d:gR g p.2.1):pQ 1000 p g=some 0:=by
 have l:=b.n1;have j:=d.len;unfold pQ;rw[bH (show Ep 1000 _=some true from rfl),if_neg (by decide),bH (show lE 1000 g=some true from(Pp g).1 b),if_neg (by decide)];refine dJ (step:=tG 1000 p g) (K:=some 0) p.2.1.length (λk=>(k:Int)) (λk f e=> ?_) (λf=> ?_) 1000 (by omega)
 ·unfold tG BZ;rw[if_pos (by omega),bH (show jO 1000 _ _ (0:Int) (k:Int)=_ from QB b d e (v:=0) (by omega)),cF (by omega),cV (by omega)];by_cases a:(at' p.2.1 (k:Int)).2.1=1
  ·obtain⟨m,n,o⟩:=d.range k e a;rw[if_pos a];have h:(qB g p.2.1 0 k).1=lo g (at' p.2.1 (k:Int)) 0:=rfl;have i:(qB g p.2.1 0 k).2=hi g (at' p.2.1 (k:Int)) 0:=rfl;rw[h,i,wr (by omega) (by omega),bH (jF 1000 _ _ _),zA4 (by omega),if_neg (by decide)]
  ·rw[if_neg a,if_neg (by decide)]
 ·unfold tG BY;rw[if_neg (by omega)]
theorem Xx (b:VG g) (h:gR g p.2.1) (d:Wo g c p.2.1):lF 1000 p g c=some 0:=by
 have l:=b.n24;have e:=d.len;have n:=h.len;unfold lF;rw[bH (show pQ 1000 _ _=some 0 from XW b h),if_neg (by decide),if_neg (by simp[e])];refine dJ (step:=lK 1000 p g c) (K:=some 0) g.2.length (λk=>(k:Int)) (λk i f=> ?_) (λi=> ?_) 1000 (by omega)
 ·have r:=d.row k f;unfold lK;rw[if_pos (by omega),cF (by omega),if_neg (by omega)];refine dJ (step:=oL 1000 p g c (k:Int) i) p.2.1.length (λx=>(x:Int)) (λx a j=> ?_) (λa=> ?_) 1000 (by omega)
  ·obtain⟨o,q⟩:=d.ok k f x j;unfold oL;have m:decide ((qB g p.2.1 k x).1<=at' (at' c (k:Int)) (x:Int)/\at' (at' c (k:Int)) (x:Int)<=(qB g p.2.1 k x).2)=true:=zA4 ⟨o,q⟩;rw[cF (by omega),if_pos (by omega),bH (show jO 1000 _ _ (k:Int) (x:Int)=_ from QB b h j f),cF (by omega),cF (by omega),bH (jF 1000 _ _ _),m,if_neg (by decide),cV (by omega)]
  ·unfold oL vH;rw[cF (by omega),if_neg (by omega),cV (by omega)]
 ·unfold lK vG;rw[if_neg (by omega)]
theorem Ui (c:List (List Int)) (h:c.length<=900) (d:∀v,v<c.length->(at' c (v:Int)).length<=1000):mE 1000 c=some c:=by
 unfold mE;refine dJ (step:=xO c) (K:=some c) c.length (λk=>(c.take k,(k:Int))) (λk b a=> ?_) (λb=> ?_) 1000 (by omega)
 ·have:=d k a;unfold xO;dsimp only;rw[if_pos (by omega),cF (by omega),cF (by simp;omega),cF (by simp;omega),zB8,nZ a,cV (by omega)]
 ·unfold xO B_;dsimp only;rw[if_neg (by omega),zB2]
def FW (p:Fh) (g:GR) (R:List RL):Prop:=∀c,Wo g c p.2.1->∀v:Nat,v<g.2.length->∀r∈R,fD 1000 g c (v:Int) (-1) r.1.ts 0=some (DY (dO p g) c v r.1)/\∀s∈r.2,fD 1000 g c (v:Int) (-1) s.2.ts 0=some (DY (dO p g) c v s.2)
theorem SO (x:FW p g R) (z:Wo g c p.2.1) (B:v<g.2.length) (t:p.2.2.map sO=BE R) (y:kJ p.2.1.length R=true):lG 1000 p g c (v:Int)=some (s_ (dO p g) R c v):=by
 have D:=ER t;have w:=UI y;let l:=R.map λr=>DY (dO p g) c v r.1;have A:l.length=R.length:=by simp[l]
 have n:∀i,i<R.length->at' l (i:Int)=DY (dO p g) c v (at' R (i:Int)).1:=λi q=>by
  rw[kE (by omega),kE q];simp[l]
 have d:∀(k:Nat) a,k<R.length->vK 1000 p g c (v:Int) (k:Int) a=if at' l (k:Int)≠0 then some (k:Int)else a (((k+1:Nat):Int)):=by
  intro k a b;have e:(at' p.2.2 (k:Int)).2.1.2=(at' R (k:Int)).1.ts:=congrArg Prod.fst (Lc t b);unfold vK;rw[if_pos (by omega),cF (by omega),e,bH (show fD 1000 _ c (v:Int) (-1) _ 0=_ from(x c z v B _ (by rw[kE b];exact List.getElem_mem b)).1),n k b,cV (by omega)]
 unfold lG s_;by_cases f:∃i,i<R.length/\at' l (i:Int)≠0
 ·obtain⟨i,q,u⟩:=f;obtain⟨m,C,o,h⟩:=NK (p:=λi=>at' l (i:Int)≠0) i u;have h:∀j,j<m->at' l (j:Int)=0:=λj s=>zAy.1 (h j s);rw[show iM _=(m:Int)from Ea (l:=l) (by omega) o h];exact dJ (K:=some (m:Int)) m (λk=>(k:Int)) (λk a b=>by rw[d k a (by omega),if_neg (by simp[h k b])]) (λa=>by rw[d m a (by omega),if_pos o]) 1000 (by omega)
 ·have f:∀j,j<l.length->at' l (j:Int)=0:=λj s=>zAy.1 λe=>f ⟨j,by omega,e⟩;rw[show iM _=(-1:Int)from D_ (l:=l) f];exact dJ (K:=some (-1)) R.length (λk=>(k:Int)) (λk a b=>by rw[d k a b,if_neg (by simp[f k (by omega)])]) (λa=>by
   unfold vK Av;rw[if_neg (by omega)]) 1000 (by omega)
theorem adm (k:VG g) (i:gR g p.2.1) {x:Nat} (j:x<p.2.1.length) (l:v<g.2.length) (y:Int):xK 1000 p g (v:Int) (x:Int) y=some (Gk (at' p.2.1 (x:Int)).2.1 (qB g p.2.1 v x) y):=by
 have e:=acb i j v;have f:(qB g p.2.1 v x).1<=(qB g p.2.1 v x).2:=e;unfold xK;rw[bH (show jO 1000 _ _ (v:Int) (x:Int)=_ from QB k i j l),cF (by omega)];generalize qB g p.2.1 v x=b at f;unfold Aq Gk;by_cases d:(at' p.2.1 (x:Int)).2.1=3
 ·rw[if_pos d,bH (jF 1000 _ _ _)];by_cases a:b.1<=y/\y<=b.2
  ·rw[zA4 a,if_neg (by decide),if_pos a,Int.max_eq_left a.1,Int.min_eq_left a.2]
  ·rw[zA3 a,if_pos (by decide),if_neg a,if_pos d]
 ·rw[if_neg d,if_neg (by decide)];by_cases a:b.1<=y/\y<=b.2
  ·rw[if_pos a,Int.max_eq_left a.1,Int.min_eq_left a.2]
  ·rw[if_neg a,if_neg d];by_cases h:y<b.1
   ·rw[if_pos h,Int.max_eq_right (by omega),Int.min_eq_left f]
   ·rw[if_neg h,Int.max_eq_left (by omega),Int.min_eq_right (by omega)]
theorem afj (E:VG g) (F:gR g p.2.1) (C:FW p g R) (t:Wo g c p.2.1) (u:v<g.2.length) (z:p.2.2.map sO=BE R) (D:kJ p.2.1.length R=true) (P:0<=s_ (dO p g) R c v):Ah 1000 p g c (v:Int)=some (NN (dO p g) p.2.1 R c v (s_ (dO p g) R c v)):=by
 have I:=E.n24;have J:=t.len;have n:=t.row v u;have O:=F.len;have Q:=ER z;unfold Ah;rw[cF (by omega),cF (by simp;omega),bH (show lG 1000 _ _ c (v:Int)=_ from SO C t u z D),zB8];obtain⟨i,L,b,_⟩:=(Mh (dO p g) R c v).resolve_left (λe=>by omega);rw[L,cF (by omega)];have x:=Lc z b;obtain⟨-,o,f⟩:=Le D b;have A:(at' p.2.2 (i:Int)).2.2.2.map (λs=>(s.1,s.2.2))=(at' R (i:Int)).2.map λs=>((s.1:Int),s.2.ts):=congrArg Prod.snd x;have r:(at' p.2.2 (i:Int)).2.2.2.length=(at' R (i:Int)).2.length:=by simpa using congrArg List.length A
 unfold NN;let a:=(at' R (i:Int)).2;exact dJ (step:=xR 1000 p g c (v:Int) (i:Int)) (K:=some (a.foldl (KF (dO p g) p.2.1 c v) (at' c (v:Int)))) a.length (λk=>((k:Int),(a.take k).foldl (KF (dO p g) p.2.1 c v) (at' c (v:Int)))) (λk H h=>by
  have m:k<(at' p.2.2 (i:Int)).2.2.2.length:=by rw[r];exact h
  have B:((at' (at' p.2.2 (i:Int)).2.2.2 (k:Int)).1,(at' (at' p.2.2 (i:Int)).2.2.2 (k:Int)).2.2)=(((at' a (k:Int)).1:Int),(at' a (k:Int)).2.ts):=by
   have:=congrArg (λq=>q[k]?) A;simp only[List.getElem?_map,zA2 m,zA2 (show k<(at' R (i:Int)).2.length from h),Option.map_some,Option.some.injEq]at this;rw[kE m,kE h];exact this
  have j:=congrArg Prod.fst B;have l:=congrArg Prod.snd B;dsimp only at j l;have d:at' a (k:Int)∈(at' R (i:Int)).2:=by rw[kE h];exact List.getElem_mem h
  obtain⟨y,M⟩:=f _ d;have G:((a.take k).foldl (KF (dO p g) p.2.1 c v) (at' c (v:Int))).length=p.2.1.length:=by rw[Rn,n]
  have N:a.length<=20:=o;have w:=(C c t v u _ (by rw[kE b];exact List.getElem_mem b)).2 _ d;unfold xR;dsimp only;rw[if_pos (by omega)];simp only[cF (show 0<=(k:Int)/\(k:Int)<((at' p.2.2 (i:Int)).2.2.2.length:Int) by omega)];rw[j,l,bH (show fD 1000 _ c (v:Int) (-1) _ 0=_ from w),bH (show xK 1000 _ _ (v:Int) _ _=_ from adm E F y u _),cF (by omega),cV (by omega),zAf,nZ h,List.foldl_append];rfl) (λH=>by
  unfold xR Cg;dsimp only;rw[if_neg (by show¬(a.length:Int)<_;rw[r];exact Int.lt_irrefl _),zB2]) 1000 (by show(at' R (i:Int)).2.length<1000;omega)
end
abbrev AZ:=gX
def zF (g:GR) (v i:Nat):Nat:=(jM (row g v) i).1.toNat
def Ht (g:GR) (v i:Nat):Nat:=(BI (row g (zF g v i)) (v:Int)).toNat
structure PB (g:GR) (v i u b:Nat):Prop where
 ul:u<g.2.length
 bl:b<(row g u).length
 ne:u≠v
 tu:zF g u b=v
 bu:Ht g u b=i
theorem tO {g:GR} (hV:VG g) {v i:Nat} (hv:v<g.2.length) (hi:i<(row g v).length):(jM (row g v) i).1=(zF g v i:Int):=by
 have:=((hV.node v hv).links i hi).1;unfold zF;omega
theorem abz {g:GR} (hV:VG g) {v i j:Nat} (hv:v<g.2.length) (hi:i<(row g v).length) (hj:j<(row g v).length) (h:zF g v i=zF g v j):i=j:=by
 have a:=tO hV hv hi;have b:=tO hV hv hj;rcases Nat.lt_trichotomy i j with q|q|q
 ·exact absurd (by omega) (((hV.node v hv).links j hj).2.2.2 i q)
 ·exact q
 ·exact absurd (by omega) (((hV.node v hv).links i hi).2.2.2 j q)
theorem Bi {g:GR} (hV:VG g) {v i:Nat} (hv:v<g.2.length) (hi:i<(row g v).length):PB g v i (zF g v i) (Ht g v i):=by
 have e:=tO hV hv hi;have hl:=(hV.node v hv).links i hi;have hu:zF g v i<g.2.length:=by have:=hl.1;omega
 obtain⟨j,hj,hjv,_⟩:=hV.sym v hv i hi;have hr:at' g.2 (jM (row g v) i).1=row g (zF g v i):=by rw[e]
 rw[hr]at hj hjv;rcases wG (row g (zF g v i)) (v:Int)with⟨k,hk,hkv,hkf,hke⟩|⟨hf,_⟩
 rotate_left
 ·exact absurd hjv (hf j hj)
 have hb:Ht g v i=k:=by unfold Ht;rw[hke];omega
 have ht:zF g (zF g v i) k=v:=by unfold zF at hkv ⊢;rw[hkv];omega
 have hne:zF g v i≠v:=λq=>hl.2.1 (by rw[e,q]);refine⟨hu,by omega,hne,by rw[hb];exact ht,?_⟩
 rw[hb];have q:Ht g (zF g v i) k=(BI (row g v) (zF g v i:Int)).toNat:=by unfold Ht;rw[ht]
 rw[q,Ks i hi e λz hz hq=> ?_]
 ·omega
 ·have:=abz hV hv (show z<(row g v).length by omega) hi (by have:=tO hV hv (show z<(row g v).length by omega);omega);omega
abbrev nS {a:Type} [Inhabited a] (l:List (List a)) (v i:Nat):a:=at' (at' l (v:Int)) (i:Int)
def Ii {a:Type} [Inhabited a] (l:List (List a)) (v i:Nat) (x:a):List (List a):=l.set v ((at' l (v:Int)).set i x)
section
variable {α:Type} [Inhabited α]
theorem YW (l:List (List α)) (v i:Nat) (x:α):(Ii l v i x).length=l.length:=by simp[Ii]
theorem YX (l:List (List α)) {v i:Nat} (x:α) (a:v<l.length) (w:Nat):(at' (Ii l v i x) (w:Int)).length=(at' l (w:Int)).length:=by
 unfold Ii;rw[Dq _ _ _ _ a];split
 ·rename_i e;subst e;simp
 ·rfl
theorem abC (l:List (List α)) {v i:Nat} (x:α) (b:v<l.length) (a:i<(at' l (v:Int)).length) (w j:Nat):nS (Ii l v i x) w j=if w=v/\j=i then x else nS l w j:=by
 unfold nS Ii;rw[Dq _ _ _ _ b];by_cases e:w=v
 ·subst e;rw[if_pos Z,Dq _ _ _ _ a];by_cases q:j=i
  ·rw[if_pos q,if_pos ⟨rfl,q⟩]
  ·rw[if_neg q,if_neg (λh=>q h.2)]
 ·rw[if_neg e,if_neg (λh=>e h.1)]
end
structure Sh2 {α:Type} [Inhabited α] (g:GR) (l:List (List α)):Prop where
 len:l.length=g.2.length
 row:∀v,v<g.2.length->(at' l (v:Int)).length=(row g v).length
theorem Sh2.set {a:Type} [Inhabited a] {g:GR} {l:List (List a)} (h:Sh2 g l) {v i:Nat} (b:v<g.2.length) (x:a):Sh2 g (Ii l v i x):=
 ⟨by rw[YW];exact h.len,λw c=>by rw[YX _ _ (by rw[h.len];exact b)];exact h.row w c⟩
theorem Sh2.at {a:Type} [Inhabited a] {g:GR} {l:List (List a)} (h:Sh2 g l) {v i:Nat} (b:v<g.2.length) (c:i<(Go.Proofs.YtflciafboapaaaaGreat.row g v).length) (x:a) (w j:Nat):nS (Ii l v i x) w j=if w=v/\j=i then x else nS l w j:=
 abC l x (by rw[h.len];exact b) (by rw[h.row v b];exact c) w j
structure SH (g:GR) (y:AZ):Prop where
 c:y.1.length=g.2.length
 a:Sh2 g y.2.1
 w:Sh2 g y.2.2
def vwN (g:GR) (y:AZ) (v:Nat):Nat->List (List Int)
 |0=>y.1
 |i+1=>(vwN g y v i).set (zF g v i) (nS y.2.1 v i)
def vw (g:GR) (y:AZ) (v:Nat):List (List Int):=vwN g y v (row g v).length
theorem Hp (g:GR) (y:AZ) (v:Nat):∀i,(vwN g y v i).length=y.1.length
 |0=>rfl
 |i+1=>by simp[vwN,Hp g y v i]
theorem PX {g:GR} (hV:VG g) {y:AZ} (h:SH g y) {v:Nat} (hv:v<g.2.length):∀i,i<=(row g v).length->at' (vwN g y v i) (v:Int)=at' y.1 (v:Int)
 |0,_=>rfl
 |i+1,hi=>by
  have hu:=Bi hV hv (show i<(row g v).length by omega);show at' ((vwN g y v i).set (zF g v i) _) (v:Int)=_;rw[Dq _ _ _ _ (by rw[Hp,h.c];exact hu.ul),if_neg (λe=>hu.ne e.symm)];exact PX hV h hv i (by omega)
theorem U_ {g:GR} (hV:VG g) {y:AZ} (h:SH g y) {v:Nat} (hv:v<g.2.length) (P:Nat->List Int->Prop) (hc:∀x,x<g.2.length->P x (at' y.1 (x:Int))) (hb:∀i,i<(row g v).length->P (zF g v i) (nS y.2.1 v i)):∀i,i<=(row g v).length->∀x,x<g.2.length->P x (at' (vwN g y v i) (x:Int))
 |0,_,x,hx=>hc x hx
 |i+1,hi,x,hx=>by
  have hu:=Bi hV hv (show i<(row g v).length by omega);show P x (at' ((vwN g y v i).set (zF g v i) _) (x:Int));rw[Dq _ _ _ _ (by rw[Hp,h.c];exact hu.ul)];by_cases e:x=zF g v i
  ·rw[if_pos e,e];exact hb i (by omega)
  ·rw[if_neg e];exact U_ hV h hv P hc hb i (by omega) x hx
def zT (g:GR) (a:Bool) (y:AZ) (v i:Nat):AZ:=
 match nS y.2.2 (zF g v i) (Ht g v i)with
 | []=>y
 |s::r=>(y.1,if a=true then Ii y.2.1 v i s else y.2.1,Ii y.2.2 (zF g v i) (Ht g v i) r)
def Eg (a:Nat) (y:AZ) (v i:Nat):AZ:=if(nS y.2.2 v i).length<a then(y.1,y.2.1,Ii y.2.2 v i (nS y.2.2 v i++[at' y.1 (v:Int)]))else y
def Oz (g:GR) (a:List (List Int)->Nat->List Int) (y:AZ) (v:Nat):AZ:=(y.1.set v (a (vw g y v) v),y.2.1,y.2.2)
def EQ (g:GR) (b:List (List Int)->Nat->List Int) (a:Nat) (y:AZ) (e:Nat×Nat×Nat):AZ:=
 if e.1=1 then Oz g b y e.2.1 else if e.1=2 then Eg a y e.2.1 e.2.2 else zT g (decide (e.1=3)) y e.2.1 e.2.2
def acv (g:GR) (e:Nat×Nat×Nat):Prop:=(1<=e.1/\e.1<=4)/\e.2.1<g.2.length/\(e.1=1\/e.2.2<(row g e.2.1).length)
structure MN (g:GR) (P:Nat->List Int->Prop) (y:AZ):Prop where
 c:∀v,v<g.2.length->P v (at' y.1 (v:Int))
 a:∀v i,v<g.2.length->i<(row g v).length->P (zF g v i) (nS y.2.1 v i)
 w:∀v i,v<g.2.length->i<(row g v).length->∀s,s∈nS y.2.2 v i->P v s
def Cap (g:GR) (a:Nat) (y:AZ):Prop:=∀v i,v<g.2.length->i<(row g v).length->(nS y.2.2 v i).length<=a
section
variable {g:GR} {nx:List (List Int)->Nat->List Int} {cap:Nat} {P P':Nat->List Int->Prop} {y:AZ} {v i:Nat}
theorem abb (hV:VG g) (h:SH g y) (hv:v<g.2.length) (hi:i<(row g v).length) {k:Bool}:SH g (zT g k y v i):=by
 have hp:=Bi hV hv hi;unfold zT;split
 ·exact h
 ·refine⟨h.c,?_,h.w.set hp.ul _⟩
  dsimp only;split
  ·exact h.a.set hv _
  ·exact h.a
theorem Ye (hV:VG g) (h:SH g y) (hv:v<g.2.length) (hi:i<(row g v).length) {k:Bool} (w j:Nat):nS (zT g k y v i).2.2 w j=if w=zF g v i/\j=Ht g v i then(nS y.2.2 w j).tail else nS y.2.2 w j:=by
 have hp:=Bi hV hv hi;unfold zT;split
 ·rename_i e;by_cases q:w=zF g v i/\j=Ht g v i
  ·rw[if_pos q,q.1,q.2,e];rfl
  ·rw[if_neg q]
 ·rename_i s r e;dsimp only;rw[h.w.at hp.ul hp.bl];by_cases q:w=zF g v i/\j=Ht g v i
  ·rw[if_pos q,if_pos q,q.1,q.2,e];rfl
  ·rw[if_neg q,if_neg q]
theorem adJ {k:Bool}:(zT g k y v i).1=y.1:=by unfold zT;split<;>rfl
theorem adI (d:VG g) (h:SH g y) (c:v<g.2.length) (b:i<(row g v).length) {k:Bool} (w j:Nat):nS (zT g k y v i).2.1 w j=if w=v/\j=i then(if k=true then(nS y.2.2 (zF g v i) (Ht g v i)).headD (nS y.2.1 v i)else nS y.2.1 v i)else nS y.2.1 w j:=by
 unfold zT;split
 ·rename_i e;by_cases q:w=v/\j=i
  ·rw[if_pos q,q.1,q.2,e];split<;>rfl
  ·rw[if_neg q]
 ·rename_i s r e;dsimp only;cases k with
  |false=>
   rw[if_neg (by decide)];by_cases q:w=v/\j=i
   ·rw[if_pos q,q.1,q.2,if_neg (by decide)]
   ·rw[if_neg q]
  |true=>
   rw[if_pos Z,h.a.at c b];by_cases q:w=v/\j=i
   ·rw[if_pos q,if_pos q,if_pos Z,e];rfl
   ·rw[if_neg q,if_neg q]
theorem Yc (hV:VG g) (h:SH g y) (hv:v<g.2.length) (hi:i<(row g v).length) (hA:MN g P y) {k:Bool}:MN g P (zT g k y v i):=by
 have hp:=Bi hV hv hi;refine⟨λx hx=>by rw[adJ];exact hA.c x hx,λw j hw hj=> ?_,λw j hw hj s hs=> ?_⟩
 ·rw[adI hV h hv hi];by_cases q:w=v/\j=i
  ·rw[if_pos q,q.1,q.2];split
   ·cases e:nS y.2.2 (zF g v i) (Ht g v i)with
    |nil=>exact hA.a v i hv hi
    |cons s r=>exact hA.w _ _ hp.ul hp.bl s (by rw[e];exact zAe)
   ·exact hA.a v i hv hi
  ·rw[if_neg q];exact hA.a w j hw hj
 ·rw[Ye hV h hv hi]at hs;split at hs
  ·exact hA.w w j hw hj s (List.mem_of_mem_tail hs)
  ·exact hA.w w j hw hj s hs
theorem Yd (b:VG g) (h:SH g y) (e:v<g.2.length) (c:i<(row g v).length) (a:Cap g cap y) {k:Bool}:Cap g cap (zT g k y v i):=λw j f d=>by
 have:=a w j f d;rw[Ye b h e c];split
 ·rw[List.length_tail];omega
 ·exact this
theorem abI (h:SH g y) (b:v<g.2.length):SH g (Eg cap y v i):=by
 unfold Eg;split
 ·exact⟨h.c,h.a,h.w.set b _⟩
 ·exact h
theorem Zf (h:SH g y) (b:v<g.2.length) (a:i<(row g v).length) (w j:Nat):nS (Eg cap y v i).2.2 w j=if w=v/\j=i/\(nS y.2.2 v i).length<cap then nS y.2.2 v i++[at' y.1 (v:Int)]else nS y.2.2 w j:=by
 unfold Eg;by_cases q:(nS y.2.2 v i).length<cap
 ·rw[if_pos q];dsimp only;rw[h.w.at b a];by_cases z:w=v/\j=i
  ·rw[if_pos z,if_pos ⟨z.1,z.2,q⟩]
  ·rw[if_neg z,if_neg (λe=>z ⟨e.1,e.2.1⟩)]
 ·rw[if_neg q,if_neg (λe=>q e.2.2)]
theorem UN:(Eg cap y v i).1=y.1/\(Eg cap y v i).2.1=y.2.1:=by unfold Eg;split<;>exact⟨rfl,rfl⟩
theorem Zd (h:SH g y) (f:v<g.2.length) (l:i<(row g v).length) (d:MN g P y):MN g P (Eg cap y v i):=by
 refine⟨λx m=>by rw[UN.1];exact d.c x m,λw j k e=>by rw[UN.2];exact d.a w j k e,λw j k e s b=> ?_⟩
 rw[Zf h f l]at b;split at b
 ·rename_i q;rcases List.mem_append.1 b with b|b
  ·rw[q.1];exact d.w v i f l s b
  ·rw[List.mem_singleton.1 b,q.1];exact d.c v f
 ·exact d.w w j k e s b
theorem Ze (h:SH g y) (d:v<g.2.length) (b:i<(row g v).length) (a:Cap g cap y):Cap g cap (Eg cap y v i):=λw j e c=>by
 have:=a w j e c;rw[Zf h d b];split
 ·rename_i q;rw[zA5,List.length_singleton];omega
 ·exact this
theorem acI (h:SH g y):SH g (Oz g nx y v):=⟨by simpa [Oz]using h.c,h.a,h.w⟩
theorem aeH (h:SH g y) (a:v<g.2.length) (x:Nat):at' (Oz g nx y v).1 (x:Int)=if x=v then nx (vw g y v) v else at' y.1 (x:Int):=Dq _ _ _ _ (by rw[h.c];exact a)
theorem J_ (e:VG g) (h:SH g y) (d:v<g.2.length) (b:MN g P y):(vw g y v).length=g.2.length/\∀x,x<g.2.length->P x (at' (vw g y v) (x:Int)):=
 ⟨by unfold vw;rw[Hp,h.c],U_ e h d P b.c (λi f=>b.a v i d f) _ (zAh _)⟩
theorem ZR (f:VG g) (h:SH g y) (d:v<g.2.length) (b:MN g P y) (j:∀c:List (List Int),c.length=g.2.length->(∀x,x<g.2.length->P x (at' c (x:Int)))->∀v,v<g.2.length->P v (nx c v)):MN g P (Oz g nx y v):=by
 refine⟨λx k=> ?_,b.a,b.w⟩
 rw[aeH h d];split
 ·rename_i e;rw[e];have:=J_ f h d b;exact j _ this.1 this.2 v d
 ·exact b.c x k
theorem YB (d:VG g) (h:SH g y) (f:MN g P y) (j:Cap g cap y) {e:Nat×Nat×Nat} (l:acv g e) (m:∀c:List (List Int),c.length=g.2.length->(∀x,x<g.2.length->P x (at' c (x:Int)))->∀v,v<g.2.length->P v (nx c v)):SH g (EQ g nx cap y e)/\MN g P (EQ g nx cap y e)/\Cap g cap (EQ g nx cap y e):=by
 obtain⟨⟨o,p⟩,a,n⟩:=l;unfold EQ;by_cases q:e.1=1
 ·rw[if_pos q];exact⟨acI h,ZR d h a f m,j⟩
 ·have b:=n.resolve_left q;rw[if_neg q];by_cases k:e.1=2
  ·rw[if_pos k];exact⟨abI h a,Zd h a b f,Ze h a b j⟩
  ·rw[if_neg k];exact⟨abb d h a b,Yc d h a b f,Yd d h a b j⟩
end
end Go.Proofs.YtflciafboapaaaaGreat
namespace Go.Proofs.YtflciafboapaaaaGreat
open Go.Sx
def uV (U:Nat) (a:fE) (b:cJ) (c:bQ):Option Bool:=
 Option.bind (uT U ((a.1,a.2.1,a.2.2)) ((b.1,b.2)) c) λd=>(some (decide (d=(0:Int))))
theorem adc:bB Tryz.prog 47:=Tryz.call47
theorem Mn (U:Nat) {a:fE} {g:cJ} {j:bQ} (b d e f:V0) (k:kX) (i:V0) (m:nG) (r:Bool) (h:uV U a g j=some r):
  bE Tryz.prog 47 #[Value.agg #[vS (a.1),b,d],Value.agg #[e,f],i] [Sl aE b a.2.1,Sl aD d a.2.2,PF (Value.agg #[vS a.1,b,d]),Sl aM e g.1,S2 aY f k g.2,S2 aM i m j] (λx:Unit=>vB (r)) (λx l=>l) (λ_ l=>l):=by
 refine bE.of Tryz.func47 Z Tryz.ntmps47 Z λc=>?_;refine aU<|aJ (aQ.box (cs:=[vS (a.1),b,d]) Z Z) Z λp=>aJ (aQ.box (cs:=[e,f]) Z Z) Z λq=>aC Z<|aP<|aU<|cM 1 Z<|cM 0 Z<|aA Z<|eI h λn o h=>aJ (zBb adk (Mm U b d e f k i m n o) Z (iB [0,1,2,3,4,5] Z)) Z λs=>cH Z<|aC Z<|aP<|aS ?_;cases h;exact mO Z
def pE (U:Nat) (a:Int) (c:bT) (b:iI):Option Bool:=
 ck (0<=a/\a<(b.length:Int)) (Option.bind (uU U (at' b a) c) λd=>(some (d)))
theorem Xk:bB Tryz.prog 49:=Tryz.call49
theorem Ga (U:Nat) {d:Int} {f:bT} {g:iI} (e:V0) (a:Nat) (i:V0) (j:kX) (r:Bool) (h:pE U d f g=some r):
  bE Tryz.prog 49 #[vI (d),e,vP a] [Sl aM e f,bM a [i] 86,S2 aY i j g] (λx:Unit=>vB (r)) (λx l=>l) (λ_ l=>l):=by
 refine bE.of Tryz.func49 Z Tryz.ntmps49 Z λc=>?_;refine aU<|aC Z<|aP<|aU<|aB (fU Z (mR Z) Z Z Z) Z<|aA Z<|cQ h λb h=>aB (bK Z Z (zI Z) Z Z b) Z<|aB (bS Z (zI Z) Z Z b) Z<|aA Z<|eI h λk m h=>aJ (zBb Xl (GL U ((at' j d).1) e k m) Z (aH.cons (zBc (zI Z) b.1 b.2) (iB [0] Z))) Z λn=>aC Z<|aP<|aS ?_;cases h;exact iR Z
end Go.Proofs.YtflciafboapaaaaGreat