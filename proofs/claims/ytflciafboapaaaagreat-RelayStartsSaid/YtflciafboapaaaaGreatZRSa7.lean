/- Models and proofs. Conditions: none. -/
import Derived.Test.YtflciafboapaaaaGreatZRSa6
import Derived.Test.YtflciafboapaaaaGreatZRSa5
import Derived.Test.YtflciafboapaaaaGreatZRSa2
set_option linter.unusedVariables false
set_option linter.unusedSimpArgs false
set_option maxHeartbeats 4000000
set_option maxRecDepth 20000
@[reducible] def tg {a:Type} (_:Nat) (x:a):a:=x
namespace Go.Proofs.YtflciafboapaaaaGreat
open Go.Sx
def fW (U:Nat) (a:HJ) (b:bM):Option (Int):=
 Option.bind (Ab U (a.2.2.length:Int) (λd=>kJ U d ((((a.1.1,a.1.2.1,a.1.2.2)),((((a.2.1.1.1,a.2.1.1.2.1,a.2.1.1.2.2)),((a.2.1.2.1.1,a.2.1.2.1.2)),a.2.1.2.2.1,a.2.1.2.2.2)),a.2.2)) b)) λc=>(some (c))
theorem UB:bB Tryz.prog 79:=Tryz.call79
theorem wA (U:Nat) {a:HJ} {w:bM} (b:Nat)  (k:Value)  (m:Value)  (e:Nat)  (n:Value)  (o:Value)  (p:Value)  (q:Value)  (y:iZ)  (s:Value)  (g:jY)  (f:Value)  (i:iZ)  (d:Value)  (j:jY) (r:Int) (h:fW U a w=some r):
  bO Tryz.prog 79 #[vP b,d] [bI b [vS (a.1.1),k,m,vP e,f] 157,Sl aG k a.1.2.1,Sl aC m a.1.2.2,bI e [vS (a.2.1.1.1),n,o,p,q,vI (a.2.1.2.2.1),s] 206,Sl aG n a.2.1.1.2.1,Sl aC o a.2.1.1.2.2,Sl aJ p a.2.1.2.1.1,S2 aW q y a.2.1.2.1.2,S2 aJ s g a.2.1.2.2.2,S2 aW f i a.2.2,S2 aJ d j w] (λx:Unit=>vU (r)) (λx l=>l) (λ_ l=>l):=by
 refine bO.of Tryz.func79 Z Tryz.ntmps79 Z λc=>?_;refine aX<|aI (aN.box (cs:=[vP b]) Z Z) Z λt=>aQ (Know.one (aA.sl (aA.fact 10 Z))) λv=>?_;refine aI (aN.box (cs:=[d]) Z (by rw[dG v])) Z λu=>?_;refine aH Z<|aP<|aX<|eW 1 Z<|aD (bE Z) Z<|cA Z<|aD (eK Z (aA.fact 0 Z) Z Z Z) Z<|aD (eP Z (aA.fact 9 Z) Z) Z<|aD (As (cs:=[.tmp 2,.tmp 3]) (vs:=[vP t,vP u]) Z) Z<|fZ h λz A h=>aI (zBc XK (MJ U 122 [vP t,vP u] [bI t [vP b] 106,bI b [vS (a.1.1),k,m,vP e,f] 157,Sl aG k a.1.2.1,Sl aC m a.1.2.2,bI e [vS (a.2.1.1.1),n,o,p,q,vI (a.2.1.2.2.1),s] 206,Sl aG n a.2.1.1.2.1,Sl aC o a.2.1.1.2.2,Sl aJ p a.2.1.2.1.1,S2 aW q y a.2.1.2.1.2,S2 aJ s g a.2.1.2.2.2,S2 aW f i a.2.2,bI u [d] 39,S2 aJ d j w] XL (λC r h=>Bc U t b k m e n o p q y s g f i u d j r h) z A) Z (aE.cons (aA.res 1 Z) (aE.cons (aA.fact 0 Z) (aE.cons (aA.fact 1 Z) (aE.cons (aA.fact 2 Z) (aE.cons (aA.fact 3 Z) (aE.cons (aA.fact 4 Z) (aE.cons (aA.fact 5 Z) (aE.cons (aA.fact 6 Z) (aE.cons (aA.fact 7 Z) (aE.cons (aA.fact 8 Z) (aE.cons (aA.fact 9 Z) (aE.cons (aA.res 0 Z) (g_ [10] Z)))))))))))))) Z λB=>aH Z<|aP<|aY ?_;cases h;exact zJ Z
end Go.Proofs.YtflciafboapaaaaGreat
namespace Go.Proofs.YtflciafboapaaaaGreat
open Go Go.Sx
abbrev RL:=E×List (Nat×E)
abbrev Dh:=BQ×GR×Int×bM
def A_ (R:List RL):Ln:=R.map λr=>(r.1.ts,r.2.map λs=>((s.1:Int),s.2.ts))
def DD (a:Nat) (e:E):Bool:=e.wf a false&&decide (e.depth<=100)&&decide (e.ts.length<=800)
def kG (nv:Nat) (R:List RL):Bool:=decide (R.length<=20)&&R.all λr=>DD nv r.1&&decide (r.2.length<=20)&&r.2.all λs=>decide (s.1<nv)&&DD nv s.2
instance:Inhabited E:=⟨.lf 1 0⟩
def QO (g:GR) (v i:Nat):Int:=yD (row g (iP (row g v) i).1.toNat) (v:Int)
def eV (g:GR):bM:=(List.range g.2.length).map λv=>(List.range (row g v).length).map (QO g v)
def DC (S:Dh) (c:bM) (v:Nat) (e:E):Int:=e.den (VC (S,c,(v:Int),[])) (row S.2.1 v).length (-1)
def qD (S:Dh) (R:List RL) (c:bM) (v:Nat):Int:=BC (R.map λr=>DC S c v r.1)
def Hf (a:Int) (b:fY) (x:Int):Int:=if b.1<=x∧x<=b.2 then x else if a=3 then -1 else if x<b.1 then b.1 else b.2
def Ij (S:Dh) (a:List zY) (c:bM) (v:Nat) (b:bT) (s:Nat×E):bT:=b.set s.1 (Hf (at' a (s.1:Int)).2.1 (yV S.2.1 a v s.1) (DC S c v s.2))
def H_ (S:Dh) (a:List zY) (R:List RL) (c:bM) (v:Nat) (i:Int):bT:=(at' R i).2.foldl (Ij S a c v) (at' c (v:Int))
def NE (S:Dh) (R:List RL) (c:bM):Nat:=nN (λv=>decide (0<=qD S R c v)) S.2.1.2.length
def DY (S:Dh) (a:List zY) (R:List RL) (c:bM) (t:Nat):bM:=(List.range c.length).map λv=>if t.testBit v=true then H_ S a R c v (qD S R c v)else at' c (v:Int)
structure HP (g:GR) (nv:Nat) (c:bM):Prop where
 len:c.length=g.2.length
 row:∀v:Nat,v<g.2.length->(at' c (v:Int)).length=nv
theorem Xc.shape {g:GR} {c:bM} {a:List zY} (h:Xc g c a):HP g a.length c:=⟨h.len,h.row⟩
section
variable {S:Dh} {nv:Nat} {c:List (List Int)} {v:Nat}
theorem wok (b:S.2.2.2=eV S.2.1) (d:VG S.2.1) (e:HP S.2.1 nv c) (h:v<S.2.1.2.length) (j:List (Int×Int)):WOk (S,c,(v:Int),j) nv S.2.1.2.length v:=by
 refine⟨rfl,h,rfl,d.len,e.len,e.row,λu a i g=> ?_,by show S.2.2.2.length=_;rw[b];simp[eV],λu a=>by
  show(at' S.2.2.2 (u:Int)).length=_;rw[b,eV,rB _ a,List.length_map,List.length_range]⟩
 obtain⟨w,k,f⟩:=d.to a g;show 0<=(iP (row S.2.1 u) i).1∧(iP (row S.2.1 u) i).1<_;rw[f];omega
theorem OB (i:S.2.2.2=eV S.2.1) (a:VG S.2.1) (j:HP S.2.1 nv c) (f:v<S.2.1.2.length) {e:E} (b:DD nv e=true):gQ 1000 S c (v:Int) e.ts=some (DC S c v e):=by
 simp only[DD,zA3,zA7]at b;have g:=a.n24;have d:=(a.node v f).deg;unfold gQ;have:=WY (wok i a j f e.ts) (deg:=(row S.2.1 v).length) Z (by omega) b.2 e false 1000 0 (-1) [] [] (by simp) Z b.1.1 (λh=>by cases h) (by omega);rw[bN (show cC 1000 _ (0:Int) (-1)=_ from this)];rfl
end
section
variable {p:BQ} {g:GR} {gr:Int} {R:List RL} {nv:Nat} {c:List (List Int)} {v:Nat}
theorem Gi (a:p.2.2.map rR=A_ R):p.2.2.length=R.length:=by simpa [A_]using congrArg List.length a
theorem RD (b:p.2.2.map rR=A_ R) {i:Nat} (a:i<R.length):rR (at' p.2.2 (i:Int))=((at' R (i:Int)).1.ts,(at' R (i:Int)).2.map λs=>((s.1:Int),s.2.ts)):=by
 have d:=Gi b;have:=congrArg (λq=>q[i]?) b;simp only[A_,List.getElem?_map,zA2 a,zA2 (show i<p.2.2.length by omega),Option.map_some,Option.some.injEq]at this;rw[iX a,iX (show i<p.2.2.length by omega)];exact this
theorem II (a:kG nv R=true) {i:Nat} (b:i<R.length):DD nv (at' R (i:Int)).1=true∧(at' R (i:Int)).2.length<=20∧∀s∈(at' R (i:Int)).2,s.1<nv∧DD nv s.2=true:=by
 simp only[kG,zA3,zA5,zA7]at a;have:=a.2 (at' R (i:Int)) (by rw[iX b];exact List.getElem_mem b);exact⟨this.1.1,this.1.2,λs d=>this.2 s d⟩
theorem YT (a:kG nv R=true):R.length<=20:=by
 simp only[kG,zA3,zA7]at a;exact a.1
theorem Vn (f:VG g) (h:HP g nv c) (j:v<g.2.length) (b:p.2.2.map rR=A_ R) (d:kG nv R=true) {i:Nat} (a:i<R.length):kP 1000 (p,g,gr,eV g) c (v:Int) (i:Int)=some (nz (DC (p,g,gr,eV g) c v (at' R (i:Int)).1)):=by
 have k:=Gi b;have e:(at' p.2.2 (i:Int)).2.1.2=(at' R (i:Int)).1.ts:=congrArg Prod.fst (RD b a);unfold kP;dsimp only;rw[dD (by omega),e];rw[bN (show gQ 1000 _ c (v:Int) _=_ from OB (S:=(p,g,gr,eV g)) Z f h j (II d a).1)];rfl
theorem Gp (z:VG g) (A:HP g nv c) (C:v<g.2.length) (w:p.2.2.map rR=A_ R) (s:kG nv R=true) (h:List (List (Int×Int))):cO 1000 (p,(p,g,gr,eV g),h) c (v:Int)=some (qD (p,g,gr,eV g) R c v):=by
 have E:=Gi w;have y:=YT s;let l:=R.map λr=>DC (p,g,gr,eV g) c v r.1;have B:l.length=R.length:=by simp[l]
 have o:∀i,i<R.length->at' l (i:Int)=DC (p,g,gr,eV g) c v (at' R (i:Int)).1:=λi t=>by
  rw[iX (by omega),iX t];simp[l]
 have b:∀(k:Nat) a,k<R.length->kN 1000 (p,(p,g,gr,eV g),h) c (v:Int) (k:Int) a=if nz (at' l (k:Int))=true then some (k:Int)else a (((k+1:Nat):Int)):=by
  intro k a d;unfold kN;dsimp only;rw[if_pos (by omega),bN (show kP 1000 _ c (v:Int) (k:Int)=_ from Vn z A C w s d),o k d,eI (by omega)]
 unfold cO qD;by_cases f:∃i,i<R.length∧at' l (i:Int)≠0
 ·obtain⟨i,t,x⟩:=f;obtain⟨m,D,q,n⟩:=NL (p:=λi=>at' l (i:Int)≠0) i x;have n:∀j,j<m->at' l (j:Int)=0:=λj u=>zB8.1 (n j u);rw[show BC _=(m:Int)from DG (l:=l) (by omega) q n];exact dY (K:=some (m:Int)) m (λk=>(k:Int)) (λk a d=>by rw[b k a (by omega),if_neg (by simp[nz,n k d])]) (λa=>by rw[b m a (by omega),if_pos (by simpa [nz]using q)]) 1000 (by omega)
 ·have f:∀j,j<l.length->at' l (j:Int)=0:=λj u=>zB8.1 λe=>f ⟨j,by omega,e⟩;rw[show BC _=(-1:Int)from DF (l:=l) f];exact dY (K:=some (-1)) R.length (λk=>(k:Int)) (λk a d=>by rw[b k a d,if_neg (by simp[nz,f k (by omega)])]) (λa=>by
   unfold kN nI;dsimp only;rw[if_neg (by omega)]) 1000 (by omega)
theorem Gn (S:Dh) (R:List RL) (c:List (List Int)) (v:Nat):qD S R c v = -1∨∃i:Nat,qD S R c v=(i:Int)∧i<R.length∧DC S c v (at' R (i:Int)).1≠0:=by
 let l:=R.map λr=>DC S c v r.1;by_cases h:∃i,i<l.length∧at' l (i:Int)≠0
 ·obtain⟨i,n,k⟩:=h;obtain⟨m,o,f,a⟩:=NL (p:=λi=>at' l (i:Int)≠0) i k;have a:∀j,j<m->at' l (j:Int)=0:=λj b=>zB8.1 (a j b);have d:m<R.length:=by simp[l]at n;omega
  refine .inr ⟨m,DG (l:=l) (by omega) f a,d,?_⟩;have:at' l (m:Int)=DC S c v (at' R (m:Int)).1:=by rw[iX (by simpa [l]using d),iX d];simp[l]
  rw[<-this];exact f
 ·exact .inl (DF (l:=l) λj b=>zB8.1 λe=>h ⟨j,b,e⟩)
theorem Jo (hV:VG g) (hc:HP g nv c) (hz:p.2.2.map rR=A_ R) (hR:kG nv R=true) {tab:List (List (Int×Int))} (ht:tab.length=g.2.length):fW 1000 (p,(p,g,gr,eV g),tab) c=some ((NE (p,g,gr,eV g) R c:Nat):Int):=by
 have h24:=hV.n24;unfold fW Ab;let q:Nat->Bool:=λv=>decide (0<=qD (p,g,gr,eV g) R c v);have:=dY (step:=rM (tab.length:Int) (λy0=>kJ 1000 y0 (p,(p,g,gr,eV g),tab) c)) (K:=some ((nN q g.2.length:Nat):Int)) g.2.length (λk=>(((nN q k:Nat):Int),(k:Int))) (λk ag hk=>by
  have hm:=IC q (k:=k) (by omega);unfold rM uO kJ;dsimp only;rw[if_pos (by omega),bN (show Option.bind (cO 1000 _ c (k:Int)) _=some (q k) by rw[bN (show cO 1000 _ c (k:Int)=_ from Gp hV hc hk hz hR tab)]),eI (by omega)];cases hq:q k with
  |true=>
   rw[if_pos Z,dD (by omega),Pq hm (by omega)];simp only[nN,hq,if_true]
  |false=>
   rw[if_neg (by decide)];simp only[nN,hq];rfl) (λag=>by
  unfold rM yR;dsimp only;rw[if_neg (by omega)]) 1000 (by omega)
 rw[bN (show bP _ 1000 ((0:Int),(0:Int))=_ from this)];rfl
end
theorem UE (f:Nat) (k:Int) (b:fY) (x:Int):wV f k b x=some (Hf k b x):=by
 unfold wV uS Hf;by_cases a:b.1<=x
 ·by_cases c:x<=b.2
  ·simp only[a,c,and_self,if_true,decide_true]
  ·simp only[a,c,and_false,if_true,if_false,decide_false,Bool.false_eq_true];split
   ·rfl
   ·split<;>rfl
 ·simp only[a,false_and,if_false,Bool.false_eq_true];split
  ·rfl
  ·split<;>rfl
theorem Wu {S:Dh} {a:List zY} {c:bM} {v:Nat} (l:List (Nat×E)) (b:bT):(l.foldl (Ij S a c v) b).length=b.length:=by
 induction l generalizing b with
 |nil=>rfl
 |cons s l d=>rw[List.foldl_cons,d];simp[Ij]
section
variable {p:BQ} {g:GR} {gr:Int} {R:List RL} {c:List (List Int)} {v:Nat}
theorem Rx (A:VG g) (J:jV g p.2.1) (o:HP g p.2.1.length c) (x:v<g.2.length) (E:p.2.2.map rR=A_ R) (H:kG p.2.1.length R=true) {i:Nat} (B:i<R.length):
  iC 1000 (p,(p,g,gr,eV g),qU g p.2.1) c (v:Int) (i:Int)=some (H_ (p,g,gr,eV g) p.2.1 R c v (i:Int)):=by
 have G:=A.n24;have I:=o.len;have l:=o.row v x;have N:=J.len;have O:=Gi E;have r:=RD E B;obtain⟨-,m,d⟩:=II H B;have D:(qU g p.2.1).length=g.2.length:=by simp[qU]
 have w:at' (qU g p.2.1) (v:Int)=Bb g p.2.1 v:=rB _ x;have L:(Bb g p.2.1 v).length=p.2.1.length:=by simp[Bb]
 have y:(at' p.2.2 (i:Int)).2.2.2.map (λs=>(s.1,s.2.2))=(at' R (i:Int)).2.map λs=>((s.1:Int),s.2.ts):=congrArg Prod.snd r;have n:(at' p.2.2 (i:Int)).2.2.2.length=(at' R (i:Int)).2.length:=by simpa using congrArg List.length y
 unfold iC;dsimp only;rw[dD (by omega),dD (by simp;omega),dD (by omega),List.nil_append];unfold H_;let a:=(at' R (i:Int)).2;have:=dY (step:=kM 1000 (p,(p,g,gr,eV g),qU g p.2.1) c (v:Int) (i:Int)) (K:=some (a.foldl (Ij (p,g,gr,eV g) p.2.1 c v) (at' c (v:Int)))) a.length (λk=>((k:Int),(a.take k).foldl (Ij (p,g,gr,eV g) p.2.1 c v) (at' c (v:Int)))) (λk F e=>by
  have j:k<(at' p.2.2 (i:Int)).2.2.2.length:=by rw[n];exact e
  have z:((at' (at' p.2.2 (i:Int)).2.2.2 (k:Int)).1,(at' (at' p.2.2 (i:Int)).2.2.2 (k:Int)).2.2)=(((at' a (k:Int)).1:Int),(at' a (k:Int)).2.ts):=by
   have:=congrArg (λq=>q[k]?) y;simp only[List.getElem?_map,zA2 j,zA2 (show k<(at' R (i:Int)).2.length from e),Option.map_some,Option.some.injEq]at this;rw[iX j,iX e];exact this
  have f:=congrArg Prod.fst z;have h:=congrArg Prod.snd z;dsimp only at f h;obtain⟨t,u⟩:=d (at' a (k:Int)) (by rw[iX e];exact List.getElem_mem e);have C:((a.take k).foldl (Ij (p,g,gr,eV g) p.2.1 c v) (at' c (v:Int))).length=p.2.1.length:=by rw[Wu,l]
  have b:at' (Bb g p.2.1 v) ((at' a (k:Int)).1:Int)=yV g p.2.1 v (at' a (k:Int)).1:=rB _ t;have M:a.length<=20:=m;unfold kM;dsimp only;rw[if_pos (by omega),dD (by omega),f,h,bN (show gQ 1000 _ c (v:Int) _=_ from OB (S:=(p,g,gr,eV g)) Z A o x u),dD (by omega),dD (by omega),w,dD (by omega),b,bN (UE 1000 _ _ _),dD (by omega),eI (by omega),zAf,tS e,List.foldl_append];rfl) (λF=>by
  unfold kM nH;dsimp only;rw[if_neg (by show¬(a.length:Int)<_;rw[n];exact Int.lt_irrefl _),List.take_length]) 1000 (by show(at' R (i:Int)).2.length<1000;omega)
 exact this
theorem Zc (m:VG g) (s:jV g p.2.1) (l:HP g p.2.1.length c) (u:p.2.2.map rR=A_ R) (o:kG p.2.1.length R=true) {t:Nat} (b:t<4294967296) (B:∀v,t.testBit v=true->0<=qD (p,g,gr,eV g) R c v):
  lK 1000 (p,(p,g,gr,eV g),qU g p.2.1) c (t:Int)=some (DY (p,g,gr,eV g) p.2.1 R c t):=by
 have x:=m.n24;have z:=l.len;have C:=s.len;unfold lK;rw[bN (FW c (by omega) (λv D=>by rw[l.row v (by omega)];omega))];let f:Nat->List Int:=λv=>if t.testBit v=true then H_ (p,g,gr,eV g) p.2.1 R c v (qD (p,g,gr,eV g) R c v)else at' c (v:Int);let Q:Nat->List (List Int):=λk=>(List.range k).map f++c.drop k;have y:∀k,k<=c.length->(Q k).length=c.length:=λk a=>by simp[Q];omega
 have j:∀k,k<c.length->(Q k).set k (f k)=Q (k+1):=λk a=>by
  show((List.range k).map f++c.drop k).set k (f k)=(List.range (k+1)).map f++c.drop (k+1);rw[List.set_append_right _ _ (by simp),List.length_map,List.length_range,Nat.sub_self,List.drop_eq_getElem_cons a,List.set_cons_zero,List.range_succ,List.map_append,List.map_singleton,zAy];rfl
 have d:∀k,k<c.length->f k=at' c (k:Int)->Q k=Q (k+1):=λk a A=>by
  show(List.range k).map f++c.drop k=(List.range (k+1)).map f++c.drop (k+1);rw[List.range_succ,List.drop_eq_getElem_cons a,List.map_append,List.map_singleton,A,iX a];simp
 rw[show c=Q 0 by simp[Q]];refine dY (step:=iS 1000 (p,(p,g,gr,eV g),qU g p.2.1) (Q 0) (t:Int)) (K:=some (DY (p,g,gr,eV g) p.2.1 R (Q 0) t)) c.length (λk=>((k:Int),Q k)) (λk w a=> ?_) (λw=> ?_) 1000 (by omega)
 ·rw[show Q 0=c by simp[Q]];unfold iS kO;dsimp only;rw[if_pos (by omega),dD (by omega),eI (by omega)];by_cases h:t.testBit k=true
  ·obtain⟨i,r,n,_⟩:=(Gn (p,g,gr,eV g) R c k).resolve_left (λe=>by have:=B k h;omega);rw[if_pos ((Vo (by omega) b).2 h),bN (show cO 1000 _ c (k:Int)=_ from Gp m l (by omega) u o _),r,bN (show iC 1000 _ c (k:Int) (i:Int)=_ from Rx m s l (by omega) u o n),dD (by rw[y k (by omega)];omega),zAf];have:H_ (p,g,gr,eV g) p.2.1 R c k (i:Int)=f k:=by simp only[f];rw[if_pos h,r]
   rw[this,j k a]
  ·rw[if_neg (λq=>h ((Vo (by omega) b).1 q)),d k a (by simp only[f];rw[if_neg h])]
 ·rw[show Q 0=c by simp[Q]];unfold iS nJ;dsimp only;rw[if_neg (by omega)];simp[Q,DY,f]
theorem Lh {S:Dh} {a:List zY} {t:Nat}:(DY S a R c t).length=c.length:=by simp[DY]
theorem Om {S:Dh} {a:List zY} {t:Nat} (b:v<c.length):at' (DY S a R c t) (v:Int)=if t.testBit v=true then H_ S a R c v (qD S R c v)else at' c (v:Int):=rB _ b
end
def cX (p:BQ) (g:GR):Dh:=(p,g,iJ g g.2.length,eV g)
theorem QZ (S:Dh) (R:List RL) (c:bM) (v:Nat):(NE S R c).testBit v=(decide (v<S.2.1.2.length)&&decide (0<=qD S R c v)):=KZ _ v _
theorem UV {S:Dh} (a:VG S.2.1) (R:List RL) (c:bM):NE S R c<4294967296:=IC _ (by have:=a.n24;omega)
theorem Ol {a:Type} [Inhabited a] (l:List a) {k:Nat} (h:k<l.length):l.set k (at' l (k:Int))=l:=by
 have:=CL l (k:Int) (by simpa using h) (by omega);simpa using this
theorem acm {g:GR} {a:List zY} (b:jV g a) {x:Nat} (c:x<a.length) (v:Nat):lo g (at' a (x:Int)) v<=hi g (at' a (x:Int)) v:=by
 rcases b.kind x c with k|k|k
 ·have h:=(b.range x c k).2.1;unfold lo hi at h ⊢;rw[k]at h ⊢;simpa using h
 ·unfold lo hi;rw[k];simp
 ·unfold lo hi;rw[k];simp;omega
theorem SG {g:GR} {a:List zY} (b:jV g a) {x:Nat} (c:x<a.length) (v:Nat) (y:Int):lo g (at' a (x:Int)) v<=Hf (at' a (x:Int)).2.1 (yV g a v x) y∧Hf (at' a (x:Int)).2.1 (yV g a v x) y<=hi g (at' a (x:Int)) v:=by
 have h:=acm b c v;unfold Hf yV;dsimp only;split
 ·assumption
 ·split
  ·rename_i k;unfold lo hi;rw[k];simp;omega
  ·split<;>omega
abbrev wK:=rD
def oY (g:GR) (v i:Nat):Nat:=(iP (row g v) i).1.toNat
def Dk (g:GR) (v i:Nat):Nat:=(yD (row g (oY g v i)) (v:Int)).toNat
structure PB (g:GR) (v i u b:Nat):Prop where
 ul:u<g.2.length
 bl:b<(row g u).length
 ne:u≠v
 tu:oY g u b=v
 bu:Dk g u b=i
theorem yG {g:GR} (hV:VG g) {v i:Nat} (hv:v<g.2.length) (hi:i<(row g v).length):(iP (row g v) i).1=(oY g v i:Int):=by
 have:=((hV.node v hv).links i hi).1;unfold oY;omega
theorem RI {g:GR} (hV:VG g) {v i j:Nat} (hv:v<g.2.length) (hi:i<(row g v).length) (hj:j<(row g v).length) (h:oY g v i=oY g v j):i=j:=by
 have a:=yG hV hv hi;have b:=yG hV hv hj;rcases Nat.lt_trichotomy i j with q|q|q
 ·exact absurd (by omega) (((hV.node v hv).links j hj).2.2.2 i q)
 ·exact q
 ·exact absurd (by omega) (((hV.node v hv).links i hi).2.2.2 j q)
theorem tU {g:GR} (hV:VG g) {v i:Nat} (hv:v<g.2.length) (hi:i<(row g v).length):PB g v i (oY g v i) (Dk g v i):=by
 have e:=yG hV hv hi;have hl:=(hV.node v hv).links i hi;have hu:oY g v i<g.2.length:=by have:=hl.1;omega
 obtain⟨j,hj,hjv,_⟩:=hV.sym v hv i hi;have hr:at' g.2 (iP (row g v) i).1=row g (oY g v i):=by rw[e]
 rw[hr]at hj hjv;rcases wZ (row g (oY g v i)) (v:Int)with⟨k,hk,hkv,hkf,hke⟩|⟨hf,_⟩
 rotate_left
 ·exact absurd hjv (hf j hj)
 have hb:Dk g v i=k:=by unfold Dk;rw[hke];omega
 have ht:oY g (oY g v i) k=v:=by unfold oY at hkv ⊢;rw[hkv];omega
 have hne:oY g v i≠v:=λq=>hl.2.1 (by rw[e,q]);refine⟨hu,by omega,hne,by rw[hb];exact ht,?_⟩
 rw[hb];have q:Dk g (oY g v i) k=(yD (row g v) (oY g v i:Int)).toNat:=by unfold Dk;rw[ht]
 rw[q,Ib i hi e λz hz hq=> ?_]
 ·omega
 ·have:=RI hV hv (show z<(row g v).length by omega) hi (by have:=yG hV hv (show z<(row g v).length by omega);omega);omega
abbrev mG {a:Type} [Inhabited a] (l:List (List a)) (v i:Nat):a:=at' (at' l (v:Int)) (i:Int)
def Gs {a:Type} [Inhabited a] (l:List (List a)) (v i:Nat) (x:a):List (List a):=l.set v ((at' l (v:Int)).set i x)
section
variable {α:Type} [Inhabited α]
theorem Ws (l:List (List α)) (v i:Nat) (x:α):(Gs l v i x).length=l.length:=by simp[Gs]
theorem Wt (l:List (List α)) {v i:Nat} (x:α) (a:v<l.length) (w:Nat):(at' (Gs l v i x) (w:Int)).length=(at' l (w:Int)).length:=by
 unfold Gs;rw[wM _ _ _ _ a];split
 ·rename_i e;subst e;simp
 ·rfl
theorem Y_ (l:List (List α)) {v i:Nat} (x:α) (b:v<l.length) (a:i<(at' l (v:Int)).length) (w j:Nat):mG (Gs l v i x) w j=if w=v∧j=i then x else mG l w j:=by
 unfold mG Gs;rw[wM _ _ _ _ b];by_cases e:w=v
 ·subst e;rw[if_pos Z,wM _ _ _ _ a];by_cases q:j=i
  ·rw[if_pos q,if_pos ⟨rfl,q⟩]
  ·rw[if_neg q,if_neg (λh=>q h.2)]
 ·rw[if_neg e,if_neg (λh=>e h.1)]
end
structure ZV {α:Type} [Inhabited α] (g:GR) (l:List (List α)):Prop where
 len:l.length=g.2.length
 row:∀v,v<g.2.length->(at' l (v:Int)).length=(row g v).length
theorem ZV.set {a:Type} [Inhabited a] {g:GR} {l:List (List a)} (h:ZV g l) {v i:Nat} (b:v<g.2.length) (x:a):ZV g (Gs l v i x):=
 ⟨by rw[Ws];exact h.len,λw c=>by rw[Wt _ _ (by rw[h.len];exact b)];exact h.row w c⟩
theorem ZV.at {a:Type} [Inhabited a] {g:GR} {l:List (List a)} (h:ZV g l) {v i:Nat} (b:v<g.2.length) (c:i<(Go.Proofs.YtflciafboapaaaaGreat.row g v).length) (x:a) (w j:Nat):mG (Gs l v i x) w j=if w=v∧j=i then x else mG l w j:=
 Y_ l x (by rw[h.len];exact b) (by rw[h.row v b];exact c) w j
structure SH (g:GR) (y:wK):Prop where
 c:y.1.length=g.2.length
 a:ZV g y.2.1
 w:ZV g y.2.2
def Tz (g:GR) (y:wK) (v:Nat):Nat->List (List Int)
 |0=>y.1
 |i+1=>(Tz g y v i).set (oY g v i) (mG y.2.1 v i)
def vw (g:GR) (y:wK) (v:Nat):List (List Int):=Tz g y v (row g v).length
theorem CV (g:GR) (y:wK) (v:Nat):∀i,(Tz g y v i).length=y.1.length
 |0=>rfl
 |i+1=>by simp[Tz,CV g y v i]
theorem MR {g:GR} (hV:VG g) {y:wK} (h:SH g y) {v:Nat} (hv:v<g.2.length):∀i,i<=(row g v).length->at' (Tz g y v i) (v:Int)=at' y.1 (v:Int)
 |0,_=>rfl
 |i+1,hi=>by
  have hu:=tU hV hv (show i<(row g v).length by omega);show at' ((Tz g y v i).set (oY g v i) _) (v:Int)=_;rw[wM _ _ _ _ (by rw[CV,h.c];exact hu.ul),if_neg (λe=>hu.ne e.symm)];exact MR hV h hv i (by omega)
theorem Sg {g:GR} (hV:VG g) {y:wK} (h:SH g y) {v:Nat} (hv:v<g.2.length) (P:Nat->List Int->Prop) (hc:∀x,x<g.2.length->P x (at' y.1 (x:Int))) (hb:∀i,i<(row g v).length->P (oY g v i) (mG y.2.1 v i)):∀i,i<=(row g v).length->∀x,x<g.2.length->P x (at' (Tz g y v i) (x:Int))
 |0,_,x,hx=>hc x hx
 |i+1,hi,x,hx=>by
  have hu:=tU hV hv (show i<(row g v).length by omega);show P x (at' ((Tz g y v i).set (oY g v i) _) (x:Int));rw[wM _ _ _ _ (by rw[CV,h.c];exact hu.ul)];by_cases e:x=oY g v i
  ·rw[if_pos e,e];exact hb i (by omega)
  ·rw[if_neg e];exact Sg hV h hv P hc hb i (by omega) x hx
theorem OD {g:GR} (hV:VG g) {y:wK} (h:SH g y) {v:Nat} (hv:v<g.2.length) (hb:∀i,i<(row g v).length->mG y.2.1 v i=at' y.1 (oY g v i:Int)):∀i,i<=(row g v).length->Tz g y v i=y.1
 |0,_=>rfl
 | i + 1, hi => by
  have hu:=tU hV hv (show i<(row g v).length by omega);show(Tz g y v i).set (oY g v i) (mG y.2.1 v i)=y.1;rw[OD hV h hv hb i (by omega),hb i (by omega)];refine List.ext_getElem (by rw[zA1]) λx h1 h2=> ?_;by_cases e:oY g v i=x
  ·subst e;rw[List.getElem_set_self];exact iX h2
  ·rw[List.getElem_set_ne e]
def vY (g:GR) (a:Bool) (y:wK) (v i:Nat):wK:=
 match mG y.2.2 (oY g v i) (Dk g v i)with
 | []=>y
 |s::r=>(y.1,if a=true then Gs y.2.1 v i s else y.2.1,Gs y.2.2 (oY g v i) (Dk g v i) r)
def Ce (a:Nat) (y:wK) (v i:Nat):wK:=if(mG y.2.2 v i).length<a then(y.1,y.2.1,Gs y.2.2 v i (mG y.2.2 v i++[at' y.1 (v:Int)]))else y
def Nt (g:GR) (a:List (List Int)->Nat->List Int) (y:wK) (v:Nat):wK:=(y.1.set v (a (vw g y v) v),y.2.1,y.2.2)
def lM (g:GR) (nx:List (List Int)->Nat->List Int) (cap:Nat) (y:wK) (e:Nat×Nat×Nat):wK:=
 if e.1=1 then Nt g nx y e.2.1 else if e.1=2 then Ce cap y e.2.1 e.2.2 else vY g (decide (e.1=3)) y e.2.1 e.2.2
def ZN (g:GR) (e:Nat×Nat×Nat):Prop:=(1<=e.1∧e.1<=4)∧e.2.1<g.2.length∧(e.1=1∨e.2.2<(row g e.2.1).length)
structure IM (g:GR) (P:Nat->List Int->Prop) (y:wK):Prop where
 c:∀v,v<g.2.length->P v (at' y.1 (v:Int))
 a:∀v i,v<g.2.length->i<(row g v).length->P (oY g v i) (mG y.2.1 v i)
 w:∀v i,v<g.2.length->i<(row g v).length->∀s,s∈mG y.2.2 v i->P v s
def ZM (g:GR) (a:Nat) (y:wK):Prop:=∀v i,v<g.2.length->i<(row g v).length->(mG y.2.2 v i).length<=a
section
variable {g:GR} {nx:List (List Int)->Nat->List Int} {cap:Nat} {P P':Nat->List Int->Prop} {y:wK} {v i:Nat}
theorem Ri (hV:VG g) (h:SH g y) (hv:v<g.2.length) (hi:i<(row g v).length) {k:Bool}:SH g (vY g k y v i):=by
 have hp:=tU hV hv hi;unfold vY;split
 ·exact h
 ·refine⟨h.c,?_,h.w.set hp.ul _⟩
  dsimp only;split
  ·exact h.a.set hv _
  ·exact h.a
theorem Mi (hV:VG g) (h:SH g y) (hv:v<g.2.length) (hi:i<(row g v).length) {k:Bool} (w j:Nat):mG (vY g k y v i).2.2 w j=if w=oY g v i∧j=Dk g v i then(mG y.2.2 w j).tail else mG y.2.2 w j:=by
 have hp:=tU hV hv hi;unfold vY;split
 ·rename_i e;by_cases q:w=oY g v i∧j=Dk g v i
  ·rw[if_pos q,q.1,q.2,e];rfl
  ·rw[if_neg q]
 ·rename_i s r e;dsimp only;rw[h.w.at hp.ul hp.bl];by_cases q:w=oY g v i∧j=Dk g v i
  ·rw[if_pos q,if_pos q,q.1,q.2,e];rfl
  ·rw[if_neg q,if_neg q]
theorem Vq {k:Bool}:(vY g k y v i).1=y.1:=by unfold vY;split<;>rfl
theorem PM (d:VG g) (h:SH g y) (c:v<g.2.length) (b:i<(row g v).length) {k:Bool} (w j:Nat):mG (vY g k y v i).2.1 w j=if w=v∧j=i then(if k=true then(mG y.2.2 (oY g v i) (Dk g v i)).headD (mG y.2.1 v i)else mG y.2.1 v i)else mG y.2.1 w j:=by
 unfold vY;split
 ·rename_i e;by_cases q:w=v∧j=i
  ·rw[if_pos q,q.1,q.2,e];split<;>rfl
  ·rw[if_neg q]
 ·rename_i s r e;dsimp only;cases k with
  |false=>
   rw[if_neg (by decide)];by_cases q:w=v∧j=i
   ·rw[if_pos q,q.1,q.2,if_neg (by decide)]
   ·rw[if_neg q]
  |true=>
   rw[if_pos Z,h.a.at c b];by_cases q:w=v∧j=i
   ·rw[if_pos q,if_pos q,if_pos Z,e];rfl
   ·rw[if_neg q,if_neg q]
theorem Vp (hV:VG g) (h:SH g y) (hv:v<g.2.length) (hi:i<(row g v).length) (hA:IM g P y) {k:Bool}:IM g P (vY g k y v i):=by
 have hp:=tU hV hv hi;refine⟨λx hx=>by rw[Vq];exact hA.c x hx,λw j hw hj=> ?_,λw j hw hj s hs=> ?_⟩
 ·rw[PM hV h hv hi];by_cases q:w=v∧j=i
  ·rw[if_pos q,q.1,q.2];split
   ·cases e:mG y.2.2 (oY g v i) (Dk g v i)with
    |nil=>exact hA.a v i hv hi
    |cons s r=>exact hA.w _ _ hp.ul hp.bl s (by rw[e];exact zAb)
   ·exact hA.a v i hv hi
  ·rw[if_neg q];exact hA.a w j hw hj
 ·rw[Mi hV h hv hi]at hs;split at hs
  ·exact hA.w w j hw hj s (List.mem_of_mem_tail hs)
  ·exact hA.w w j hw hj s hs
theorem Vr (b:VG g) (h:SH g y) (e:v<g.2.length) (c:i<(row g v).length) (a:ZM g cap y) {k:Bool}:ZM g cap (vY g k y v i):=λw j f d=>by
 have:=a w j f d;rw[Mi b h e c];split
 ·rw[List.length_tail];omega
 ·exact this
theorem RU (h:SH g y) (b:v<g.2.length):SH g (Ce cap y v i):=by
 unfold Ce;split
 ·exact⟨h.c,h.a,h.w.set b _⟩
 ·exact h
theorem Qv (h:SH g y) (b:v<g.2.length) (a:i<(row g v).length) (w j:Nat):mG (Ce cap y v i).2.2 w j=if w=v∧j=i∧(mG y.2.2 v i).length<cap then mG y.2.2 v i++[at' y.1 (v:Int)]else mG y.2.2 w j:=by
 unfold Ce;by_cases q:(mG y.2.2 v i).length<cap
 ·rw[if_pos q];dsimp only;rw[h.w.at b a];by_cases z:w=v∧j=i
  ·rw[if_pos z,if_pos ⟨z.1,z.2,q⟩]
  ·rw[if_neg z,if_neg (λe=>z ⟨e.1,e.2.1⟩)]
 ·rw[if_neg q,if_neg (λe=>q e.2.2)]
theorem MM:(Ce cap y v i).1=y.1∧(Ce cap y v i).2.1=y.2.1:=by unfold Ce;split<;>exact⟨rfl,rfl⟩
theorem WF (h:SH g y) (f:v<g.2.length) (l:i<(row g v).length) (d:IM g P y):IM g P (Ce cap y v i):=by
 refine⟨λx m=>by rw[MM.1];exact d.c x m,λw j k e=>by rw[MM.2];exact d.a w j k e,λw j k e s b=> ?_⟩
 rw[Qv h f l]at b;split at b
 ·rename_i q;rcases zB4.1 b with b|b
  ·rw[q.1];exact d.w v i f l s b
  ·rw[List.mem_singleton.1 b,q.1];exact d.c v f
 ·exact d.w w j k e s b
theorem WG (h:SH g y) (d:v<g.2.length) (b:i<(row g v).length) (a:ZM g cap y):ZM g cap (Ce cap y v i):=λw j e c=>by
 have:=a w j e c;rw[Qv h d b];split
 ·rename_i q;rw[zAc,List.length_singleton];omega
 ·exact this
theorem Uj (h:SH g y):SH g (Nt g nx y v):=⟨by simpa [Nt]using h.c,h.a,h.w⟩
theorem Zr (h:SH g y) (a:v<g.2.length) (x:Nat):at' (Nt g nx y v).1 (x:Int)=if x=v then nx (vw g y v) v else at' y.1 (x:Int):=wM _ _ _ _ (by rw[h.c];exact a)
theorem MS (e:VG g) (h:SH g y) (d:v<g.2.length) (b:IM g P y):(vw g y v).length=g.2.length∧∀x,x<g.2.length->P x (at' (vw g y v) (x:Int)):=
 ⟨by unfold vw;rw[CV,h.c],Sg e h d P b.c (λi f=>b.a v i d f) _ (zAe _)⟩
theorem Xx (f:VG g) (h:SH g y) (d:v<g.2.length) (b:IM g P y) (j:∀c:List (List Int),c.length=g.2.length->(∀x,x<g.2.length->P x (at' c (x:Int)))->∀v,v<g.2.length->P v (nx c v)):IM g P (Nt g nx y v):=by
 refine⟨λx k=> ?_,b.a,b.w⟩
 rw[Zr h d];split
 ·rename_i e;rw[e];have:=MS f h d b;exact j _ this.1 this.2 v d
 ·exact b.c x k
theorem VV (d:VG g) (h:SH g y) (f:IM g P y) (j:ZM g cap y) {e:Nat×Nat×Nat} (l:ZN g e) (m:∀c:List (List Int),c.length=g.2.length->(∀x,x<g.2.length->P x (at' c (x:Int)))->∀v,v<g.2.length->P v (nx c v)):SH g (lM g nx cap y e)∧IM g P (lM g nx cap y e)∧ZM g cap (lM g nx cap y e):=by
 obtain⟨⟨o,p⟩,a,n⟩:=l;unfold lM;by_cases q:e.1=1
 ·rw[if_pos q];exact⟨Uj h,Xx d h a f m,j⟩
 ·have b:=n.resolve_left q;rw[if_neg q];by_cases k:e.1=2
  ·rw[if_pos k];exact⟨RU h a,WF h a b f,WG h a b j⟩
  ·rw[if_neg k];exact⟨Ri d h a b,Vp d h a b f,Vr d h a b j⟩
end
def BD (g:GR) (a:Nat):List (Nat×Nat×Nat):=(List.range g.2.length).flatMap λv=>(List.range (row g v).length).flatMap λi=>(List.range a).flatMap λ_=>[(3,v,i)]
def Ja (g:GR):List (Nat×Nat×Nat):=(List.range g.2.length).flatMap λv=>[(1,v,0)]
def Ef (g:GR):List (Nat×Nat×Nat):=(List.range g.2.length).flatMap λv=>(List.range (row g v).length).flatMap λi=>[(2,v,i)]
def Qm (g:GR) (cap:Nat):List (Nat×Nat×Nat):=BD g cap++(Ja g++(Ef g++BD g cap))
theorem oS {c b:Type} (a:b->c->b) (f:Nat->List c) (I:Nat->b->Prop):∀n,(∀k y,k<n->I k y->I (k+1) ((f k).foldl a y))->∀y,I 0 y->I n (((List.range n).flatMap f).foldl a y)
 |0,_,y,h=>by simpa using h
 |n+1,hs,y,h=>by
  have d:=oS a f I n (λk y e=>hs k y (by omega)) y h;rw[List.range_succ,List.flatMap_append,List.foldl_append,List.flatMap_singleton];exact hs n _ (by omega) d
structure OQ (g:GR) (y:wK):Prop where
 a:∀v i,v<g.2.length->i<(row g v).length->mG y.2.1 v i=at' y.1 (oY g v i:Int)
 w:∀v i,v<g.2.length->i<(row g v).length->mG y.2.2 v i=[]
section
variable {g:GR} {nx:List (List Int)->Nat->List Int} {cap:Nat} {P P':Nat->List Int->Prop} {y:wK}
theorem acp (hV:VG g) {v i w j:Nat} (hv:v<g.2.length) (hi:i<(row g v).length) (hw:w<g.2.length) (hj:j<(row g w).length) (h:oY g w j=oY g v i∧Dk g w j=Dk g v i):w=v∧j=i:=by
 have a:=tU hV hv hi;have b:=tU hV hw hj;have h1:=a.tu;have h2:=b.tu;have h3:=a.bu;have h4:=b.bu;rw[h.1,h.2]at h2 h4;exact⟨by omega,by omega⟩
theorem YQ (hV:VG g) {y2:wK} (h2:SH g y2) (hW2:∀v i,v<g.2.length->i<(row g v).length->mG y2.2.2 v i=[]) (hC2:∀x,x<g.2.length->P' x (at' y2.1 (x:Int))) (hcap:1<=cap):
    SH g ((Ef g++BD g cap).foldl (lM g nx cap) y2)∧((Ef g++BD g cap).foldl (lM g nx cap) y2).1=y2.1∧IM g P' ((Ef g++BD g cap).foldl (lM g nx cap) y2)∧OQ g ((Ef g++BD g cap).foldl (lM g nx cap) y2):=by
  rw[List.foldl_append]
  -- all nodes tell
  have k3:=oS (lM g nx cap) (λv=>(List.range (row g v).length).flatMap λi=>[(2,v,i)]) (λv y=>SH g y∧y.1=y2.1∧∀w j,w<g.2.length->j<(row g w).length->mG y.2.2 w j=if w<v then[at' y2.1 (w:Int)]else[]) g.2.length (λv y hv ⟨h,hc,hD⟩=>by
    have k:=oS (lM g nx cap) (λi=>[(2,v,i)]) (λi y=>SH g y∧y.1=y2.1∧∀w j,w<g.2.length->j<(row g w).length->mG y.2.2 w j=if w<v∨w=v∧j<i then[at' y2.1 (w:Int)]else[]) (row g v).length (λi y hi ⟨h,hc,hD⟩=>by
      have e:lM g nx cap y (2,v,i)=Ce cap y v i:=rfl;rw[List.foldl_cons,List.foldl_nil,e];refine⟨RU h hv,by rw[MM.1];exact hc,λw j hw hj=> ?_⟩
      have hvi:=hD v i hv hi;rw[if_neg (by omega)]at hvi;rw[Qv h hv hi,hvi];by_cases q:w=v∧j=i
      · rw[if_pos ⟨q.1,q.2,by simp only[zB5];omega⟩,if_pos (.inr ⟨q.1,by omega⟩),hc,q.1];rfl
      · rw[if_neg (λz=>q ⟨z.1,z.2.1⟩),hD w j hw hj];by_cases z:w<v∨w=v∧j<i
        · rw[if_pos z,if_pos (by omega)]
        · rw [if_neg z, if_neg (by omega)]) y ⟨h, hc, λw j hw hj => by
            rw [hD w j hw hj]; by_cases z : w < v
            · rw[if_pos z,if_pos (.inl z)]
            · rw[if_neg z,if_neg (by omega)]⟩
    obtain⟨h,hc,hD⟩:=k;refine⟨h,hc,λw j hw hj=> ?_⟩
    rw[hD w j hw hj];by_cases z:w<v+1
    · rw[if_pos z,if_pos (by
        by_cases e:w=v
        · subst e;exact .inr ⟨rfl,hj⟩
        · exact .inl (by omega))]
    · rw[if_neg z,if_neg (by omega)]) y2 ⟨h2,rfl,λw j hw hj=>by rw[if_neg (Nat.not_lt_zero w)];exact hW2 w j hw hj⟩
  have e3:((List.range g.2.length).flatMap λv=>(List.range (row g v).length).flatMap λi=>[(2,v,i)])=Ef g:=rfl;rw[e3]at k3;obtain⟨h3,hc3,hW3⟩:=k3;generalize (Ef g).foldl (lM g nx cap) y2=y3 at h3 hc3 hW3;have hW3':∀w j,w<g.2.length->j<(row g w).length->mG y3.2.2 w j=[at' y2.1 (w:Int)]:=λw j hw hj=>by rw[hW3 w j hw hj,if_pos hw]
  -- all nodes hear
  have k4:=oS (lM g nx cap) (λv=>(List.range (row g v).length).flatMap λi=>(List.range cap).flatMap λ_=>[(3,v,i)]) (λv y=>SH g y∧y.1=y2.1∧∀w j,w<g.2.length->j<(row g w).length->(w<v->mG y.2.1 w j=at' y2.1 (oY g w j:Int)∧mG y.2.2 (oY g w j) (Dk g w j)=[])∧(¬w<v->mG y.2.2 (oY g w j) (Dk g w j)=[at' y2.1 (oY g w j:Int)])) g.2.length (λv y hv ⟨h,hc,hD⟩=>by
    have k:=oS (lM g nx cap) (λi=>(List.range cap).flatMap λ_=>[(3,v,i)]) (λi y=>SH g y∧y.1=y2.1∧∀w j,w<g.2.length->j<(row g w).length->((w<v∨w=v∧j<i)->mG y.2.1 w j=at' y2.1 (oY g w j:Int)∧mG y.2.2 (oY g w j) (Dk g w j)=[])∧(¬(w<v∨w=v∧j<i)->mG y.2.2 (oY g w j) (Dk g w j)=[at' y2.1 (oY g w j:Int)])) (row g v).length (λi y hi ⟨h,hc,hD⟩=>by
      have hp:=tU hV hv hi;have k:=oS (lM g nx cap) (λ_=>[(3,v,i)]) (λt y=>SH g y∧y.1=y2.1∧(∀w j,w<g.2.length->j<(row g w).length->¬(w=v∧j=i)->((w<v∨w=v∧j<i)->mG y.2.1 w j=at' y2.1 (oY g w j:Int)∧mG y.2.2 (oY g w j) (Dk g w j)=[])∧(¬(w<v∨w=v∧j<i)->mG y.2.2 (oY g w j) (Dk g w j)=[at' y2.1 (oY g w j:Int)]))∧(t=0->mG y.2.2 (oY g v i) (Dk g v i)=[at' y2.1 (oY g v i:Int)])∧(0<t->mG y.2.1 v i=at' y2.1 (oY g v i:Int)∧mG y.2.2 (oY g v i) (Dk g v i)=[])) cap (λt y ht ⟨h,hc,hD,h0,hT⟩=>by
        have e:lM g nx cap y (3,v,i)=vY g true y v i:=rfl;rw[List.foldl_cons,List.foldl_nil,e];refine⟨Ri hV h hv hi,by rw[Vq];exact hc,λw j hw hj hne=> ?_,λq=>absurd q (by omega),λ_=> ?_⟩
        · obtain⟨a,b⟩:=hD w j hw hj hne;rw[PM hV h hv hi,if_neg hne,Mi hV h hv hi,if_neg (λq=>hne (acp hV hv hi hw hj q))];exact⟨a,b⟩
        · rw[PM hV h hv hi,if_pos ⟨rfl,rfl⟩,if_pos Z,Mi hV h hv hi,if_pos ⟨rfl,rfl⟩];by_cases z:t=0
          · rw[h0 z];exact⟨rfl,rfl⟩
          · obtain⟨a,b⟩:=hT (by omega);rw[b,<-a];exact⟨rfl,rfl⟩) y ⟨h,hc,λw j hw hj _=>hD w j hw hj,λ_=>(hD v i hv hi).2 (by omega),λq=>absurd q (by omega)⟩
      obtain⟨h,hc,hD,_,hT⟩:=k;obtain⟨a,b⟩:=hT (by omega);refine⟨h,hc,λw j hw hj=>⟨λq=> ?_,λq=>(hD w j hw hj (by omega)).2 (by omega)⟩⟩
      by_cases z:w=v∧j=i
      · rw[z.1,z.2];exact⟨a,b⟩
      · exact(hD w j hw hj z).1 (by omega)) y ⟨h,hc,λw j hw hj=>⟨λq=>(hD w j hw hj).1 (by omega),λq=>(hD w j hw hj).2 (by omega)⟩⟩
    obtain⟨h,hc,hD⟩:=k;refine⟨h,hc,λw j hw hj=>⟨λq=>(hD w j hw hj).1 ?_,λq=>(hD w j hw hj).2 (by omega)⟩⟩
    by_cases e:w=v
    · subst e;exact .inr ⟨rfl,hj⟩
    · exact .inl (by omega)) y3 ⟨h3,hc3,λw j hw hj=>⟨λq=>absurd q (Nat.not_lt_zero w),λ_=>by
      have hp:=tU hV hw hj;exact hW3' _ _ hp.ul hp.bl⟩⟩
  have e4:((List.range g.2.length).flatMap λv=>(List.range (row g v).length).flatMap λi=>(List.range cap).flatMap λ_=>[(3,v,i)])=BD g cap:=rfl;rw[e4]at k4;obtain⟨h4,hc4,hD4⟩:=k4;generalize (BD g cap).foldl (lM g nx cap) y3=y4 at h4 hc4 hD4;have hw4:∀v i,v<g.2.length->i<(row g v).length->mG y4.2.2 v i=[]:=λv i hv hi=>by
    have hp:=tU hV hv hi;have:=((hD4 (oY g v i) (Dk g v i) hp.ul hp.bl).1 hp.ul).2;rw[hp.tu,hp.bu]at this;exact this
  refine⟨h4,hc4,⟨λv hv=>by rw[hc4];exact hC2 v hv,λv i hv hi=> ?_,λv i hv hi s hs=> ?_⟩,⟨λv i hv hi=>by rw[hc4];exact((hD4 v i hv hi).1 hv).1,hw4⟩⟩
  · have hp:=tU hV hv hi;rw[((hD4 v i hv hi).1 hv).1];exact hC2 _ hp.ul
  · rw[hw4 v i hv hi]at hs;exact absurd hs zB1
end
end Go.Proofs.YtflciafboapaaaaGreat
namespace Go.Proofs.YtflciafboapaaaaGreat
open Go.Sx
def jW (U:Nat) (a:jX) (b:dL) (c:bM):Option Bool:=
 Option.bind (fC U ((a.1,a.2.1,a.2.2)) ((b.1,b.2)) c) λd=>(some (decide (d=(0:Int))))
theorem Uv:bB Tryz.prog 47:=Tryz.call47
theorem Ed (U:Nat) {a:jX} {g:dL} {j:bM} (b:Value)  (d:Value)  (e:Value)  (f:Value)  (k:iZ)  (i:Value)  (m:jY) (r:Bool) (h:jW U a g j=some r):
  bO Tryz.prog 47 #[Value.agg #[vS (a.1),b,d],Value.agg #[e,f],i] [Sl aG b a.2.1,Sl aC d a.2.2,PF (Value.agg #[vS a.1,b,d]),Sl aJ e g.1,S2 aW f k g.2,S2 aJ i m j] (λx:Unit=>vB (r)) (λx l=>l) (λ_ l=>l):=by
 refine bO.of Tryz.func47 Z Tryz.ntmps47 Z λc=>?_;refine aX<|aI (aN.box (cs:=[vS (a.1),b,d]) Z Z) Z λp=>aI (aN.box (cs:=[e,f]) Z Z) Z λq=>aH Z<|aP<|aX<|cY 1 Z<|cY 0 Z<|aB Z<|fZ h λn o h=>aI (zBc LV (xM U b d e f k i m n o) Z (g_ [0,1,2,3,4,5] Z)) Z λs=>eL Z<|aH Z<|aP<|aY ?_;cases h;exact zJ Z
def nV (U:Nat) (a:Int) (c:bT) (b:gA):Option Bool:=
 ck (0<=a∧a<(b.length:Int)) (Option.bind (mX U (at' b a) c) λd=>(some (d)))
theorem Uw:bB Tryz.prog 49:=Tryz.call49
theorem Db (U:Nat) {d:Int} {f:bT} {g:gA} (e:Value)  (a:Nat)  (i:Value)  (j:iZ) (r:Bool) (h:nV U d f g=some r):
  bO Tryz.prog 49 #[vI (d),e,vP a] [Sl aJ e f,bI a [i] 86,S2 aW i j g] (λx:Unit=>vB (r)) (λx l=>l) (λ_ l=>l):=by
 refine bO.of Tryz.func49 Z Tryz.ntmps49 Z λc=>?_;refine aX<|aH Z<|aP<|aX<|aD (eK Z (aA.fact 1 Z) Z Z Z) Z<|aB Z<|eB h λb h=>aD (bV Z Z (aA.fact 2 Z) Z Z b) Z<|aD (cM Z (aA.fact 2 Z) Z Z b) Z<|aB Z<|fZ h λk m h=>aI (zBc Ux (Ec U ((at' j d).1) e k m) Z (aE.cons (zBe (aA.fact 2 Z) b.1 b.2) (g_ [0] Z))) Z λn=>aH Z<|aP<|aY ?_;cases h;exact mN Z
def xF  (a:Unit):Option Bool:=
 some (true)
def xG (b:Int) (a:(Int)->Option Bool) (c:Unit):Option Bool:=
 a (wI .i64 (b+(1:Int)))
def xJ (b:Int) (a:(Int)->Option Bool) (c:Bool):Option Bool:=
 if c=true then(some (false))else(a (wI .i64 (b+(1:Int))))
def qB (b:Int) (a:(Int)->Option Bool) (c:Int):Option Bool:=
 xJ b a (decide ((0:Int)<=c))
def sR (b:Int) (a:(Int)->Option Bool) (c:Unit):Option Bool:=
 qB b a (-1:Int)
def zI (d:Int) (b:(Int)->Option Bool) (a:Int) (c:(Int)->Option Bool) (e:Bool):Option Bool:=
 if e=true then(qB d b (a))else(c (wI .i64 (a+(1:Int))))
def qC (U:Nat) (f:rD) (g:gA) (c:Int) (a:Int) (d:(Int)->Option Bool) (b:Int) (e:(Int)->Option Bool):Option Bool:=
 if b<((at' (at' f.2.2 c) a).length:Int)then(ck (0<=b∧b<((at' (at' f.2.2 c) a).length:Int)) (Option.bind (nV U c (at' (at' (at' f.2.2 c) a) b) g) λh=>(zI a d b e ((!h)))))else(sR a d (()))
def xI (U:Nat) (f:rD) (e:gA) (b:Int) (c:Int) (a:(Int)->Option Bool) (d:Bool):Option Bool:=
 if d=true then(some (false))else(bP (qC U f e b c a) U (0:Int))
def iF (U:Nat) (g:dL) (i:Int) (d:rD) (e:gA) (a:Int) (f:(Int)->Option Bool) (b:Int) (c:(Int)->Option Bool):Option Bool:=
 if b<((at' g.2 a).length:Int)then(ck (0<=b∧b<((at' g.2 a).length:Int)) (ck (0<=a∧a<(d.2.2.length:Int)) (ck (0<=b∧b<((at' d.2.2 a).length:Int)) (ck (0<=a∧a<(d.2.1.length:Int)) (ck (0<=b∧b<((at' d.2.1 a).length:Int)) (Option.bind (nV U ((at' (at' g.2 a) b).1) (at' (at' d.2.1 a) b) e) λh=>(if(!h)=true then(xI U d e a b c (true))else(xI U d e a b c (decide (i<((at' (at' d.2.2 a) b).length:Int)))))))))))else(xG a f (()))
def xH (U:Nat) (e:dL) (f:Int) (g:rD) (d:gA) (b:Int) (a:(Int)->Option Bool) (c:Bool):Option Bool:=
 if c=true then(some (false))else(bP (iF U e f g d b a) U (0:Int))
def fM (U:Nat) (c:dL) (f:Int) (d:rD) (e:gA) (a:Int) (b:(Int)->Option Bool):Option Bool:=
 if a<(c.2.length:Int)then(ck (0<=a∧a<(c.2.length:Int)) (ck (0<=a∧a<(d.2.1.length:Int)) (if((at' d.2.1 a).length:Int)≠((at' c.2 a).length:Int)then(xH U c f d e a b (true))else(ck (0<=a∧a<(d.2.2.length:Int)) (xH U c f d e a b (decide (((at' d.2.2 a).length:Int)≠((at' c.2 a).length:Int))))))))else(xF  (()))
def xE (U:Nat) (a:jX) (b:dL) (e:Int) (f:rD) (d:Bool):Option Bool:=
 if d=true then(some (false))else(Option.bind (fL U ((a.1,a.2.1,a.2.2)) ((b.1,b.2))) λc=>(bP (fM U b e f c) U (0:Int)))
def sQ (U:Nat) (c:jX) (a:dL) (d:Int) (b:rD) (e:Bool):Option Bool:=
 if e=true then(some (false))else(if(b.2.1.length:Int)≠(a.2.length:Int)then(xE U c a d b (true))else(xE U c a d b (decide ((b.2.2.length:Int)≠(a.2.length:Int)))))
def kZ (U:Nat) (a:jX) (b:dL) (c:Int) (d:rD):Option Bool:=
 Option.bind (jW U ((a.1,a.2.1,a.2.2)) ((b.1,b.2)) d.1) λe=>(if(!e)=true then(sQ U a b c d (true))else(if c<(1:Int)then(sQ U a b c d (true))else(sQ U a b c d (decide ((8:Int)<c)))))
theorem Pr:bB Tryz.prog 18:=Tryz.call18
theorem BL (U:Nat) {p0:jX} {p:dL} {w:Int} {v:rD} (M:Value)  (N:Value)  (v2:Value)  (L:Value)  (z4:iZ)  (v5:Value)  (z6:jY)  (v7:Value)  (z8:If)  (v9:Value)  (G:Ie) (r:Bool) (h:kZ U p0 p w v=some r):
  bO Tryz.prog 18 #[Value.agg #[vS (p0.1),M,N],Value.agg #[v2,L],vI (w),Value.agg #[v5,v7,v9]] [Sl aG M p0.2.1,Sl aC N p0.2.2,PF (Value.agg #[vS p0.1,M,N]),Sl aJ v2 p.1,S2 aW L z4 p.2,S2 aJ v5 z6 v.1,S3 aJ v7 z8 v.2.1,S4 aJ v9 G v.2.2] (λx:Unit=>vB (r)) (λx l=>l) (λ_ l=>l):=by
 let Y:=S2 aJ v5 z6 v.1;let X:=S2 aW L z4 p.2;let W:=S3 aJ v7 z8 v.2.1;let V:=S4 aJ v9 G v.2.2;let S:=PF (Value.agg #[vS p0.1,M,N]);let K:=(p.2.length:Int)
 refine bO.of Tryz.func18 Z Tryz.ntmps18 Z λc=>?_;refine aX<|aI (aN.box (cs:=[vS (p0.1),M,N]) Z Z) Z λb1=>aI (aN.box (cs:=[v2,L]) Z Z) Z λb2=>aI (aN.box (cs:=[v5,v7,v9]) Z Z) Z λb3=>let k:=bI b3 [v5,v7,v9] 43;aH Z<|aP<|aM<|aM<|jH (λa5=>sQ U p0 p w v a5=some r) (λa5 b6=>[(2,vI (w)),(4,vP b1),(5,vP b2),(7,vP b3),(29,vB (a5))]) (λa5 b6=>[k,bI b2 [v2,L] 31,bI b1 [vS (p0.1),M,N] 36]) ?_ ?_
 ·refine aT<|cY 2 Z<|cY 1 Z<|cA Z<|eW 0 Z<|fZ h λa8 bd h=>aI (zBc Uv (Ed U M N v2 L z4 v5 z6 a8 bd) Z (g_ [0,1,2,3,4,5] Z)) Z λbh=>aD (wL Z) Z<|aB Z ?_;refine wJ (by exact rfl) (by exact rfl) (λR=>?_) (λR=>?_)
  ·have h:=Km R h;refine aK Z<|aK Z<|fX Z<|aB Z<|aK Z<|aK Z<|fX Z<|aP ?_;exact kC (true) () h SF Z
  have h:=Hm R h;refine iA Z<|aS Z (FP Z Z) Z<|fG Z<|aB Z ?_;refine Fq h Z (λ_ h=>?_) λ_ h=>?_
  ·refine aK Z<|aK Z<|fX Z<|aP ?_;exact kC (true) () h SF Z
  refine iA Z<|aS Z (Aq Z Z) Z<|fG Z<|aP ?_;exact kC (decide ((8:Int)<w)) () h SF Z
 intro a5 b6 h;refine Bf h Z (λ_ h=>?_) λ_ h=>?_
 ·refine aX<|aH Z<|aP<|aY<|aL ?_;cases h;exact zJ Z
 refine dC<|aM<|aM<|jH (λa9=>xE U p0 p w v a9=some r) (λa9 ao=>[(2,vI (w)),(4,vP b1),(5,vP b2),(7,vP b3),(45,vB (a9))]) (λa9 ao=>[k,bI b2 [v2,L] 31,bI b1 [vS (p0.1),M,N] 36]) ?_ ?_
 ·refine aT<|cA Z<|eW 0 Z<|aD (eP Z (aA.fact 6 Z) Z) Z<|cA Z<|eW 1 Z<|aD (eP Z (aA.fact 4 Z) Z) Z<|oM Z<|aB Z ?_;refine Fq h Z (λ_ h=>?_) λ_ h=>?_
  ·refine aK Z<|aK Z<|aK Z<|aK Z<|aK Z<|aK Z<|aK Z<|fX Z<|aP ?_;exact kC (true) () h SF Z
  refine aS Z (eT Z Z Z Z Z) Z<|aS Z (fS 0 Z Z Z Z Z) Z<|aS Z (eP Z (aA.fact 7 Z) Z) Z<|aS Z (eT Z Z Z Z Z) Z<|aS Z (fS 1 Z Z Z Z Z) Z<|aS Z (eP Z (aA.fact 4 Z) Z) Z<|aS Z (EQ Z Z) Z<|fG Z<|aP ?_;exact kC (decide ((v.2.2.length:Int)≠K)) () h SF Z
 intro a9 ao h;refine Bf h Z (λ_ h=>?_) λ_ h=>?_
 ·refine aX<|aH Z<|aP<|aY<|aL ?_;cases h;exact zJ Z
 refine dC<|aX<|cY 2 Z<|cY 1 Z<|fZ h λm ba h=>aI (zBc Je (sU U M N v2 L z4 m ba) Z (g_ [0,1,2,3,4] Z)) Z λD=>let u:=eH bD D.2 m;let s:=Ar aZ.raw D.1 D.2;aI (aN.alloc (cs:=[cJ]) Z Z) Z λJ=>let ak:=Value.pointer (some ⟨J,0,none⟩);let t:=bI J [D.1] 86;aQ (Know.one (aA.sl (bZ (i:=1) (j:=2) Z Z bG))) λa0=>pE 0 Z Z a0 Z Z Z<|aP<|aX<|aD (As (cs:=[.tmp 9]) (vs:=[vP J]) Z) Z<|aI (aN.alloc (cs:=[Value.nilFunc]) Z Z) Z λe=>let q:=bI e [Value.func (.func 49) #[] #[vP J]] 90;pE 0 Z Z Z Z Z Z<|aP<|aM<|jH (λaa=>xF  aa=some r) (λaa ap=>[]) (λaa ap=>[]) ?_ ?_
 ·refine aX<|cA Z<|eW 5 Z<|aD (eP Z (aA.fact 4 Z) Z) Z<|aB Z<|aP<|aV<|iI (fM U p w v m) (λa aq=>[(2,vI (w)),(7,vP b3),(10,vP e),(51,L),(52,vI K),(53,vI (a))]) (λa aq=>[q,t,s,u,k]) (0:Int) () h SF (aR.ix [0,1,2,3,4] Z Z) ?_;intro a3 a aq h;let T:=((at' p.2 a).length:Int)
  let ah:=(bP (fM U p w v m) a3)
  refine aX<|dM Z<|aP<|aM ?_;refine f_ h Z (λh=>?_) λh=>?_
  ·refine dC<|aM<|jH (λab=>xG a ah ab=some r) (λab ar=>[(2,vI (w)),(7,vP b3),(10,vP e),(51,L),(52,vI K),(53,vI (a))]) (λab ar=>[q,t,s,u,k]) ?_ ?_
   ·refine aV<|aX<|aB Z<|eB h λf h=>aD (bV Z Z (aA.fact 4 Z) Z Z f) Z<|aD (cM Z (aA.fact 4 Z) Z Z f) Z<|aI (aN.alloc (cs:=[vI (0:Int)]) Z Z) Z λo=>let C:=bI o [vI (a)] 3;pE 0 Z Z Z Z Z Z<|aH Z<|aP<|aM<|aM<|jH (λO=>xH U p w v m a ah O=some r) (λO au=>[(2,vI (w)),(7,vP b3),(10,vP e),(11,vP o),(12,(at' z4 a).1),(51,L),(52,vI K),(53,vI (a)),(77,vB (O))]) (λO au=>[C,q,t,s,u,k]) ?_ ?_
    ·refine aT<|cA Z<|eW 5 Z<|eW 0 Z<|eB h λaf h=>aD (bV Z Z (aA.fact 6 Z) Z Z af) Z<|aD (mQ Z (aA.fact 6 Z) Z Z af) Z ?_;refine aD (eP Z (eG (aA.fact 6 Z) af.1 af.2) Z) Z ?_;refine aB Z<|aD (gY Z (zBe (aA.fact 4 Z) f.1 f.2) Z) Z<|oM Z<|aB Z ?_;refine Fq h Z (λ_ h=>?_) λ_ h=>?_
     ·refine aK Z<|aK Z<|aK Z<|aK Z<|aK Z<|aK Z<|aK Z<|aK Z<|aK Z<|fX Z<|aP ?_;exact kC (true) () h SF Z
     refine aS Z (eT Z Z Z Z Z) Z<|aS Z (fS 5 Z Z Z Z Z) Z<|aS Z (fS 0 Z Z Z Z Z) Z<|eB h λag h=>aS Z (bV Z Z (aA.fact 7 Z) Z Z ag) Z<|aS Z (mQ Z (aA.fact 7 Z) Z Z ag) Z ?_;refine aS Z (eP Z (eG (aA.fact 7 Z) ag.1 ag.2) Z) Z ?_;refine iA Z<|aS Z (gY Z (zBe (aA.fact 4 Z) f.1 f.2) Z) Z<|aS Z (EQ Z Z) Z<|fG Z<|aP ?_;exact kC (decide (((at' v.2.2 a).length:Int)≠T)) () h SF Z
    intro O au h;refine Bf h Z (λ_ h=>?_) λ_ h=>?_
    ·refine aX<|aH Z<|aP<|aY<|aL<|cE<|aL<|aL<|cE<|aL ?_;cases h;exact zJ Z
    refine dC<|aX<|aB Z<|aD (gY Z (zBe (aA.fact 4 Z) f.1 f.2) Z) Z<|aB Z<|aP<|aV<|iI (iF U p w v m a ah) (λb av=>[(2,vI (w)),(7,vP b3),(10,vP e),(11,vP o),(51,L),(52,vI K),(53,vI (a)),(78,(at' z4 a).1),(79,vI T),(80,vI (b))]) (λb av=>[C,q,t,s,u,k]) (0:Int) () h SF (aR.refl _) ?_;intro a4 b av h;let aj:=((at' (at' v.2.2 a) b).length:Int)
    let ai:=(at' ((at' G a).2) b)
    let F:=(bP (iF U p w v m a ah) a4)
    refine aX<|dM Z<|aP<|aM ?_;refine f_ h Z (λh=>?_) λh=>?_
    ·refine dC<|aM<|aV<|aX<|aB Z<|eB h λa1 h=>aD (b_ Z Z (zBe (aA.fact 4 Z) f.1 f.2) Z Z a1) Z<|aD (fN (cs:=[vI ((at' (at' p.2 a) b).1),vI ((at' (at' p.2 a) b).2)]) Z (zBe (aA.fact 4 Z) f.1 f.2) bG Z Z Z Z a1) Z<|aI (aN.alloc (cs:=MV) Z Z) Z λbf=>aH Z<|bL 0 (vs:=[vI ((at' (at' p.2 a) b).1),vI ((at' (at' p.2 a) b).2)]) Z Z Z Z Z Z<|aP<|aX<|cA Z<|eW 6 Z<|eW 1 Z<|eB h λd h=>aD (bV Z Z (aA.fact 7 Z) Z Z d) Z<|aD (mQ Z (aA.fact 7 Z) Z Z d) Z<|aB Z<|eB h λg h=>aD (bV Z Z (eG (aA.fact 7 Z) d.1 d.2) Z Z g) Z ?_;refine aD (mQ Z (eG (aA.fact 7 Z) d.1 d.2) Z Z g) Z ?_;refine aH Z<|aP<|aM<|aM<|jH (λP=>xI U v m a b F P=some r) (λP aw=>[(2,vI (w)),(7,vP b3),(10,vP e),(11,vP o),(15,ai.1),(51,L),(52,vI K),(53,vI (a)),(78,(at' z4 a).1),(79,vI T),(80,vI (b)),(111,vB (P))]) (λP aw=>[C,q,t,s,u,k]) ?_ ?_
     ·refine JR.start [0,0,2,0,8,0,56,120,0,504,1016,2047,4095,8191,16383,32767,16383,131071,262143] 17 mixedOrders (by decide +kernel) ?_;refine zBf (by exact rfl) ?_;refine fI 2 Z<|cD Z<|fI 0 Z<|cD Z<|fI 6 Z<|fI 1 Z<|eB h λy h=>aU (gH (aA.fact 6 Z)) λaz=>i_ Z (hZ Z Z az Z Z y)<|bQ Z .nil (mK 6 Z) (mQ Z (aA.fact 0 Z) Z Z y) aO.z<|a_ Z<|eB h λae h=>aU (gH (eG (aA.fact 6 Z) y.1 y.2)) λaF=>?_;refine i_ Z (hZ Z Z aF Z Z ae) ?_;refine bQ Z .nil (mK 6 Z) (cM Z (eG (aA.fact 0 Z) y.1 y.2) Z Z ae) aO.z<|fZ h λa7 bc h=>zBd Z Z Z (qE (vs:=[vI ((at' (at' p.2 a) b).1),(at' ((at' z8 a).2) b).1]) (cs:=[ak]) Uw Z (Db U ((at' ((at' z8 a).2) b).1) J D.1 (List.zip D.2 m) a7 bc) Z (aE.cons (zBe (eG (aA.fact 6 Z) y.1 y.2) ae.1 ae.2) (aE.cons (aA.res 3 Z) (aE.cons (bZ (i:=4) (j:=5) Z Z bG) .nil))) (λ_ _=>rfl)) Z (λbe=>(nL [] Z)) λbe=>?_;refine i_ Z (wL Z)<|i_ Z (iW Z) ?_;refine JR.guard (by exact rfl) (by exact rfl) (by exact rfl) (λQ=>?_) (λQ=>?_)
      ·have h:=Km Q h;refine bY Z Z Z Z<|bY Z Z Z Z<|bY Z Z Z Z<|bS 17 Z Z<|aK Z<|fX Z<|aP ?_;exact cK (true) () h SF (aR.ix [1,2,3,4,5,6] Z Z) (aE.refl _ _)
      have h:=Hm Q h;refine gG Z .nil .nil (iW Z) (NG Z) ?_;refine gG Z .nil (mK 7 Z) (eP Z (eG (eG (aA.fact 0 Z) d.1 d.2) g.1 g.2) Z) (NG Z) ?_;refine gG Z .nil .nil (iW Z) (NG Z)<|bS 17 Z Z<|aS Z (Aq Z Z) Z<|fG Z<|aP ?_;exact cK (decide (w<aj)) () h SF (aR.ix [1,2,3,4,5,6] Z Z) (aE.refl _ _)
     intro P aw h;refine Bf h Z (λ_ h=>?_) λ_ h=>?_
     ·refine aX<|aH Z<|aP<|aY<|aL<|cE<|aL<|aL<|cE<|cE<|aL<|aL<|cE<|aL ?_;cases h;exact zJ Z
     refine dC<|aX<|aB Z<|aD (As (cs:=[.tmp 10,.tmp 11]) (vs:=[vP e,vP o]) Z) Z<|vJ (A:=Bool) (B:=Unit) (vs:=[(at' ((at' G a).2) b).1,Value.func (.func 52) #[] #[vP e,vP o]]) (λH=>xJ b F H=some r) (λH al=>vB (H)) (λH al=>[C,q,t,s,u,k]) (λH al=>[Sl aG M p0.2.1,Sl aC N p0.2.2,S,Sl aJ v2 p.1,X,Y,W,V]) (mO.fn (show bB Tryz.prog 51 from Tryz.call51) Z) Tryz.func51 Z Tryz.ntmps51 Z Z ?_ ?_
     ·refine aX<|aH Z<|aP<|aX<|aB Z<|aB Z<|vJ (A:=Int) (B:=Unit) (vs:=[(at' ((at' G a).2) b).1,Value.func (.func 52) #[] #[vP e,vP o]]) (λE=>qB b F E=some r) (λE am=>vI (E)) (λE am=>[C,q,t,s,u,k]) (λE am=>[Sl aG M p0.2.1,Sl aC N p0.2.2,S,Sl aJ v2 p.1,X,Y,W,V]) (mO.fn (show bB Tryz.prog 98 from Tryz.call98) Z) Tryz.func98 Z Tryz.ntmps98 Z Z ?_ ?_
      ·refine aX<|aH Z<|aP<|aM<|jH (λac=>sR b F ac=some r) (λac ax=>[]) (λac ax=>[C,q,t,s,u,k]) ?_ ?_
       ·refine aX<|aB Z ?_;refine aD (eP Z (eG (eG (aA.fact 7 Z) d.1 d.2) g.1 g.2) Z) Z ?_;refine aB Z<|aP<|aV<|iI (qC U v m a b F) (λn ay=>[(0,ai.1),(1,Value.func (.func 52) #[] #[vP e,vP o]),(7,vI aj),(8,vI (n))]) (λn ay=>[C,q,t,s,u,k]) (0:Int) () h SF (aR.refl _) ?_;intro a6 n ay h;refine aX<|dM Z<|aP<|aM ?_;refine f_ h Z (λh=>?_) λh=>?_
        ·refine dC<|aM<|aV<|aX<|aB Z<|aH Z<|aP<|aX<|aB Z<|aB Z<|aB Z<|eB h λad h=>aD (bV Z Z (eG (eG (aA.fact 7 Z) d.1 d.2) g.1 g.2) Z Z ad) Z ?_;refine aD (cM Z (eG (eG (aA.fact 7 Z) d.1 d.2) g.1 g.2) Z Z ad) Z ?_;refine vJ (A:=Bool) (B:=Unit) (vs:=[(at' ((at' ((at' G a).2) b).2) n).1,vP e,vP o]) (λI=>zI b F n (bP (qC U v m a b F) a6) I=some r) (λI an=>vB (I)) (λI an=>[C,q,t,s,u,k]) (λI an=>[Sl aG M p0.2.1,Sl aC N p0.2.2,S,Sl aJ v2 p.1,X,Y,W,V]) (Sp (us:=[(at' (ai.2) n).1]) (cs:=[vP e,vP o]) (show bB Tryz.prog 52 from Tryz.call52) Z Z Z) Tryz.func52 Z Tryz.ntmps52 Z Z ?_ ?_
         ·refine aX<|aH Z<|aP<|aX<|eW 1 Z<|eW 0 Z<|aB Z<|fZ h λa2 bb h=>aI (qE (vs:=[vI (a),(at' ((at' ((at' G a).2) b).2) n).1]) (cs:=[ak]) Uw Z (Db U ((at' (ai.2) n).1) J D.1 (List.zip D.2 m) a2 bb) Z (aE.cons (zBe (eG (eG (aA.fact 7 Z) d.1 d.2) g.1 g.2) ad.1 ad.2) (aE.cons (aA.res 2 Z) (aE.cons (bZ (i:=3) (j:=4) Z Z bG) .nil))) (λ_ _=>rfl)) Z λbg=>?_;refine aD (wL Z) Z<|aH Z<|aP<|aY ?_;exact iK ((!a2)) () h (.inl Z) (BR.r1 Z (RV.tmp Z)) Z (aR.refl _) (aE.refl _ _)
         intro I an h;refine aP ?_;refine Bf h Z (λ_ h=>?_) λ_ h=>?_
         ·refine aX<|aB Z<|aH Z<|aP<|aY<|cE<|aL<|aL<|cE<|aL ?_;exact iK (n) () h (.inl Z) (BR.r1 Z (RV.tmp Z)) Z (aR.refl _) (aE.refl _ _)
         refine fV<|oV<|aT<|dK Z<|aB Z<|aP ?_;exact Bw (wI .i64 (n+(1:Int))) () h SF Z
        refine gC ?_;exact kC () (()) h SF Z
       intro ac ax h;unfold sR at h;refine aX<|aH Z<|aP<|aY ?_;exact iK (-1:Int) () h (.inl Z) (BR.r1 Z (RV.tmp Z)) Z (aR.refl _) (aE.refl _ _)
      intro E am h;unfold qB at h;refine aD (BS Z Z) Z<|aH Z<|aP<|aY ?_;exact iK (decide ((0:Int)<=E)) () h (.inl Z) (BR.r1 Z (RV.tmp Z)) Z (aR.refl _) (aE.refl _ _)
     intro H al h;refine aP ?_;refine Bf h Z (λ_ h=>?_) λ_ h=>?_
     ·refine aX<|aH Z<|aP<|aY<|cE<|aL<|aL<|cE<|cE<|aL<|aL<|cE<|aL ?_;cases h;exact zJ Z
     refine fV<|oV<|aT<|dK Z<|aB Z<|aP ?_;exact Bw (wI .i64 (b+(1:Int))) () h SF Z
    refine vH<|gR<|gR<|Am<|oV ?_;exact cK () (()) h SF (aR.ix [1,2,3,4,5] Z Z) (aE.refl _ _)
   intro ab ar h;unfold xG at h;refine aT<|dK Z<|aB Z<|aP ?_;exact Bw (wI .i64 (a+(1:Int))) () h SF Z
  refine gC ?_;exact cK () (()) h SF .nil (aE.refl _ _)
 intro aa ap h;unfold xF at h;refine aX<|aH Z<|aP<|aY ?_;cases h;exact mN Z
end Go.Proofs.YtflciafboapaaaaGreat
namespace Go.Proofs.YtflciafboapaaaaGreat
open Go Go.Sx
def By (n:Nat) (b:Nat->Bool):Bool:=(List.range n).all b
theorem oE {n:Nat} {b:Nat->Bool}:By n b=true↔∀k,k<n->b k=true:=by simp[By]
theorem Nu {n:Nat} {b:Nat->Bool} (h:¬By n b=true):∃m,m<n∧b m=false∧∀j,j<m->b j=true:=by
 have g:∃k,k<n∧b k=false:=Classical.byContradiction λq=>h (oE.2 λk a=>by
  cases e:b k
  ·exact absurd ⟨k,a,e⟩ q
  ·rfl)
 obtain⟨k,a,e⟩:=g;obtain⟨m,i,c,d⟩:=NL (p:=λk=>b k=false) k e;exact⟨m,by omega,c,λj f=>by
  cases e:b j
  ·exact absurd e (d j f)
  ·rfl⟩
theorem uH {B:Type} {n:Nat} {b:Nat->Bool} {a:Int->(Int->Option B)->Option B} {z:B} {K:Option B}
  (e:∀(k:Nat) c,k<n->a (k:Int) c=if b k=true then c ((k+1:Nat):Int)else some z) (l:∀c,a (n:Int) c=K) (o:n<1000):bP a 1000 0=if By n b=true then K else some z:=by
 by_cases h:By n b=true
 ·rw[if_pos h];have f:=oE.1 h;exact dY n (λk=>(k:Int)) (λk c d=>by rw[e k c d,if_pos (f k d)]) l 1000 o
 ·rw[if_neg h];obtain⟨m,g,i,j⟩:=Nu h;exact dY m (λk=>(k:Int)) (λk c d=>by rw[e k c (by omega),if_pos (j k d)]) (λc=>by rw[e m c g,if_neg (by rw[i];decide)]) 1000 (by omega)
theorem ifB (b:Bool):(if b=true then some true else some false)=some b:=by cases b<;>rfl
def GU (g:GR) (a:List zY) (v:Nat) (l:bT):Bool:=decide (l.length=a.length)&&By a.length λx=>decide ((yV g a v x).1<=at' l (x:Int)∧at' l (x:Int)<=(yV g a v x).2)
def Yg (g:GR) (a:List zY) (c:bM):Bool:=decide (c.length=g.2.length)&&By g.2.length λv=>GU g a v (at' c (v:Int))
section
variable {g:GR} {vars:List zY} {p:BQ}
theorem WB (i:vars.length<=20) (v:Nat) (l:List Int):mX 1000 (Bb g vars v) l=some (GU g vars v l):=by
 have c:(Bb g vars v).length=vars.length:=by simp[Bb]
 unfold mX GU;by_cases h:l.length=vars.length
 ·rw[if_neg (by rw[c,h];simp),zAd h,zBb,<-ifB];refine uH (λk d f=> ?_) (λd=> ?_) (by omega)
  ·have e:at' (Bb g vars v) (k:Int)=yV g vars v k:=rB _ f;unfold kD rA;rw[if_pos (by omega),dD (by omega),dD (by omega),e];by_cases a:at' l (k:Int)<(yV g vars v k).1
   ·rw[if_pos a,if_pos Z,if_neg (by rw[zA7];omega)]
   ·rw[if_neg a,dD (by omega)];by_cases b:(yV g vars v k).2<at' l (k:Int)
    ·rw[zAd b,if_pos Z,if_neg (by rw[zA7];omega)]
    ·rw[zA6 b,if_neg (by decide),if_pos (by rw[zA7];omega),eI (by omega)]
  ·unfold kD q_;rw[if_neg (by omega)]
 ·rw[if_pos (by rw[c];omega),zA6 h,Bool.false_and]
theorem UG (a:VG g) (b:jV g p.2.1) (c:List (List Int)):fC 1000 p g c=some (if Yg g p.2.1 c=true then 0 else 10):=by
 have f:=a.n24;have d:(qU g p.2.1).length=g.2.length:=by simp[qU]
 unfold fC;rw[bN (show mH 1000 _ _=some 0 from Mc a b),if_neg (by decide),bN (show fL 1000 _ _=_ from Cd a b)];have:nU 1000 (qU g p.2.1) c=some (Yg g p.2.1 c):=by
  unfold nU Yg;by_cases h:c.length=g.2.length
  ·rw[if_neg (by rw[d,h];simp),zAd h,zBb,<-ifB];refine uH (λk e i=> ?_) (λe=> ?_) (by omega)
   ·have j:at' (qU g p.2.1) (k:Int)=Bb g p.2.1 k:=rB _ i;unfold kT;rw[if_pos (by omega),dD (by omega),dD (by omega),j,bN (WB b.len k _),eI (by omega)];cases GU g p.2.1 k (at' c (k:Int))<;>rfl
   ·unfold kT pR;rw[if_neg (by omega)]
  ·rw[if_pos (by rw[d];omega),zA6 h,Bool.false_and]
 rw[bN this];cases Yg g p.2.1 c<;>rfl
theorem VH (a:VG g) (b:jV g p.2.1) (c:List (List Int)):jW 1000 p g c=some (Yg g p.2.1 c):=by
 unfold jW;rw[bN (show fC 1000 _ _ _=_ from UG a b c)];cases Yg g p.2.1 c<;>rfl
end
def wiB (g:GR) (a:List zY) (b:Int) (y:wK) (v i:Nat):Bool:=GU g a (oY g v i) (mG y.2.1 v i)&&(decide (((mG y.2.2 v i).length:Int)<=b)&&By (mG y.2.2 v i).length λk=>GU g a v (at' (mG y.2.2 v i) (k:Int)))
def rvB (g:GR) (a:List zY) (b:Int) (y:wK) (v:Nat):Bool:=decide ((at' y.2.1 (v:Int)).length=(row g v).length)&&(decide ((at' y.2.2 (v:Int)).length=(row g v).length)&&By (row g v).length (wiB g a b y v))
def OE (g:GR) (a:List zY) (cap:Int) (y:wK):Bool:=Yg g a y.1&&(decide (1<=cap∧cap<=8)&&(decide (y.2.1.length=g.2.length)&&(decide (y.2.2.length=g.2.length)&&By g.2.length (rvB g a cap y))))
section
variable {g:GR} {p:BQ}
theorem Kc (hV:VG g) (hp:jV g p.2.1) (cap:Int) (y:wK):kZ 1000 p g cap y=some (OE g p.2.1 cap y):=by
 have h24:=hV.n24;have ht:(qU g p.2.1).length=g.2.length:=by simp[qU]
 have one:∀(v:Nat) (l:List Int),v<g.2.length->nV 1000 (v:Int) l (qU g p.2.1)=some (GU g p.2.1 v l):=λv l hv=>by
  have hr:at' (qU g p.2.1) (v:Int)=Bb g p.2.1 v:=rB _ hv;unfold nV;rw[dD (by omega),hr,bN (WB hp.len v l)]
 unfold kZ OE;rw[bN (show jW 1000 _ _ _=_ from VH hV hp y.1)];cases hc:Yg g p.2.1 y.1
 ·rfl
 rw[if_neg (by decide),zBb];by_cases h1:cap<1
 ·rw[if_pos h1,zA6 (p:=1<=cap∧cap<=8) (by omega)];rfl
 rw[if_neg h1];by_cases h2:8<cap
 ·rw[zAd h2,zA6 (p:=1<=cap∧cap<=8) (by omega)];rfl
 rw[zA6 h2,zAd (p:=1<=cap∧cap<=8) (by omega),zBb];unfold sQ;rw[if_neg (by decide)];by_cases h3:y.2.1.length=g.2.length
 rotate_left
 ·rw[if_pos (by omega),zA6 h3];rfl
 rw[if_neg (by omega),zAd h3,zBb];by_cases h4:y.2.2.length=g.2.length
 rotate_left
 ·rw[zA6 h4,show decide ((y.2.2.length:Int)≠(g.2.length:Int))=true from zAd (by omega)];rfl
 rw[zAd h4,zBb,show decide ((y.2.2.length:Int)≠(g.2.length:Int))=false from zA6 (by omega)];unfold xE;rw[if_neg (by decide),bN (show fL 1000 _ _=_ from Cd hV hp),<-ifB];refine uH (λv ag hv=> ?_) (λag=> ?_) (by omega)
 rotate_left
 ·unfold fM xF;rw[if_neg (by omega)]
 have hdeg:=(hV.node v hv).deg;have hrow:at' g.2 (v:Int)=row g v:=rfl;unfold fM rvB;rw[if_pos (by omega),dD (by omega),dD (by omega),hrow];by_cases h5:(at' y.2.1 (v:Int)).length=(row g v).length
 rotate_left
 ·rw[if_pos (by omega),zA6 h5,Bool.false_and,if_neg (by decide)];rfl
 rw[if_neg (by omega),dD (by omega),zAd h5,zBb];by_cases h6:(at' y.2.2 (v:Int)).length=(row g v).length
 rotate_left
 ·rw[zA6 h6,Bool.false_and,if_neg (by decide),show decide (((at' y.2.2 (v:Int)).length:Int)≠((row g v).length:Int))=true from zAd (by omega)];rfl
 rw[zAd h6,zBb,show decide (((at' y.2.2 (v:Int)).length:Int)≠((row g v).length:Int))=false from zA6 (by omega)];unfold xH;rw[if_neg (by decide)];refine uH (λi ag2 hi=> ?_) (λag2=> ?_) (by omega)
 rotate_left
 ·unfold iF xG;rw[hrow,if_neg (by omega),eI (by omega)]
 have hto:=yG hV hv hi;have hul:=(tU hV hv hi).ul;have hl1:at' (row g v) (i:Int)=iP (row g v) i:=rfl;unfold iF wiB;rw[hrow,if_pos (by omega),dD (by omega),dD (by omega),dD (by omega),dD (by omega),dD (by omega),hl1,hto,bN (one _ _ hul)];have e1:at' (at' y.2.1 (v:Int)) (i:Int)=mG y.2.1 v i:=rfl;have e2:at' (at' y.2.2 (v:Int)) (i:Int)=mG y.2.2 v i:=rfl;rw[e1,e2];cases GU g p.2.1 (oY g v i) (mG y.2.1 v i)
 ·rfl
 rw[if_neg (by decide),zBb];unfold xI;by_cases h7:((mG y.2.2 v i).length:Int)<=cap
 rotate_left
 ·rw[zA6 h7,Bool.false_and,if_pos (by rw[zA7];omega),if_neg (by decide)]
 rw[zAd h7,zBb,if_neg (by rw[zA7];omega)];have key:bP (qC 1000 y (qU g p.2.1) (v:Int) (i:Int) ag2) 1000 0=if By (mG y.2.2 v i).length (λk=>GU g p.2.1 v (at' (mG y.2.2 v i) (k:Int)))=true then sR (i:Int) ag2 ()else some false:=by
  refine uH (λk ag3 hk=> ?_) (λag3=> ?_) (by omega)
  ·unfold qC;rw[e2,if_pos (by omega),dD (by omega),bN (show nV 1000 _ _ _=_ from one v _ hv)];unfold zI;cases GU g p.2.1 v (at' (mG y.2.2 v i) (k:Int))
   ·rw[if_pos (by decide),if_neg (by decide)];unfold qB xJ;rw[if_pos (by rw[zA7];omega)]
   ·rw[if_neg (by decide),if_pos (by decide),eI (by omega)]
  ·unfold qC;rw[e2,if_neg (by omega)]
 refine key.trans ?_;unfold sR qB xJ;rw[if_neg (show¬decide ((0:Int) <= -1)=true by decide),eI (by omega)]
end
end Go.Proofs.YtflciafboapaaaaGreat
namespace Go.Proofs.YtflciafboapaaaaGreat
open Go.Sx
def vL (a:Fb) (b:rD):Option Cg:=
 some (a.1,a.2.1,b.1,a.2.2,b.2.1,b.2.2)
def qS (b:Fb) (c:bM) (a:List bM×List (List bM)):Option Cg:=
 vL b (c,a.1,a.2)
def vM (a:Int×List bM×List (List bM)) (c:(Int×List bM×List (List bM))->Option Cg) (d:bM) (b:oP):Option Cg:=
 ck ((a.2.2.length:Int)+(List.length ([b]):Int)<=1099511627) (c ((wI .i64 (a.1+(1:Int))),(a.2.1++[d]),(a.2.2++[b])))
def nD (U:Nat) (f:rD) (b:Int×List bM×List (List bM)) (e:(Int×List bM×List (List bM))->Option Cg) (g:bM) (a:List bM×Int) (d:(List bM×Int)->Option Cg):Option Cg:=
 if a.2<((at' f.2.2 b.1).length:Int)then(ck (0<=a.2∧a.2<((at' f.2.2 b.1).length:Int)) (Option.bind (jU U (at' (at' f.2.2 b.1) a.2)) λc=>(ck ((a.1.length:Int)+(List.length ([c]):Int)<=1099511627) (d ((a.1++[c]),(wI .i64 (a.2+(1:Int))))))))else(vM b e g (a.1))
def jI (U:Nat) (c:rD) (e:Fb) (f:bM) (a:Int×List bM×List (List bM)) (b:(Int×List bM×List (List bM))->Option Cg):Option Cg:=
 if a.1<(c.2.1.length:Int)then(ck (0<=a.1∧a.1<(c.2.1.length:Int)) (Option.bind (jU U (at' c.2.1 a.1)) λd=>(ck ((a.2.1.length:Int)+(List.length ([d]):Int)<=1099511627) (ck (0<=a.1∧a.1<(c.2.2.length:Int)) (bP (nD U c a b d) U (([]:oP),(0:Int)))))))else(qS e f (a.2.1,a.2.2))
def qR (U:Nat) (c:rD) (a:Fb):Option Cg:=
 Option.bind (jU U c.1) λb=>(bP (jI U c a b) U ((0:Int),([]:oP),([]:Br)))
def qT (U:Nat) (c:jX) (d:dL) (e:rD) (a:xQ):Option Cg:=
 Option.bind (fL U ((c.1,c.2.1,c.2.2)) ((d.1,d.2))) λb=>(qR U e (b,a.1,a.2))
def nC (U:Nat) (b:jX) (c:dL) (d:rD) (a:xQ):Option Cg:=
 qT U b c d (a.1,a.2)
def vN (d:dL) (a:GK) (b:Cf->Option Cg) (c:bM):Option Cg:=
 b ((wI .i64 (a.1+(1:Int))),(max a.2.1 (at' d.1 a.1)),c)
def vO (U:Nat) (f:dL) (a:GK) (d:Cf->Option Cg) (b:xQ) (e:Ei->Option Cg):Option Cg:=
 if b.1<((at' f.2 a.1).length:Int)then(ck (0<=b.1∧b.1<((at' f.2 a.1).length:Int)) (ck (0<=a.1∧a.1<(b.2.length:Int)) (Option.bind (iY U ((f.1,f.2)) ((at' (at' f.2 a.1) b.1).1) a.1) λc=>(ck (((at' b.2 a.1).length:Int)+(List.length ([c]):Int)<=1099511627) (ck (0<=a.1∧a.1<((List.set b.2 (Int.toNat a.1) ((at' b.2 a.1)++[c])).length:Int)) (e ((wI .i64 (b.1+(1:Int))),(List.set b.2 (Int.toNat a.1) ((at' b.2 a.1)++[c])))))))))else(vN f a d (b.2))
def nE (U:Nat) (d:jX) (c:dL) (e:rD) (a:GK) (b:Cf->Option Cg):Option Cg:=
 if a.1<(c.2.length:Int)then(ck (0<=a.1∧a.1<(c.2.length:Int)) (ck (0<=a.1∧a.1<(c.1.length:Int)) (bP (vO U c a b) U ((0:Int),a.2.2))))else(nC U d c e (a.2.1,a.2.2))
def gU (U:Nat) (b:jX) (a:dL) (d:Int) (c:rD):Option Cg:=
 ck (0<=(a.2.length:Int)∧(a.2.length:Int)<=1099511627) (bP (nE U b a c) U ((0:Int),(0:Int),(List.replicate (Int.toNat (a.2.length:Int)) ([]:bT))))
theorem Pu:bB Tryz.prog 56:=Tryz.call56
theorem xN (U:Nat) {p0:jX} {p1:dL} {p2:Int} {E:rD} (m:Value)  (n:Value)  (s:Value)  (p:Value)  (z4:iZ)  (L:Value)  (z6:jY)  (P:Value)  (z8:If)  (Q:Value)  (W:Ie) (r:FE) (h:gU U p0 p1 p2 E=some r):
  bO Tryz.prog 56 #[Value.agg #[vS (p0.1),m,n],Value.agg #[s,p],vI (p2),Value.agg #[L,P,Q]] [Sl aG m p0.2.1,Sl aC n p0.2.2,PF (Value.agg #[vS p0.1,m,n]),Sl aJ s p1.1,S2 aW p z4 p1.2,S2 aJ L z6 E.1,S3 aJ P z8 E.2.1,S4 aJ Q W E.2.2] (λg:Nat×Nat×Value×Value×Value×List Value×Nat×Value×List Value×Value×List Value×List Value×List (List Value)×List Value×List (List Value)×List (List (List Value))=>vP g.1) (λg l=>bI g.1 [s,p,vI (p2),vP g.2.1,g.2.2.1,g.2.2.2.1,g.2.2.2.2.1] 108::Ar aZ.raw g.2.2.1 g.2.2.2.2.2.1::bI g.2.1 [vS (p0.1),m,n,vP g.2.2.2.2.2.2.1,g.2.2.2.2.2.2.2.1] 157::Ar aZ.raw g.2.2.2.2.2.2.2.1 g.2.2.2.2.2.2.2.2.1::eH bD g.2.2.2.2.2.2.2.2.1 r.1::bI g.2.2.2.2.2.2.1 [vS (p0.1),m,n,s,p,vI (r.2.1),g.2.2.2.2.2.2.2.2.2.1] 206::Ar aZ.raw g.2.2.2.2.2.2.2.2.2.1 g.2.2.2.2.2.2.2.2.2.2.1::Ar aZ.raw g.2.2.2.1 g.2.2.2.2.2.2.2.2.2.2.2.1::eH aZ.raw g.2.2.2.2.2.2.2.2.2.2.2.1 g.2.2.2.2.2.2.2.2.2.2.2.2.1::Ar aZ.raw g.2.2.2.2.1 g.2.2.2.2.2.2.2.2.2.2.2.2.2.1::rJ aZ.raw g.2.2.2.2.2.2.2.2.2.2.2.2.2.1 g.2.2.2.2.2.2.2.2.2.2.2.2.2.2.1 g.2.2.2.2.2.2.2.2.2.2.2.2.2.2.2::l) (λg l=>mM aJ g.2.2.2.2.2.1 r.2.2.1::mM aJ g.2.2.2.2.2.2.2.2.2.2.1 r.2.2.2.1::yH aJ g.2.2.2.2.2.2.2.2.2.2.2.2.1 r.2.2.2.2.1::Ai aJ g.2.2.2.2.2.2.2.2.2.2.2.2.2.2.2 r.2.2.2.2.2::l):=by
 refine bO.of Tryz.func56 Z Tryz.ntmps56 Z λc=>?_;refine aX<|aI (aN.box (cs:=[vS (p0.1),m,n]) Z Z) Z λS=>aI (aN.box (cs:=[s,p]) Z Z) Z λT=>aI (aN.box (cs:=[L,P,Q]) Z Z) Z λV=>aH Z<|aP<|aM ?_;refine JR.start [0,0,0,0,12,0,60,127,255,511] 7 mixedOrders (by decide +kernel) ?_;refine zBf (by exact rfl) ?_;refine gE 1 Z<|a_ Z<|gE 2 Z<|gE 1 Z<|Ci (A:=Fb) (B:=WI) (vs:=[Value.agg #[vS (p0.1),m,n],Value.agg #[s,p]]) (λo=>qR U E o=some r) (λo a=>vP a.1) (λo a=>[bI a.1 [vS (p0.1),m,n,vP a.2.1,a.2.2.1] 157,Ar aZ.raw a.2.2.1 a.2.2.2.1,eH bD a.2.2.2.1 o.1,bI a.2.1 [vS (p0.1),m,n,s,p,vI (o.2.1),a.2.2.2.2.1] 206,Ar aZ.raw a.2.2.2.2.1 a.2.2.2.2.2,eH eC a.2.2.2.2.2 o.2.2,bI V [L,P,Q] 43,bI T [s,p] 31,bI S [vS (p0.1),m,n] 36]) (λo a=>[Sl aG m p0.2.1,Sl aC n p0.2.2,PF (Value.agg #[vS p0.1,m,n]),Sl aJ s p1.1,S2 aW p z4 p1.2,S2 aJ L z6 E.1,S3 aJ P z8 E.2.1,S4 aJ Q W E.2.2]) Z Z Z (mO.fn (show bB Tryz.prog 78 from Tryz.call78) Z) Tryz.func78 Z Tryz.ntmps78 Z Z (λ_ _=>(nL [([7],[])] Z)) ?_ ?_
 ·refine aX<|aI (aN.box (cs:=[vS (p0.1),m,n]) Z Z) Z λaf=>aI (aN.box (cs:=[s,p]) Z Z) Z λag=>aH Z<|aP<|aM ?_;refine JR.start [0,0,0,6,0,0,62,127,255,511] 7 mixedOrders (by decide +kernel) ?_;refine zBf (by exact rfl) ?_;refine gE 1 Z<|gE 1 Z<|gE 0 Z<|Ci (A:=xQ) (B:=Nat×Value×List Value) (vs:=[Value.agg #[vS (p0.1),m,n],Value.agg #[s,p]]) (λI=>qT U p0 p1 E I=some r) (λI y=>vP y.1) (λI y=>[bI y.1 [vS (p0.1),m,n,s,p,vI (I.1),y.2.1] 206,Ar aZ.raw y.2.1 y.2.2,eH eC y.2.2 I.2,bI ag [s,p] 31,bI af [vS (p0.1),m,n] 36,bI V [L,P,Q] 43,bI T [s,p] 31,bI S [vS (p0.1),m,n] 36]) (λI y=>[Sl aG m p0.2.1,Sl aC n p0.2.2,PF (Value.agg #[vS p0.1,m,n]),Sl aJ s p1.1,S2 aW p z4 p1.2,S2 aJ L z6 E.1,S3 aJ P z8 E.2.1,S4 aJ Q W E.2.2]) Z Z Z (mO.fn (show bB Tryz.prog 120 from Tryz.call120) Z) Tryz.func120 Z Tryz.ntmps120 Z Z (λ_ _=>(nL [([4],[])] Z)) ?_ ?_
  ·refine aX<|aI (aN.box (cs:=[vS (p0.1),m,n]) Z Z) Z λb1=>aI (aN.box (cs:=[s,p]) Z Z) Z λaa=>aH Z<|aP<|aM ?_;refine JR.start [0,0,0,4,12,28,63,127,255] 6 mixedOrders (by decide +kernel) ?_;refine zBf (by exact rfl) ?_;refine gE 1 Z<|gE 0 Z<|cD Z<|fI 0 Z<|bQ Z .nil (mK 4 Z) (eP Z (aA.fact 0 Z) Z) aO.z<|eB h λbw h=>zBg (lC eC (Int.toNat (p1.2.length:Int)))<|zBd Z Z Z (jD (e:=aZ.raw) (cJ) Z Z Z Z bw Z Z Z) Z (λG=>(nL [([2],[]),([3],[])] Z)) λG=>bS 6 Z Z<|aQ (Know.one (aA.sl (bZ (i:=0) (j:=1) Z Z fO))) λbm=>?_;refine aD (Cq (r:=Value.agg #[vS (p0.1),m,n,s,p,vI (0:Int),G]) Z Z Z (by intro w;simp[Instr.build,Instr.fill,dO,cV,cL,dQ,dR,cW,eN,dG bm])) Z ?_;refine aI (aN.box (cs:=[vS (p0.1),m,n,s,p,vI (0:Int),G]) Z Z) Z λJ=>aH Z<|aP<|aM<|DN (B:=cR) (λM=>nC U p0 p1 E M=some r) (λM ah=>[(5,vP J)]) (λM ah=>[bI J [vS (p0.1),m,n,s,p,vI (M.1),G] 206,Ar aZ.raw G ah,eH eC ah M.2,bI ag [s,p] 31,bI af [vS (p0.1),m,n] 36,bI V [L,P,Q] 43,bI T [s,p] 31,bI S [vS (p0.1),m,n] 36]) ?_ ?_
   ·refine aX<|cA Z<|eW 3 Z<|aD (eP Z (aA.fact 4 Z) Z) Z<|aB Z<|aP<|aV<|iI (B:=cR) (nE U p0 p1 E) (λd ab=>[(3,vP aa),(5,vP J),(19,p),(20,vI (p1.2.length:Int)),(21,vI (d.1))]) (λd ab=>[bI J [vS (p0.1),m,n,s,p,vI (d.2.1),G] 206,Ar aZ.raw G ab,eH eC ab d.2.2,bI aa [s,p] 31,bI ag [s,p] 31,bI af [vS (p0.1),m,n] 36,bI V [L,P,Q] 43,bI T [s,p] 31,bI S [vS (p0.1),m,n] 36]) ((0:Int),(0:Int),(List.replicate (Int.toNat (p1.2.length:Int)) ([]:bT))) (List.replicate (Int.toNat (p1.2.length:Int)) (cJ)) h SF (aR.ix [0,1,2,3,5,6,7,8,9] Z Z) ?_;intro bc d ab h;refine aX<|dM Z<|aP<|aM ?_;refine f_ h Z (λh=>?_) λh=>?_
    ·refine dC<|aM<|DN (B:=cR) (λY=>vN p1 d (bP (nE U p0 p1 E) bc) Y=some r) (λY ai=>[(3,vP aa),(5,vP J),(19,p),(20,vI (p1.2.length:Int)),(21,vI (d.1))]) (λY ai=>[bI J [vS (p0.1),m,n,s,p,vI (max d.2.1 (at' p1.1 d.1)),G] 206,Ar aZ.raw G ai,eH eC ai Y,bI aa [s,p] 31,bI ag [s,p] 31,bI af [vS (p0.1),m,n] 36,bI V [L,P,Q] 43,bI T [s,p] 31,bI S [vS (p0.1),m,n] 36]) ?_ ?_
     ·refine aV<|aX<|aB Z<|eB h λN h=>aD (bV Z Z (aA.fact 4 Z) Z Z N) Z<|aD (cM Z (aA.fact 4 Z) Z Z N) Z<|aH Z<|aH Z<|aP<|aM ?_;refine JR.start [0,0,2,6,14,0,32,0,224,480,1022,2047,4095,8191] 11 mixedOrders (by decide +kernel) ?_;refine zBf (by exact rfl) ?_;refine a_ Z<|a_ Z<|i_ Z (bE Z)<|cD Z<|fI 0 Z<|cD Z<|fI 3 Z<|a_ Z<|eB h λba h=>bQ Z .nil (mK 3 Z) (b_ Z Z (aA.fact 0 Z) Z Z ba) aO.z<|bQ Z .nil (mK 3 Z) (dJ Z (aA.fact 0 Z) Z Z Z gX ba) aO.z<|i_ Z (I_ Z Z)<|bS 11 Z Z<|aD (bE Z) Z<|cA Z<|pE 0 Z Z Z Z Z Z<|aP<|aX<|aB Z<|aD (gY Z (zBe (aA.fact 4 Z) N.1 N.2) Z) Z<|aB Z<|aP<|aV<|iI (B:=cR) (vO U p1 d (bP (nE U p0 p1 E) bc)) (λF ac=>[(3,vP aa),(5,vP J),(6,vI (d.1)),(19,p),(20,vI (p1.2.length:Int)),(21,vI (d.1)),(39,(at' z4 d.1).1),(40,vI ((at' p1.2 d.1).length:Int)),(41,vI (F.1))]) (λF ac=>[bI J [vS (p0.1),m,n,s,p,vI (max d.2.1 (at' p1.1 d.1)),G] 206,Ar aZ.raw G ac,eH eC ac F.2,bI aa [s,p] 31,bI ag [s,p] 31,bI af [vS (p0.1),m,n] 36,bI V [L,P,Q] 43,bI T [s,p] 31,bI S [vS (p0.1),m,n] 36]) ((0:Int),d.2.2) (ab) h SF (aR.refl _) ?_;intro b4 F ac h;refine aX<|dM Z<|aP<|aM ?_;refine f_ h Z (λh=>?_) λh=>?_
      ·refine dC<|aM<|aV<|aX<|eB h λbb h=>aD (b_ Z Z (zBe (aA.fact 4 Z) N.1 N.2) Z Z bb) Z<|aD (fN (cs:=[vI ((at' (at' p1.2 d.1) F.1).1),vI ((at' (at' p1.2 d.1) F.1).2)]) Z (zBe (aA.fact 4 Z) N.1 N.2) bG Z Z Z Z bb) Z<|aI (aN.alloc (cs:=MV) Z Z) Z λb2=>bL 0 (vs:=[vI ((at' (at' p1.2 d.1) F.1).1),vI ((at' (at' p1.2 d.1) F.1).2)]) Z Z Z Z Z Z<|aP ?_;refine JR.start [0,1,3,7,0,0,32,96,224,0,992,2016,0,0,8192,0,61440,126976,262112,524287,1048575] 19 mixedOrders (by decide +kernel) ?_;refine zBf (by exact rfl) ?_;refine a_ Z<|i_ Z (bE Z)<|cD Z<|fI 1 Z<|a_ Z<|a_ Z<|i_ Z (bE Z)<|cD Z<|fI 1 Z<|a_ Z<|eB h λaq h=>aU (cH 3 Z) λbg=>?_;refine bQ Z (aR.cons 2 Z .nil) .nil (iO 0 Z Z Z Z Z aq.1 (by have q1:=aq.2;have q2:=bg;(try simp only[zA1]at q1);(try simp only[zA1]at q2);(try simp only[zA1]);omega)) aO.z ?_;refine aU (cH 3 Z) λbh=>bQ Z (aR.cons 2 Z .nil) .nil (eR 0 Z Z bh Z Z aq) aO.z<|gE 4 Z<|cD Z<|fI 0 Z<|a_ Z<|fZ h λam bN h=>zBd Z Z Z (zBc Iu (xL U s p z4 am bN) Z (g_ [3,4] Z)) Z (λbR=>(nL [([2],[]),([2],[]),([1],[]),([1],[])] Z)) λbR=>zBd Z Z Z (cU (e:=eC) ([am]) [(0,vI (am))] Z Z Z Z (uF (vI (am)) Z) Z Z Z) Z (λbH=>(nL [([3],[]),([3],[]),([2],[]),([2],[])] Z)) λbH=>eB h λbx h=>zBd Z Z Z (lV 4 fO Z Z Z (cB (aA.res 0 Z) fO) Z Z Z Z aq bx Z) Z (λbf=>(nL [([2],[])] Z)) λbf=>bS 19 Z Z<|eB h λO h=>aQ (cH 4 Z) λbi=>?_;refine aD (iO 3 Z Z Z Z Z O.1 (by have q1:=O.2;have q2:=bi;(try simp only[zA1]at q1);(try simp only[zA1]at q2);(try simp only[zA1]);omega)) Z ?_;refine aQ (vR 4 (k:=d.1) Z ⟨O.1,by first|exact O.2|simpa using O.2⟩) λbn=>?_;refine mP 3 4 ⟨O.1,by first|exact O.2|simpa using O.2⟩ Z Z Z Z Z (by simp) bn Z ?_;refine fH<|oV<|aT<|dK Z<|aB Z<|aP ?_;exact iN ((wI .i64 (F.1+(1:Int))),(List.set F.2 (Int.toNat d.1) ((at' F.2 d.1)++[am]))) (List.set ac (Int.toNat d.1) bf) h SF (aR.ix [2,3,4,5,6,7,8,9,10] Z Z) (aE.refl _ _)
      refine vH<|gR<|gR<|Am<|oV ?_;exact kC (F.2) (ac) h SF Z
     intro Y ai h;unfold vN at h;refine aT<|dK Z<|aB Z<|aP ?_;exact Bw ((wI .i64 (d.1+(1:Int))),(max d.2.1 (at' p1.1 d.1)),Y) (ai) h SF Z
    refine gC ?_;exact cK (d.2.1,d.2.2) (ab) h SF (aR.ix [0,1,2,4,5,6,7,8] Z Z) (aE.refl _ _)
   intro M ah h;unfold nC at h;refine aX<|aB Z<|aH Z<|aP<|aY ?_;exact iK (M.1,M.2) (J,G,ah) h (.inl Z) (BR.r1 Z (RV.tmp Z)) Z (aR.refl _) (aE.refl _ _)
  intro I y h;unfold qT at h;refine bQ Z (aR.cons 4 Z .nil) .nil (dX 0 Z Z Z Z) (aO.h (aR.ix [1] Z Z) .nil aO.z)<|bQ Z (aR.cons 3 Z .nil) .nil (dX 0 Z Z Z Z) (aO.h (aR.ix [0] Z Z) .nil aO.z)<|fZ h λbe bM h=>zBd Z Z Z (zBc Je (sU U m n s p z4 be bM) Z (g_ [0,1,2,3,4] Z)) Z (λap=>(nL [([6],[])] Z)) λap=>bS 7 Z Z<|aQ (Know.one (aA.sl (bZ (i:=0) (j:=1) Z Z bG))) λbl=>?_;refine aD (Cq (r:=Value.agg #[vS (p0.1),m,n,Value.pointer (some ⟨y.1,0,none⟩),ap.1]) Z Z Z (by intro w;simp[Instr.build,Instr.fill,dO,cV,cL,dQ,dR,cW,eN,dG bl])) Z ?_;refine aI (aN.box (cs:=[vS (p0.1),m,n,vP y.1,ap.1]) Z Z) Z λbo=>aH Z<|aP<|aY ?_;exact iK (be,I.1,I.2) (bo,y.1,ap.1,ap.2,y.2.1,y.2.2) h (.inl Z) (BR.r1 Z (RV.tmp Z)) Z (aR.ix [0,1,2,3,4,5,8,9,10] Z Z) (aE.refl _ _)
 intro o a h;unfold qR at h;refine bQ Z (aR.cons 6 Z .nil) .nil (dX 0 Z Z Z Z) (aO.h (aR.ix [0] Z Z) .nil aO.z)<|Ci (A:=rD) (B:=Value×Value×Value×List Value×List Value×List (List Value)×List Value×List (List Value)×List (List (List Value))) (vs:=[Value.agg #[L,P,Q]]) (λae=>vL o ae=some r) (λae f=>Value.agg #[f.1,f.2.1,f.2.2.1]) (λae f=>[Ar aZ.raw f.1 f.2.2.2.1,bI a.1 [vS (p0.1),m,n,vP a.2.1,a.2.2.1] 157,Ar aZ.raw a.2.2.1 a.2.2.2.1,eH bD a.2.2.2.1 o.1,bI a.2.1 [vS (p0.1),m,n,s,p,vI (o.2.1),a.2.2.2.2.1] 206,Ar aZ.raw a.2.2.2.2.1 a.2.2.2.2.2,bI V [L,P,Q] 43,bI T [s,p] 31,bI S [vS (p0.1),m,n] 36,Ar aZ.raw f.2.1 f.2.2.2.2.1,eH aZ.raw f.2.2.2.2.1 f.2.2.2.2.2.1,Ar aZ.raw f.2.2.1 f.2.2.2.2.2.2.1,rJ aZ.raw f.2.2.2.2.2.2.1 f.2.2.2.2.2.2.2.1 f.2.2.2.2.2.2.2.2]) (λae f=>[mM aJ f.2.2.2.1 ae.1,mM aJ a.2.2.2.2.2 o.2.2,Sl aG m p0.2.1,Sl aC n p0.2.2,PF (Value.agg #[vS p0.1,m,n]),Sl aJ s p1.1,S2 aW p z4 p1.2,S2 aJ L z6 E.1,S3 aJ P z8 E.2.1,S4 aJ Q W E.2.2,yH aJ f.2.2.2.2.2.1 ae.2.1,Ai aJ f.2.2.2.2.2.2.2.2 ae.2.2]) Z Z Z (mO.fn (show bB Tryz.prog 101 from Tryz.call101) Z) Tryz.func101 Z Tryz.ntmps101 Z Z (λ_ _=>(nL [([7],[])] Z)) ?_ ?_
 ·refine aX<|aI (aN.box (cs:=[L,P,Q]) Z Z) Z λar=>cG (eQ 6 Z (oC (j:=0) Z fO))<|aI (aN.alloc (cs:=[cJ,cJ,cJ]) Z Z) Z λaj=>aP<|aX<|cA Z<|eW 1 Z<|fZ h λX bY h=>aI (zBc He (rO U L z6 X bY) Z (g_ [6] Z)) Z λD=>cG (eQ 1 Z (oC (j:=0) Z fO))<|aQ (Know.one (aA.sl (bF (i:=0) (j:=0) Z Z))) λbq=>?_;refine aD (Pm (r:=Value.agg #[D.1,cJ,cJ]) Z (by intro w;simp[Instr.build,Instr.fill,dO,cV,cL,dQ,dR,cW,eN,dG bq])) Z ?_;refine aI (aN.alloc (cs:=[cJ,cJ,cJ]) Z Z) Z λak=>aQ (Know.one (aA.sl (bF (i:=1) (j:=0) Z Z))) λbr=>bL 0 (vs:=[D.1,cJ,cJ]) Z Z (dH br (dH Z (dH Z Z))) Z Z Z<|aP<|aM<|iV (B:=ZE) (λad=>qS o X ad=some r) (λad u=>[(2,vP aj),(3,vP ak)]) (λad u=>[bI ak [D.1,u.1,u.2.2.2.1] 43,Ar aZ.raw D.1 D.2,bI aj [cJ,cJ,cJ] 43,bI a.1 [vS (p0.1),m,n,vP a.2.1,a.2.2.1] 157,Ar aZ.raw a.2.2.1 a.2.2.2.1,eH bD a.2.2.2.1 o.1,bI a.2.1 [vS (p0.1),m,n,s,p,vI (o.2.1),a.2.2.2.2.1] 206,Ar aZ.raw a.2.2.2.2.1 a.2.2.2.2.2,bI V [L,P,Q] 43,bI T [s,p] 31,bI S [vS (p0.1),m,n] 36,Ar aZ.raw u.1 u.2.1,eH aZ.raw u.2.1 u.2.2.1,Ar aZ.raw u.2.2.2.1 u.2.2.2.2.1,rJ aZ.raw u.2.2.2.2.1 u.2.2.2.2.2.1 u.2.2.2.2.2.2]) (λad u=>[mM aJ D.2 X,mM aJ a.2.2.2.2.2 o.2.2,Sl aG m p0.2.1,Sl aC n p0.2.2,PF (Value.agg #[vS p0.1,m,n]),Sl aJ s p1.1,S2 aW p z4 p1.2,S2 aJ L z6 E.1,S3 aJ P z8 E.2.1,S4 aJ Q W E.2.2,yH aJ u.2.2.1 ad.1,Ai aJ u.2.2.2.2.2.2 ad.2]) ?_ ?_
  ·refine aX<|cA Z<|eW 3 Z<|aD (eP Z (aA.fact 8 Z) Z) Z<|aB Z<|aP<|aV<|cG (gZ aZ.raw)<|cG (mF aZ.raw)<|cG (cP (fD:aA _ _ (yH aJ (tg 1 ([]:xP)) ([]:oP))))<|cG (gZ aZ.raw)<|cG (Ck aZ.raw)<|cG (cP (fD:aA _ _ (Ai aJ (tg 2 ([]:J_)) ([]:Br))))<|mA (B:=ZE) (jI U E o X) (λt b=>[(1,vP ar),(2,vP aj),(3,vP ak),(14,vI (E.2.1.length:Int)),(15,vI (t.1))]) (λt b=>[bI ak [D.1,b.1,b.2.2.2.1] 43,Ar aZ.raw D.1 D.2,bI aj [cJ,cJ,cJ] 43,bI ar [L,P,Q] 43,bI a.1 [vS (p0.1),m,n,vP a.2.1,a.2.2.1] 157,Ar aZ.raw a.2.2.1 a.2.2.2.1,eH bD a.2.2.2.1 o.1,bI a.2.1 [vS (p0.1),m,n,s,p,vI (o.2.1),a.2.2.2.2.1] 206,Ar aZ.raw a.2.2.2.2.1 a.2.2.2.2.2,bI V [L,P,Q] 43,bI T [s,p] 31,bI S [vS (p0.1),m,n] 36,Ar aZ.raw b.1 b.2.1,eH aZ.raw b.2.1 b.2.2.1,Ar aZ.raw b.2.2.2.1 b.2.2.2.2.1,rJ aZ.raw b.2.2.2.2.1 b.2.2.2.2.2.1 b.2.2.2.2.2.2]) (λt b=>[mM aJ D.2 X,mM aJ a.2.2.2.2.2 o.2.2,Sl aG m p0.2.1,Sl aC n p0.2.2,PF (Value.agg #[vS p0.1,m,n]),Sl aJ s p1.1,S2 aW p z4 p1.2,S2 aJ L z6 E.1,S3 aJ P z8 E.2.1,S4 aJ Q W E.2.2,yH aJ b.2.2.1 t.2.1,Ai aJ b.2.2.2.2.2.2 t.2.2]) ((0:Int),([]:oP),([]:Br)) ((tg 1 (cJ)),(tg 1 ([]:cR)),(tg 1 ([]:xP)),(tg 2 (cJ)),(tg 2 ([]:cR)),(tg 2 ([]:xP)),(tg 2 ([]:J_))) h SF (aR.ix [4,5,6,7,8,9,10,11,12,13,14,15,3,2,1,0] Z Z) (g_ [2,3,4,5,6,7,8,9,10,11,1,0] Z) ?_;intro bz t b h;refine aX<|dM Z<|aP<|aM ?_;refine f_ h Z (λh=>?_) λh=>?_
   ·refine dC<|aM<|aV<|aX<|aB Z<|aH Z<|aP<|aM ?_;refine JR.start [0,1,0,4,0,28,60,124,252,511,1023,2047] 9 mixedOrders (by decide +kernel) ?_;refine zBf (by exact rfl) ?_;refine cD Z<|fI 0 Z<|cD Z<|fI 3 Z<|a_ Z<|eB h λa3 h=>aU (gH (aA.fact 8 Z)) λbp=>i_ Z (hZ Z Z bp Z Z a3)<|bQ Z .nil (mK 8 Z) (mQ Z (aA.fact 0 Z) Z Z a3) aO.z<|fZ h λau b0 h=>zBd Z Z Z (zBc He (rO U ((at' z8 t.1).1) ((at' z8 t.1).2) au b0) Z (aE.cons (eG (aA.fact 8 Z) a3.1 (by first|exact a3.2|simpa using a3.2)) .nil)) Z (λK=>(nL [([2],[])] Z)) λK=>?_;refine zBg (eQ 1 Z (oC (j:=0) Z fO))<|aU (Know.one (aA.sl (bF (i:=0) (j:=0) Z Z))) λa6=>zBg (mF aZ.raw)<|zBg (Ff 0 1 Z Z Z)<|zBg (cP (sX (aA.fact 0 Z) fD))<|zBd Z Z Z (cU (e:=aZ.raw) ([K.1]) [(0,K.1)] Z Z Z Z (uF (K.1) a6) Z Z (dH a6 Z)) Z (λbX=>(nL [([2],[])] Z)) λbX=>bS 9 Z Z<|aQ (bJ (aA.fact 12 Z)) λa4=>aQ (bJ (aA.fact 0 Z)) λa5=>aQ (cH 15 Z) λav=>aQ (cH 1 Z) λaw=>eB h λa7 h=>cG (cP (vV (aA.fact 12 Z) (aA.fact 0 Z)))<|cG (Dr 15 1 Z Z Z) ?_;refine aI (aN.append 13 0 Z Z Z Z Z Z Z (by have q:=a7;have q0:=a4;have q1:=a5;have q2:=av;have q3:=aw;(try simp only[zAk,zB5,zAc]at *);omega) (by have q:=a7;have q0:=a4;have q1:=a5;have q2:=av;have q3:=aw;(try simp only[zAk,zB5,zAc]at *);omega) Z) Z λan=>?_;refine cA Z<|aQ (Know.one (aA.sl (bU (i:=13) (q:=14) (j:=0) Z Z Z))) λbj=>pE 1 Z Z bj Z Z Z<|aP<|aX<|aH Z<|aP<|aM<|iV (B:=Value×List Value×List (List Value)) (λR=>vM t (bP (jI U E o X) bz) au R=some r) (λR v=>[(1,vP ar),(2,vP aj),(3,vP ak),(5,v.1),(14,vI (E.2.1.length:Int)),(15,vI (t.1))]) (λR v=>[bI ak [D.1,an,b.2.2.2.1] 43,Ar aZ.raw D.1 D.2,bI aj [cJ,cJ,cJ] 43,bI ar [L,P,Q] 43,bI a.1 [vS (p0.1),m,n,vP a.2.1,a.2.2.1] 157,Ar aZ.raw a.2.2.1 a.2.2.2.1,eH bD a.2.2.2.1 o.1,bI a.2.1 [vS (p0.1),m,n,s,p,vI (o.2.1),a.2.2.2.2.1] 206,Ar aZ.raw a.2.2.2.2.1 a.2.2.2.2.2,bI V [L,P,Q] 43,bI T [s,p] 31,bI S [vS (p0.1),m,n] 36,Ar aZ.raw an (b.2.1++[K.1]),eH aZ.raw (b.2.1++[K.1]) (b.2.2.1++[K.2]),Ar aZ.raw b.2.2.2.1 b.2.2.2.2.1,rJ aZ.raw b.2.2.2.2.1 b.2.2.2.2.2.1 b.2.2.2.2.2.2,Ar aZ.raw v.1 v.2.1,eH aZ.raw v.2.1 v.2.2]) (λR v=>[yH aJ (b.2.2.1++[K.2]) (t.2.1++[au]),mM aJ D.2 X,mM aJ a.2.2.2.2.2 o.2.2,Sl aG m p0.2.1,Sl aC n p0.2.2,PF (Value.agg #[vS p0.1,m,n]),Sl aJ s p1.1,S2 aW p z4 p1.2,S2 aJ L z6 E.1,S3 aJ P z8 E.2.1,S4 aJ Q W E.2.2,Ai aJ b.2.2.2.2.2.2 t.2.2,yH aJ v.2.2 R]) ?_ ?_
    ·refine aX<|cA Z<|eW 4 Z<|aB Z<|eB h λC h=>aD (bV Z Z (aA.fact 12 Z) Z Z C) Z<|aD (mQ Z (aA.fact 12 Z) Z Z C) Z ?_;refine aD (eP Z (eG (aA.fact 12 Z) C.1 (by first|exact C.2|simpa using C.2)) Z) Z ?_;refine aB Z<|aP<|aV<|cG (gZ aZ.raw)<|cG (mF aZ.raw)<|cG (cP (fD:aA _ _ (yH aJ (tg 1 ([]:xP)) ([]:oP))))<|mA (B:=Value×List Value×List (List Value)) (nD U E t (bP (jI U E o X) bz) au) (λH x=>[(1,vP ar),(2,vP aj),(3,vP ak),(5,x.1),(14,vI (E.2.1.length:Int)),(15,vI (t.1)),(33,(at' W t.1).1),(34,vI ((at' E.2.2 t.1).length:Int)),(35,vI (H.2))]) (λH x=>[bI ak [D.1,an,b.2.2.2.1] 43,Ar aZ.raw D.1 D.2,bI aj [cJ,cJ,cJ] 43,bI ar [L,P,Q] 43,bI a.1 [vS (p0.1),m,n,vP a.2.1,a.2.2.1] 157,Ar aZ.raw a.2.2.1 a.2.2.2.1,eH bD a.2.2.2.1 o.1,bI a.2.1 [vS (p0.1),m,n,s,p,vI (o.2.1),a.2.2.2.2.1] 206,Ar aZ.raw a.2.2.2.2.1 a.2.2.2.2.2,bI V [L,P,Q] 43,bI T [s,p] 31,bI S [vS (p0.1),m,n] 36,Ar aZ.raw an (b.2.1++[K.1]),eH aZ.raw (b.2.1++[K.1]) (b.2.2.1++[K.2]),Ar aZ.raw b.2.2.2.1 b.2.2.2.2.1,rJ aZ.raw b.2.2.2.2.1 b.2.2.2.2.2.1 b.2.2.2.2.2.2,Ar aZ.raw x.1 x.2.1,eH aZ.raw x.2.1 x.2.2]) (λH x=>[yH aJ (b.2.2.1++[K.2]) (t.2.1++[au]),mM aJ D.2 X,mM aJ a.2.2.2.2.2 o.2.2,Sl aG m p0.2.1,Sl aC n p0.2.2,PF (Value.agg #[vS p0.1,m,n]),Sl aJ s p1.1,S2 aW p z4 p1.2,S2 aJ L z6 E.1,S3 aJ P z8 E.2.1,S4 aJ Q W E.2.2,Ai aJ b.2.2.2.2.2.2 t.2.2,yH aJ x.2.2 H.1]) (([]:oP),(0:Int)) ((tg 1 (cJ)),(tg 1 ([]:cR)),(tg 1 ([]:xP))) h SF (aR.ix [3,4,5,6,7,8,9,10,11,12,13,14,15,16,17,18,1,0] Z Z) (g_ [1,4,5,6,7,8,9,10,11,12,13,15,0] Z) ?_;intro b3 H x h;refine aX<|dM Z<|aP<|aM ?_;refine f_ h Z (λh=>?_) λh=>?_
     ·refine dC<|aM<|aV<|aX<|eB h λal h=>aD (bV Z Z (eG (aA.fact 10 Z) C.1 (by first|exact C.2|simpa using C.2)) Z Z al) Z ?_;refine aD (mQ Z (eG (aA.fact 10 Z) C.1 (by first|exact C.2|simpa using C.2)) Z Z al) Z ?_;refine aH Z<|aP<|aT<|aB Z<|aB Z<|fZ h λbd bK h=>aI (zBc He (rO U ((at' ((at' W t.1).2) H.2).1) ((at' ((at' W t.1).2) H.2).2) bd bK) Z (aE.cons (eG (eG (aA.fact 10 Z) C.1 (by first|exact C.2|simpa using C.2)) al.1 (by first|exact al.2|simpa using al.2)) .nil)) Z λao=>?_;refine cG (eQ 1 Z (oC (j:=0) Z fO))<|aQ (Know.one (aA.sl (bF (i:=0) (j:=0) Z Z))) λa2=>cG (mF aZ.raw)<|cG (Ff 0 1 Z Z Z)<|cG (cP (sX (aA.fact 0 Z) fD))<|aI (cU (e:=aZ.raw) ([ao.1]) [(0,ao.1)] Z Z Z Z (uF (ao.1) a2) Z Z (dH a2 Z)) Z λb6=>aQ (bJ (aA.fact 14 Z)) λaK=>aQ (bJ (aA.fact 0 Z)) λaL=>aQ (cH 19 Z) λaS=>aQ (cH 1 Z) λa0=>eB h λa9 h=>cG (cP (vV (aA.fact 14 Z) (aA.fact 0 Z)))<|cG (Dr 19 1 Z Z Z) ?_;refine aI (aN.append 17 0 Z Z Z Z Z Z Z (by have q:=a9;have q0:=aK;have q1:=aL;have q2:=aS;have q3:=a0;(try simp only[zAk,zB5,zAc]at *);omega) (by have q:=a9;have q0:=aK;have q1:=aL;have q2:=aS;have q3:=a0;(try simp only[zAk,zB5,zAc]at *);omega) Z) Z λbC=>?_;refine aH Z<|fH<|oV<|aT<|dK Z<|aB Z<|aP ?_;exact iN ((H.1++[bd]),(wI .i64 (H.2+(1:Int)))) (bC,(x.2.1++[ao.1]),(x.2.2++[ao.2])) h SF (aR.ix [1,2,3,4,5,6,7,8,9,10,11,12,13,14,15,16,17,18] Z Z) (g_ [3,4,5,6,7,8,9,10,11,12,13,14,0] Z)
     refine gC ?_;exact kC (H.1) (x.1,x.2.1,x.2.2) h SF Z
    intro R v h;refine aT<|cA Z<|eW 0 Z<|aB Z<|aQ (Know.one (aA.sl (bU (i:=16) (q:=17) (j:=12) Z Z Z))) λa1=>cG (Ck aZ.raw)<|cG (Iq 17 18 Z Z Z)<|cG (Pj 0 17 Z Z Z)<|cG (cP (sX (aA.fact 12 Z) fD))<|aI (cU (e:=aZ.raw) ([v.1]) [(0,v.1)] Z Z Z Z (uF (v.1) a1) Z Z (dH a1 Z)) Z λb5=>aQ (bJ (aA.fact 12 Z)) λax=>aQ (bJ (aA.fact 0 Z)) λay=>aQ (yT 17 Z) λaz=>aQ (yT 1 Z) λaF=>eB h λa8 h=>cG (cP (vV (aA.fact 12 Z) (aA.fact 0 Z)))<|cG (Pk 17 1 Z Z Z) ?_;refine aI (aN.append 15 0 Z Z Z Z Z Z Z (by have q:=a8;have q0:=ax;have q1:=ay;have q2:=az;have q3:=aF;(try simp only[zAk,zB5,zAc]at *);omega) (by have q:=a8;have q0:=ax;have q1:=ay;have q2:=az;have q3:=aF;(try simp only[zAk,zB5,zAc]at *);omega) Z) Z λbA=>?_;refine cA Z<|aQ (Know.one (aA.sl (cF (i:=15) (q:=16) (j:=0) Z Z Z))) λbk=>pE 1 Z Z bk Z Z Z<|fH<|oV<|aT<|dK Z<|aB Z<|aP ?_;exact iN ((wI .i64 (t.1+(1:Int))),(t.2.1++[au]),(t.2.2++[R])) (an,(b.2.1++[K.1]),(b.2.2.1++[K.2]),bA,(b.2.2.2.2.1++[v.1]),(b.2.2.2.2.2.1++[v.2.1]),(b.2.2.2.2.2.2++[v.2.2])) h SF (aR.ix [1,2,3,4,5,6,7,8,9,10,11,12,13,14,15,16] Z Z) (g_ [3,4,5,6,7,8,9,10,11,12,2,0] Z)
   refine gC ?_;exact cK (t.2.1,t.2.2) (b.1,b.2.1,b.2.2.1,b.2.2.2.1,b.2.2.2.2.1,b.2.2.2.2.2.1,b.2.2.2.2.2.2) h SF (aR.ix [0,1,2,4,5,6,7,8,9,10,11,12,13,14,15] Z Z) (aE.refl _ _)
  intro ad u h;unfold qS at h;refine aX<|cY 0 Z<|aQ (Know.one (aA.sl (bF (i:=1) (j:=0) Z Z))) λbs=>aQ (Know.one (aA.sl (bU (i:=11) (q:=12) (j:=10) Z Z Z))) λbt=>aQ (Know.one (aA.sl (cF (i:=13) (q:=14) (j:=11) Z Z Z))) λbu=>bL 2 (vs:=[D.1,u.1,u.2.2.2.1]) Z Z (dH bs (dH bt (dH bu Z))) Z Z Z<|aP<|aY ?_;exact iK (X,ad.1,ad.2) (D.1,u.1,u.2.2.2.1,D.2,u.2.1,u.2.2.1,u.2.2.2.2.1,u.2.2.2.2.2.1,u.2.2.2.2.2.2) h (.inl Z) (BR.r1 Z (RV.cell 2 Z Z Z Z)) Z (aR.ix [1,3,4,5,6,7,8,9,10,11,12,13,14] Z Z) (aE.refl _ _)
 intro ae f h;unfold vL at h;refine bS 7 Z Z ?_;refine aD (Uc (r:=Value.agg #[s,p,vI (p2),Value.pointer (some ⟨a.1,0,none⟩),f.1,f.2.1,f.2.2.1]) Z Z Z Z (by intro w;simp[Instr.build,Instr.fill,dO,cV,cL,dQ,dR,cW,eN])) Z ?_;refine aI (aN.box (cs:=[s,p,vI (p2),vP a.1,f.1,f.2.1,f.2.2.1]) Z Z) Z λbW=>aH Z<|aP<|aY ?_;cases h;exact jR (bW,a.1,f.1,f.2.1,f.2.2.1,f.2.2.2.1,a.2.1,a.2.2.1,a.2.2.2.1,a.2.2.2.2.1,a.2.2.2.2.2,f.2.2.2.2.1,f.2.2.2.2.2.1,f.2.2.2.2.2.2.1,f.2.2.2.2.2.2.2.1,f.2.2.2.2.2.2.2.2) Z Z (RV.tmp Z) (aR.ix [0,1,2,3,4,5,6,10,11,12,13] Z Z) (g_ [0,1,10,11] Z)
def sS (U:Nat) (a:jX) (d:dL) (f:Int) (b:rD) (e:Bool):Option (Int):=
 if e=true then(some (2:Int))else(Option.bind (kZ U ((a.1,a.2.1,a.2.2)) ((d.1,d.2)) f ((b.1,b.2.1,b.2.2))) λc=>(if(!c)=true then(some (7:Int))else(some (0:Int))))
def uK (U:Nat) (a:jX) (b:dL) (c:Int) (d:rD):Option (Int):=
 Option.bind (mH U ((a.1,a.2.1,a.2.2)) ((b.1,b.2))) λe=>(if e≠(0:Int)then(some (e))else(if c<(1:Int)then(sS U a b c d (true))else(sS U a b c d (decide ((8:Int)<c)))))
theorem aar:bB Tryz.prog 66:=Tryz.call66
theorem Ks (U:Nat) {p0:jX} {p1:dL} {p2:Int} {i:rD} (a:Value)  (b:Value)  (d:Value)  (e:Value)  (q:iZ)  (j:Value)  (v:jY)  (k:Value)  (w:If)  (m:Value)  (n:Ie) (r:Int) (h:uK U p0 p1 p2 i=some r):
  bO Tryz.prog 66 #[Value.agg #[vS (p0.1),a,b],Value.agg #[d,e],vI (p2),Value.agg #[j,k,m]] [Sl aG a p0.2.1,Sl aC b p0.2.2,PF (Value.agg #[vS p0.1,a,b]),Sl aJ d p1.1,S2 aW e q p1.2,S2 aJ j v i.1,S3 aJ k w i.2.1,S4 aJ m n i.2.2] (λx:Unit=>vI (r)) (λx l=>l) (λ_ l=>l):=by
 refine bO.of Tryz.func66 Z Tryz.ntmps66 Z λc=>?_;refine aX<|aI (aN.box (cs:=[vS (p0.1),a,b]) Z Z) Z λs=>aI (aN.box (cs:=[d,e]) Z Z) Z λt=>aI (aN.box (cs:=[j,k,m]) Z Z) Z λu=>aH Z<|aP<|aM<|aX<|cY 2 Z<|cY 1 Z<|fZ h λy z h=>aI (zBc QP (EX U a b d e q y z) Z (g_ [0,1,2,3,4] Z)) Z λB=>aH Z<|aP<|aX<|aB Z<|oM Z<|aP ?_;refine f_ h Z (λh=>?_) λh=>?_
 ·refine aX<|aB Z<|aH Z<|aP<|aY<|aL ?_;cases h;exact zJ Z
 refine dC<|aM<|aM<|jH (λf=>sS U p0 p1 p2 i f=some r) (λf g=>[(2,vI (p2)),(4,vP s),(5,vP t),(7,vP u),(21,vB (f))]) (λf g=>[bI u [j,k,m] 43,bI t [d,e] 31,bI s [vS (p0.1),a,b] 36]) ?_ ?_
 ·refine aT<|aB Z<|dM Z<|aB Z ?_;refine Fq h Z (λ_ h=>?_) λ_ h=>?_
  ·refine aK Z<|aK Z<|fX Z<|aP ?_;exact kC (true) () h SF Z
  refine iA Z<|aS Z (Aq Z Z) Z<|fG Z<|aP ?_;exact kC (decide ((8:Int)<p2)) () h SF Z
 intro f g h;refine Bf h Z (λ_ h=>?_) λ_ h=>?_
 ·refine aX<|aH Z<|aP<|aY<|aL ?_;cases h;exact zJ Z
 refine dC<|aM<|aX<|cY 2 Z<|cY 1 Z<|aB Z<|cY 0 Z<|fZ h λo p h=>aI (zBc Pr (BL U a b d e q j v k w m n o p) Z (g_ [0,1,2,3,4,5,6,7] Z)) Z λA=>aD (wL Z) Z<|aP ?_;refine Bf h Z (λ_ h=>?_) λ_ h=>?_
 ·refine aX<|aH Z<|aP<|aY<|aL ?_;cases h;exact zJ Z
 refine dC<|aX<|aH Z<|aP<|aY ?_;cases h;exact zJ Z
def mY (U:Nat) (a:bT):Option bT:=
 ck ((List.length ([]:bT):Int)+(a.length:Int)<=1099511627) (some (([]:bT)++a))
theorem Py:bB Tryz.prog 77:=Tryz.call77
theorem AR (U:Nat) {p0:bT} (d:Value) (r:bT) (h:mY U p0=some r):
  bO Tryz.prog 77 #[d] [Sl aJ d p0] (λx:Value=>x) (λx l=>Ar eC x r::l) (λ_ l=>l):=by
 refine bO.of Tryz.func77 Z Tryz.ntmps77 Z λc=>?_;unfold mY at h;refine aX<|aH Z<|aP<|aM<|aX<|aB Z<|Kx (aA.fact 0 Z) (λa b=>?_) (λa=>?_)
 ·replace h:(some ([]:bT))=some r:=by simpa [ck,b]using h
  refine aD (Ir Z (aA.fact 0 Z) a Z) Z<|aP<|LE Z<|aX<|aH Z<|aP<|aY<|aL<|cG (gZ eC) ?_;cases h;exact jR (cJ) Z Z (RV.tmp Z) (aR.refl _) aE.nil
 refine aD (Ir Z (aA.fact 0 Z) a Z) Z<|aP<|LD Z<|dC<|aX<|aI (cU (e:=eC) ([]:bT) [] Z Z Z Z ((λi h=>by simp at h;subst h;rfl)) Z Z Z) Z λj=>aB Z<|eB h λf h=>aI (mB 0 fO Z Z Z (aA.fact 0 Z) Z Z Z Z f Z) Z λg=>aH Z<|aP<|aY ?_;cases h;exact jR (g) Z Z (RV.tmp Z) (aR.refl _) aE.nil
def BZ (U:Nat) (p0:List (Value)) (p1:Int) (p2:Int):Option (List (Value)):=
 ck (0<=p1∧p1<=p2∧p2<=(p0.length:Int)∧(p0.length:Int)<=(p0.length:Int)) (if p1=p2 then(some (p0))else(ck (0<=(0:Int)∧(0:Int)<=p1∧p1<=(p0.length:Int)) (ck (0<=p2∧p2<=((p0.length:Int))∧((p0.length:Int))<=(p0.length:Int)) (ck (0<=p1∧p1<p2∧p2<=(p0.length:Int)) (some ((List.take (Int.toNat p1) p0)++(List.drop (Int.toNat p2) p0)))))))
theorem XG:bB Tryz.prog 111:=Tryz.call111
theorem HG (U:Nat) {p0:List (Value)} {p1:Int} {p2:Int} (b:Value) (r:List (Value)) (h:BZ U p0 p1 p2=some r):
  zE Tryz.prog 111 #[b,vI (p1),vI (p2)] [Ar aZ.raw b p0] [] (λx:Value=>x) (λx l=>Ar aZ.raw x r::l):=by
 refine zE.of (vs:=[b,vI (p1),vI (p2)]) Tryz.func111 Z Tryz.ntmps111 Z λc=>?_;refine aX<|aH Z<|aP<|aX<|aB Z<|aB Z<|aB Z<|aB Z<|aD (gY Z (oA (i:=0) Z) Z) Z<|eB h λe h=>aD (Ug Z Z Z Z (oA (i:=0) Z) Z Z e) Z<|aP<|aM<|aX<|aB Z<|aB Z<|eL Z<|aP ?_;refine f_ h Z (λh=>?_) λh=>?_
 ·refine aX<|aB Z<|aH Z<|aP<|aY<|aL ?_;cases h;exact jR (b) Z Z (RV.tmp Z) (aR.refl _) aE.nil
 refine dC<|aX<|aB Z<|aD (gY Z (oA (i:=0) Z) Z) Z<|aH Z<|aP<|aM ?_;refine JR.start [0,0,3,0,0,24,63,127] 6 mixedOrders (by decide +kernel) ?_;refine zBf (by exact rfl) ?_;refine a_ Z<|a_ Z<|eB h λf h=>bQ Z (aR.cons 0 Z .nil) .nil (Uh Z Z (oA (i:=0) Z) Z Z f) aO.z<|a_ Z<|a_ Z<|eB h λg h=>bQ Z (aR.cons 0 Z .nil) .nil (Ui Z Z (oA (i:=0) Z) Z Z g) aO.z<|bS 6 Z Z<|eB h λd h=>aQ (Know.cap 0 Z) λa=>aI (IU (i:=p1) (j:=p2) 0 Z Z Z Z Z Z d) Z λk=>aH Z<|aP<|aX<|aB Z<|aB Z<|aD (gY Z (oA (i:=0) Z) Z) Z<|aB Z ?_;refine aD (Ns 0 Z Z Z Z Z Z (FV.slq a) (by have q:=d;simp;omega)) Z ?_;refine MZ 0 Z Z (zAf _) (FV.slq a) (by have q:=d;simp;omega) Z Z Z Z Z ?_;refine aP<|aX<|aB Z<|aH Z<|aP<|aY ?_;cases h;exact jR (slq b 0 (Int.toNat (p1+((p0.length:Int) - p2))) 1) Z Z (RV.tmp Z) (aR.refl _) aE.nil
def qZ (U:Nat) (p0:List (Value)):Option (List (Value)):=
 ck ((List.length ([]:cR):Int)+(p0.length:Int)<=1099511627) (some (([]:cR)++p0))
theorem LQ:bB Tryz.prog 166:=Tryz.call166
theorem zO (U:Nat) {p0:List (Value)} (d:Value) (r:List (Value)) (h:qZ U p0=some r):
  bO Tryz.prog 166 #[d] [Sl Do d p0] (λx:Value=>x) (λx l=>Ar aZ.raw x r::l) (λ_ l=>l):=by
 refine bO.of Tryz.func166 Z Tryz.ntmps166 Z λc=>?_;unfold qZ at h;refine aX<|aH Z<|aP<|aM<|aX<|aB Z<|Kx (aA.fact 0 Z) (λa b=>?_) (λa=>?_)
 ·replace h:(some ([]:cR))=some r:=by simpa [ck,b]using h
  refine aD (Ir Z (aA.fact 0 Z) a Z) Z<|aP<|LE Z<|aX<|aH Z<|aP<|aY<|aL<|cG (gZ aZ.raw) ?_;cases h;exact jR (cJ) Z Z (RV.tmp Z) (aR.refl _) aE.nil
 refine aD (Ir Z (aA.fact 0 Z) a Z) Z<|aP<|LD Z<|dC<|aX<|aI (cU (e:=aZ.raw) ([]:cR) [] Z Z Z Z ((λi h=>by simp at h;subst h;rfl)) Z Z Z) Z λj=>aB Z<|eB h λf h=>aI (Ki 0 EP Z Z Z (aA.fact 0 Z) Z Z Z Z f Z) Z λg=>aH Z<|aP<|aY ?_;cases h;exact jR (g) Z Z (RV.tmp Z) (aR.refl _) aE.nil
end Go.Proofs.YtflciafboapaaaaGreat