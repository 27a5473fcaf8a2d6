/- Models and proofs. Conditions: none. -/
import Derived.Test.YtflciafboapaaaaGreatZRAr15
import Derived.OpenShut
import Derived.JoinedCond
set_option linter.unusedVariables false
set_option linter.unusedSimpArgs false
set_option maxHeartbeats 4000000
set_option maxRecDepth 20000
open Go.Proofs.Tryz
namespace Go.Proofs.YtflciafboapaaaaGreat
open Go Go.Sx
theorem ahU {g:GR} (a:VG g) (l:Ep g):∃(s:Nat) (d:aX) (K:Nat),Elc g s d/\gJ 1000 g (s:Int)=some d/\k_ 1000 g=some (s:Int)/\1<=K/\K<=700/\(∀v,v<g.2.length->(g.2.length:Int)+D d v<=(K:Int))/\vH 1000 g=some (3,false,true,(K:Int),-1):=by
 have t:=a.n24;have x:=a.n1;have e:=a.len;have⟨s,n,h,f⟩:=aiu a;have⟨r,u,d,q,b,m,w,p,j⟩:=FM a l (s:=s) n;have o:∀v,v<g.2.length->0<=D d v:=λv i=>(Nt a n b).2 l v (by rw[b.len];exact i);have y:0<=r:=by rw[<-j];exact o w p
 have z:r<=(g.2.length:Int):=by rw[<-j];exact b.hi w p
 have k:gJ 1000 g (s:Int)=some d:=by
  unfold gJ lY;rw[bA (show gO 1000 (g.1,g.2)=some true from(Lo g).1 a),if_neg Q2,Q0,zA6 V7,if_neg Q2,show jY 1000 (g.1,g.2) (s:Int)=some d from q];rfl
 refine⟨s,d,g.2.length+r.toNat,⟨n,b,o,λv i=>b.lt i,h⟩,k,f,V7,V7,λv i=>by have:=m v i;omega,?_⟩
 have c:nT 1000 g=some true:=by
  unfold nT;rw[bA (show cX 1000 (g.1,g.2)=some true from(CI a).1 l)]
 unfold vH;rw[bA (show nT 1000 (g.1,g.2)=_ from c),if_neg Q2,bA (show k_ 1000 (g.1,g.2)=_ from f),bA (show jE 1000 (g.1,g.2) (s:Int)=some r from u),e,Q9];have:(g.2.length:Int)+r=((g.2.length+r.toNat:Nat):Int):=V7
 rw[this]
theorem CF {g:GR} (q:VG g) (hn:g.2.length<=4) {d:Int} {m:nX} {text nm:ByteArray} {vars:V6 Ah} {R:V6 RL} {P:Nat->Nat->aX->Prop} {K cap:Nat} {z:V6 oJ} {Y:Ka} (hz:z.map rS=Ge R) (hp:pV g vars) (hR:sK vars.length R=true)
  (C:Gk g vars (Sj (bF (nm,vars,z) g) vars R) P) (N:1<=K) (ac:K<=700) (F:1<=cap) (ad:cap<=2)
  (B:∀c:bJ,c.length=g.2.length->(∀x,x<g.2.length->P K x (at' c (x:Int)))->kV 1000 d g c=some true)
  (hq:∀c:bJ,c.length=g.2.length->(∀x,x<g.2.length->P K x (at' c (x:Int)))->∀v,v<g.2.length->¬0<=lK (bF (nm,vars,z) g) R c v)
  {y:zV} (hy:VY g vars cap y) {o:nX} (af:o.length<=60) (W:∀e∈o,LC g e=true) {w:Int} (A:wI .i64 (1+w)=(cap:Int)):
  bE (gS 1000 d m g (text,vars,(K:Int)) (nm,vars,Y) z w o) 1000 ((0:Int),y)=some true:=by
 have X:=Zz q cap;have ah:(Dr g cap).length<=64:=by
  have a:=Wh q cap;have b:g.2.length*((g.2.length - 1)*(2*cap+1))<=4*(3*5):=Nat.mul_le_mul hn (Nat.mul_le_mul V7 V7);omega
 have J:∀(k:Nat) (y:zV) (l:nX),RP g cap P k y->(∀e∈l,LC g e=true)->l.length<=900->sQ 1000 (nm,vars,z) g (cap:Int) y l=some (perfs g (Sj (bF (nm,vars,z) g) vars R) cap y l,0):=λk y l h s S=>by
  rw[aiQ (p:=(nm,vars,z)) q hp hz hR (cap:Int) y S];exact congrArg some (afO F V7 (C.vy q h) s)
 refine Hy (step:=gS 1000 d m g (text,vars,(K:Int)) (nm,vars,Y) z w o) (λx=>∃k:Nat,x.1=(k:Int)/\k<=K/\RP g cap P k x.2/\(1<=k->Sm g x.2)) (λx=>K - x.1.toNat) (λx ag M O=>?_) 1000 _ ⟨0,rfl,V7,C.begin q hy,λh=>absurd h V7⟩ (by dsimp only;omega);have⟨kk,y⟩:=x;obtain⟨k,rfl,hk,f,r⟩:=M;dsimp only at f r;unfold gS;dsimp only;by_cases ae:k<K
 .rw[Q3];refine Hy (step:=pP 1000 g (text,vars,(K:Int)) (nm,vars,Y) z w o ((k:Int),y) ag) (λu=>∃i:Nat,u.2=(i:Int)/\i<=o.length+K/\u.1.length<=i/\u.1.length<=o.length/\∀e∈u.1,LC g e=true) (λu=>800 - u.2.toNat) (λu ab M G=>?_) 1000 _ ⟨k,rfl,V7,V8,V8,λe s=>absurd s zAz⟩ (by dsimp only;omega);have⟨l,ii⟩:=u;obtain⟨i,rfl,hi,S,U,t⟩:=M;dsimp only at S U t;unfold pP;dsimp only;by_cases H:i<o.length
  .have hm:LC g (at' o (i:Int))=true:=W _ (by rw[i_ H];exact List.getElem_mem H);rw[Q3,Q7,cR Q1,Q9];refine G _ ⟨i+K,by dsimp only;omega,V7,Q1,Q1,λe s=>?_⟩ (by dsimp only;omega);rcases zB1.1 s with s|s
   .exact t e s
   .rw[List.mem_singleton.1 s];exact hm
  .rw[Q0];unfold pO;rw[A,bA (show yE 1000 (g.1,g.2) (cap:Int)=some (Dr g cap)from ade q F V7),Q7];have j:=C.keep q l f t;have n:=C.sweep q j F;have E:=J k y (l++Dr g cap) f (λe s=>(zB1.1 s).elim (t e) (X e)) (by rw[zA4];omega);rw[Zn]at E;refine(bA (show sQ 1000 _ _ (cap:Int) _ _=_ from E)).trans ?_;unfold uH;rw[if_neg V8,Q8];exact O _ ⟨k+1,rfl,V7,n.1,λ_=>n.2⟩ (by dsimp only;omega)
 .obtain rfl:k=K:=V7
  have Q:=r N;have T:=B y.1 f.sh.c f.all.c;have I:qA 1000 (nm,vars,z) g y=some true:=by
   rw[Wd (p:=(nm,vars,z)) q hp hz hR y];exact congrArg some (We (p:=(nm,vars,z)) q V7 (C.vy q f) Q (hq y.1 f.sh.c f.all.c))
  have⟨L,V,aa,D⟩:=PD q m;have j:=C.keep q L f D;rw[Q0];unfold uF;rw[bA (show kV 1000 d (g.1,g.2) y.1=_ from T),if_neg Q2];refine(bA (show qA 1000 _ _ _=_ from I)).trans ?_;unfold pN;rw[if_neg Q2,bA (show jF 1000 (g.1,g.2) m=some L from V),A];refine(bA (show sQ 1000 _ _ (cap:Int) _ _=_ from J k y L f D V7)).trans ?_;unfold uG;dsimp only;rw[bA abL,if_pos Z,if_pos Z,bA (show kV 1000 d (g.1,g.2) (perfs g (Sj (bF (nm,vars,z) g) vars R) cap y L).1=_ from B _ j.sh.c j.all.c)];rfl
theorem Vi (x:UX) (r:V6 Int×V6 Int×V6 Int×aX) (a j:Int) (l I:nX) (T:aX):pM 1000 x r a j l I T=some true:=by
 have⟨g,X,M,A,W⟩:=QT (x.1,x.2.1,T,x.2.2.2.1,x.2.2.2.2.1,x.2.2.2.2.2) 4 V7 V7;have h:VG g:=M.vg;have v:=ajC M W;have c1:=zB9 j (b:=2) V7;have c2:=zB0 j (b:=2) V7;have w1:=zB9 a (b:=4) V7;have w2:=zB0 a (b:=4) V7;obtain⟨n,Y⟩:∃n:Nat,1+j%2=(n:Int):=⟨(1+j%2).toNat,V7⟩
 have F:wI .i64 (1+j%2)=(n:Int):=by rw[Q9,Y]
 have⟨o,N,D,B⟩:=PD h l;unfold pM;rw[bA (show kO 1000 (x.1,x.2.1,T,x.2.2.2.1,x.2.2.2.2.1,x.2.2.2.2.2) 4=some g from X)];rcases(show a%4=0\/a%4=1\/a%4=2\/a%4=3 by omega)with e|e|e|e
 .have⟨K,i,q,k,f⟩:=ahT h v;have S:=aiX h v (ByteArray.mk #[100]) (ByteArray.mk #[112]);have⟨y,H,t⟩:=DV h (vars:=Bi (ByteArray.mk #[100]) (ByteArray.mk #[112]) 1) Q2 (λw=>Ks h _ w (show 2<=900 by decide) (IW _ _ V7 V7)) r (cap:=n) V7;have G:jK 1000 a (g.1,g.2)=some (Fx,Bi (ByteArray.mk #[100]) (ByteArray.mk #[112]) 1,(K:Int)):=by
   unfold jK;rw[bA (fZ a 4 V7 V7),e,if_pos Z,bA (show Fl 1000=some Fx from rfl),bA (show Fo 1000=some (Bi (ByteArray.mk #[100]) (ByteArray.mk #[112]) 1)from rfl),bA (show BX 1000 (g.1,g.2)=_ from f)]
  rw[bA G,bA (acB 1000)];refine Mt λz u=>?_;have u:z.map rS=Ge RBf:=u;have C:=aaV (p:=((ByteArray.mk #[98,102,115]),Bi (ByteArray.mk #[100]) (ByteArray.mk #[112]) 1,z)) S h Z XR;rw[bA (fZ j 2 V7 V7),F,bA (show iM 1000 (r.1,r.2.1,r.2.2.1,r.2.2.2) (g.1,g.2) _ (n:Int)=some y from H),bA (show jF 1000 (g.1,g.2) l=some o from N)];refine CF (text:=Fx) (nm:=(ByteArray.mk #[98,102,115])) (vars:=Bi (ByteArray.mk #[100]) (ByteArray.mk #[112]) 1) h A u S.ok XR C i q V7 V7 (λc f m=>?_) (λc f m=>PY.quiet S h f i k m) t D B F;unfold kV;rw[bA (fZ a 4 V7 V7),e,if_pos Z,PY.fin S f i k m,bA (show BY 1000 (g.1,g.2) (cE g fB)=some true from YE h v (cfE S h (MZ f m).1 i k))]
 .have⟨L,K,O,P,i,q,k,f⟩:=ahV h v;have S:=aky h v (ByteArray.mk #[100]) (ByteArray.mk #[112]) O P;have⟨y,H,t⟩:=DV h (vars:=Bi (ByteArray.mk #[100]) (ByteArray.mk #[112]) 15) Q2 (λw=>Ks h _ w (show 2<=900 by decide) (IW _ _ V7 V7)) r (cap:=n) V7;have G:jK 1000 a (g.1,g.2)=some (Fy,Bi (ByteArray.mk #[100]) (ByteArray.mk #[112]) 15,(K:Int)):=by
   unfold jK;rw[bA (fZ a 4 V7 V7),e,if_neg Q2,if_pos Z,bA (show CL 1000=some Fy from rfl),bA (show Fp 1000=some (Bi (ByteArray.mk #[100]) (ByteArray.mk #[112]) 15)from rfl),bA (show uB 1000 (g.1,g.2)=_ from f)]
  rw[bA G,bA (acC 1000)];refine Mt λz u=>?_;have u:z.map rS=Ge RPa:=u;have C:=aaV (p:=((ByteArray.mk #[112,97,116,104,115]),Bi (ByteArray.mk #[100]) (ByteArray.mk #[112]) 15,z)) S h Z XS;rw[bA (fZ j 2 V7 V7),F,bA (show iM 1000 (r.1,r.2.1,r.2.2.1,r.2.2.2) (g.1,g.2) _ (n:Int)=some y from H),bA (show jF 1000 (g.1,g.2) l=some o from N)];refine CF (text:=Fy) (nm:=(ByteArray.mk #[112,97,116,104,115])) (vars:=Bi (ByteArray.mk #[100]) (ByteArray.mk #[112]) 15) h A u S.ok XS C i q V7 V7 (λc f m=>?_) (λc f m=>PY.quiet S h f i k m) t D B F;unfold kV;rw[bA (fZ a 4 V7 V7),e,if_neg Q2,if_pos Z,PY.fin S f i k m,bA (show yD 1000 (g.1,g.2) (cE g fP)=some true from TP h v S.grow S.cap (cfE S h (MZ f m).1 i k))]
 .have⟨K,i,q,k,f⟩:=ahW h v;have S:=akz h v (ByteArray.mk #[120]) (ByteArray.mk #[112]);have⟨y,H,t⟩:=DV h (vars:=Bi (ByteArray.mk #[120]) (ByteArray.mk #[112]) 16) Q2 (λw=>Ks h _ w (show 2<=900 by decide) (IW _ _ V7 V7)) r (cap:=n) V7;have G:jK 1000 a (g.1,g.2)=some (Fz,Bi (ByteArray.mk #[120]) (ByteArray.mk #[112]) 16,(K:Int)):=by
   unfold jK;rw[bA (fZ a 4 V7 V7),e,if_neg Q2,if_neg Q2,if_pos Z,bA (show BM 1000=some Fz from rfl),bA (show Fq 1000=some (Bi (ByteArray.mk #[120]) (ByteArray.mk #[112]) 16)from rfl),bA (show vO 1000 (g.1,g.2)=_ from f)]
  rw[bA G,bA (acD 1000)];refine Mt λz u=>?_;have u:z.map rS=Ge RWi:=u;have C:=aaV (p:=((ByteArray.mk #[119,105,100,101,115,116]),Bi (ByteArray.mk #[120]) (ByteArray.mk #[112]) 16,z)) S h Z XU;rw[bA (fZ j 2 V7 V7),F,bA (show iM 1000 (r.1,r.2.1,r.2.2.1,r.2.2.2) (g.1,g.2) _ (n:Int)=some y from H),bA (show jF 1000 (g.1,g.2) l=some o from N)];refine CF (text:=Fz) (nm:=(ByteArray.mk #[119,105,100,101,115,116])) (vars:=Bi (ByteArray.mk #[120]) (ByteArray.mk #[112]) 16) h A u S.ok XU C i q V7 V7 (λc f m=>?_) (λc f m=>PY.quiet S h f i k m) t D B F;unfold kV;rw[bA (fZ a 4 V7 V7),e,if_neg Q2,if_neg Q2,if_pos Z,PY.fin S f i k m,bA (show vQ 1000 (g.1,g.2) (cE g (fW g.2.length))=some true from Sf h v S.grow S.cap (cfE S h (MZ f m).1 i k))]
 .have⟨s,d,K,E,U,R,i,q,J,f⟩:=ahU h v;have⟨y,H,t⟩:=DV h (vars:=pS) Q2 (aaU h) r (cap:=n) V7;have G:jK 1000 a (g.1,g.2)=some (FA,pS,(K:Int)):=by
   unfold jK;rw[bA (fZ a 4 V7 V7),e,if_neg Q2,if_neg Q2,if_neg Q2,bA (show BL 1000=some FA from rfl),bA (show Ft 1000=some pS from rfl),bA (show vH 1000 (g.1,g.2)=_ from f)]
  rw[bA G,bA (acE 1000)];refine Mt λz u=>?_;have u:z.map rS=Ge RE:=u;rw[bA (fZ j 2 V7 V7),F,bA (show iM 1000 (r.1,r.2.1,r.2.2.1,r.2.2.2) (g.1,g.2) _ (n:Int)=some y from H),bA (show jF 1000 (g.1,g.2) l=some o from N)];refine CF (text:=FA) (nm:=(ByteArray.mk #[108,101,97,100,101,114])) (vars:=pS) h A u (agK h) XT (ajD z h E) i q V7 V7 (λc f m=>?_) (λc f m=>PE.quiet z h E f J m) t D B F;have⟨Q,V⟩:=PE.fin h E f J m;unfold kV;rw[bA (fZ a 4 V7 V7),e,if_neg Q2,if_neg Q2,if_neg Q2,bA (show vJ 1000 (g.1,g.2) c=some true from aiw h E v U R Q V)]
theorem SZ (x:UX) (r:V6 Int×V6 Int×V6 Int×aX) (b c:Int) (l a:nX) (n:x.2.2.1.length<=1048576):qO 1000 x r b c l a=some true:=by
 unfold qO;refine Hy (step:=pQ 1000 x r b c l a) (λz=>∃k:Nat,z.2=(k:Int)/\k<=x.2.2.1.length/\z.1.length=k) (λz=>x.2.2.1.length - z.2.toNat) (λz j g d=>?_) _ _ ⟨0,rfl,V7,rfl⟩ (by dsimp only;omega);have⟨i,o⟩:=z;obtain⟨k,rfl,m,f⟩:=g;dsimp only at f;unfold pQ;dsimp only;by_cases h:k<x.2.2.1.length
 .have e:wI .i64 ((k:Int)+1)=((k+1:Nat):Int):=by rw[Q9];rfl
  rw[Q3,Q7,bA (fZ _ 2 V7 V7),cR Q1,e];exact d _ ⟨k+1,rfl,V7,by simp[f]⟩ (by dsimp only;omega)
 .rw[Q0];exact Vi x r b c l a i
end Go.Proofs.YtflciafboapaaaaGreat
namespace Go.Sx
open Go.RowKit Go.ChangeShapes Go.WideShapes Go.ChangeAt Go.Proofs Go.Joins Go.Deep
section
variable {H:Type} {enc:V9×V0->H} {P:Program} {w:V2} {base:Nat} {spare:Nat->V4} {held:V4}
theorem Io {a:Type} (l:V6 a) (d:a):l=(List.range l.length).map λi=>l.getD i d:=by
 apply List.ext_getElem?;intro i;by_cases h:i<l.length
 .simp[h]
 .simp[h]
theorem acp {r:Reach} {x:Nat} {t:V9} {b:Array Field} {v:V0} {d:DataW H} {p:V6 MemPlace} (s:P.underlying t=some (.struct b)) (c:oneCellFields P b=true) (z:P.cellsOf t=b.size)
  (E:Value.okWide P w r x t v) (h:DataW.Trod enc P w base spare held t v d p):
  ∃(V:Nat->V0) (Y:Nat->DataW H×V6 MemPlace) (n:Nat),v = .agg ((List.range b.size).map V).toArray/\∀(i:Nat) (f:Field),b[i]?=some f->DataW.trod enc P w base spare held n f.type [V i]=some (Y i):=by
 obtain⟨a,rfl,l⟩:=okWide_struct s E;have⟨m,A⟩:=h;have⟨u,n,_,_,_,q,B⟩:=DataW.trod_struct s A;refine⟨λi=>a.toList.getD i undef,λi=>u.getD i (.nil,[]),n,?_,λi f j=>?_⟩
 .congr 1;apply Array.toList_inj.1;show a.toList=(List.range b.size).map λi=>a.toList.getD i undef;have y:b.size=a.toList.length:=by rw[<-z,<-l];rfl
  rw[y];exact Io a.toList undef
 .have D:i<b.size:=(zAh.1 j).1;have⟨o,k⟩:=hone_of c i f j;have g:=B i f j;have e:(Value.cells (.agg a)).toList=a.toList:=rfl;have C:i<a.toList.length:=by rw[Array.length_toList];omega
  rw[o,k,e,take1_drop _ _ undef C]at g;rw[g];have F:i<u.length:=V7
  simp[F]
theorem abP {k:IntKind} {e:V9} (a:P.underlying e=some (.int k)) {n:Nat} {v:V0} {x:DataW H×V6 MemPlace} (h:DataW.trod enc P w base spare held n e [v]=some x):∃y:Int,v = .int k y:=by
 have⟨y,b,_,_⟩:=DataW.trod_int a h;exact⟨y,by simpa using b⟩
theorem PO {e:V9} (a:P.underlying e=some .bool) {n:Nat} {v:V0} {x:DataW H×V6 MemPlace} (h:DataW.trod enc P w base spare held n e [v]=some x):∃y:V4,v = .bool y:=by
 have⟨y,b,_⟩:=DataW.trod_bool a h;exact⟨y,by simpa using b⟩
end
section
variable {H:Type} {enc:V9×V0->H} {P:Program} {w:V2} {base:Nat} {spare:Nat->V4} {held:V4}
theorem abc {u k l:IntKind} {t:V9} {e f g:Field} (J:P.underlying t=some (.struct #[e,f,g])) (d:oneCellFields P #[e,f,g]=true) (I:P.cellsOf t=3)
  (E:P.underlying e.type=some (.int u)) (F:P.underlying f.type=some (.int k)) (G:P.underlying g.type=some (.int l)) (n:Nat) (o:V6 V0) (x:DataW H×V6 MemPlace) (h:DataW.trod enc P w base spare held n t o=some x):
  ∃y:Int×Int×Int,((dX.int u).pair ((dX.int k).pair (dX.int l))).R w (λ_=>True) o y:=by
 have⟨O,m,_,_,A,j,s⟩:=DataW.trod_struct J h;have p:=s 0 e Z;have q:=s 1 f Z;have r:=s 2 g Z;have⟨L,B⟩:=hone_of d 0 e Z;have⟨M,C⟩:=hone_of d 1 f Z;have⟨N,D⟩:=hone_of d 2 g Z;rw[L,B]at p;rw[M,C]at q;rw[N,D]at r;rw[I]at A;have K:O.length=3:=j;rw[zA0 V7]at p q r;have⟨a,v,_,_⟩:=DataW.trod_int E p;have⟨b,z,_,_⟩:=DataW.trod_int F q;have⟨c,i,_,_⟩:=DataW.trod_int G r
 match o,A with
 | [d0,d1,d2],_=>
  simp at v z i;refine⟨(a,b,c),[.int u a],[.int k b,.int l c],?_,rfl,[.int k b],[.int l c],rfl,rfl,rfl⟩
  rw[v,z,i];rfl
end
end Go.Sx
section
set_option maxRecDepth 100000
namespace Go.Sx
open Go.RowKit Go.ChangeShapes Go.WideShapes Go.ChangeAt Go.Proofs Go.Joins Go.Deep
section
variable {H:Type} {enc:V9×V0->H}
theorem Tw {R:Os} (l:R.Started) {f:FuncId} {n:Func} {s:OpenSpec} {k:(H:Type)->V6 (DataW H)->V4} (X:s.cond=some k) {F:Stop.Interp} {r:V4} (O:prog.funcs[f]?=some n) (o:prog.inits.idxOf? f=none)
  (u:(n.params.toList.all λt=>prog.readableRec t&&decide (t<prog.types.size))=true) (D:n.resultTypes = #[4]) (b:s.vars=[])
  (y:∀a:V6 (DataW H),a.length=n.params.toList.length->(s.at F).fn H a={results:=[.lit (.bool true)],args:=a})
  (m:∃(w:V2) (c:Tape) (i:Input),w.os=R/\(w.forCall c i).Shaped prog/\i.vars=[]/\Input.okWide prog (w.forCall c i) .any w.heap.size f i/\
   s.pre6 enc prog n [] false (w.forCall c i).memory i.args/\({}:Assume).holds prog (lone (Frame.enter prog f i.args .normal) [] (w.forCall c i)))
  (I:∀(W:V2) (g:Nat) (args:Array V0) (a:V6 (DataW H)) (p:V6 MemPlace),k H a=true->(∀(j:Nat) t v,n.params[j]?=some t->args[j]?=some v->Value.okWide prog W .any g t v)->
   DataW.TrodAll enc prog W 0 (λ_=>true) true n.params.toList args.toList a p->Calls prog f args W λe S=>e = .returned (.bool true)/\Qx W S):
  ReturnsInHanded {} Go.Proofs.YtflciafboapaaaaGreat.Tryz.pinned.checked R f .any (s.pre6 enc prog n [] false) ((s.at F).post enc prog n false r false false):=by
 refine returnsInHanded_of_cond (C:=Go.Proofs.YtflciafboapaaaaGreat.Tryz.pinned.checked) X amB l o O m ?_;intro W g args a gs K G M _ A _;have P:=M.lt;have N:=M;obtain⟨p,q,L,T,rfl,_,_⟩:=M;rw[b]at T;obtain⟨rfl,rfl⟩:=trodVars_none T;rw[List.append_nil]at A;refine(I W g args a p A G L).mono ?_;rintro e S ⟨rfl,U⟩;refine⟨_,rfl,?_⟩
 have B:a.length=n.params.toList.length:=by
  have:∀(J:V6 V9) (z:V6 V0) (a:V6 (DataW H)) (p:V6 MemPlace),DataW.TrodAll enc prog W 0 (λ_=>true) true J z a p->a.length=J.length:=by
   intro J
   induction J with
   |nil=>intro z a p h;cases z<;>cases a<;>first|rfl|exact h.elim
   | cons t J ih =>
    intro z a p h;cases z with
    |nil=>exact h.elim
    |cons v z=>
     cases a with
     |nil=>exact h.elim
     |cons d a=>have⟨_,_,_,V,_⟩:=h;simp[ih z a _ V]
  exact this _ _ _ _ L
 have Q:(s.at F).fn H (a++[])={results:=[.lit (.bool true)],args:=a}:=by rw[List.append_nil];exact y a B
 have E:(s.at F).vars=[]:=b;refine⟨a,[],p++[],[],p,[],?_,?_,?_,?_,U.frame _,λh=>by cases h⟩
 .rw[E,<-b];exact N
 .rw[Q,D];exact trodAll_mk1 (shut_bool underlying4 true)
 .rw[Q];exact Iy akb U _ _ _ _ u L (λx Y=>P x (List.mem_append_left _ Y))
 .rw[Q,E];exact rfl
end
section
variable {H:Type} {enc:V9×V0->H} {P:Program} {w:V2} {base:Nat} {spare:Nat->V4} {held:V4}
def Um:DataW H->Nat
 | .slice l _=>l.length
 |_=>0
theorem Tx {l:Type} {r:dX l} {s:V2} {S:Nat->Prop} {t e:V9} (q:P.underlying t=some (.slice e)) {c:Nat} {v:V0} {x:DataW H×V6 MemPlace} (h:DataW.trod enc P w base spare held c t [v]=some x) {d:V6 l} (p:Gd r s S v d):d.length=Um x.1:=by
 have⟨j,b,k,_,_⟩:=p;rcases Deep.open_slice q h with⟨g,rfl⟩|⟨a,i,f,m,n,D,u,g,_,_,_,_,rfl,_⟩
 .have:Value.slice j d.length b = .slice none 0 0:=by rw[<-k];simpa using g
  injection this
 .have:Value.slice j d.length b = .slice (some a) i f:=by rw[<-k];simpa using g
  injection this with _ o _;simp[Um,o]
theorem Zl {r:Reach} {b0:Nat} {t:TypeId} {fs:Array Field} {v:V0} {d:DataW H} {p:List MemPlace} (hs:P.underlying t=some (.struct fs)) (hone:oneCellFields P fs=true) (hC:P.cellsOf t=fs.size)
  (hv:Value.okWide P w r b0 t v) (h:DataW.Trod enc P w base spare held t v d p):
  ∃(V:Nat->V0) (Y:Nat->DataW H×List MemPlace) (n:Nat) (ys:List (DataW H)),v = .agg ((List.range fs.size).map V).toArray/\d = .agg ys/\(∀(i:Nat) (f:Field),fs[i]?=some f->DataW.trod enc P w base spare held n f.type [V i]=some (Y i)/\(Y i).1∈ys):=by
 obtain⟨cs,rfl,hsz⟩:=okWide_struct hs hv;obtain⟨fuel,hf⟩:=h;obtain⟨xs,n,_,hx1,_,hlen,hg⟩:=DataW.trod_struct hs hf;refine⟨λi=>cs.toList.getD i undef,λi=>xs.getD i (.nil,[]),n,xs.map (·.1),?_,congrArg Prod.fst hx1,λi f hi=>?_⟩
 .congr 1;apply Array.toList_inj.1;show cs.toList=(List.range fs.size).map λi=>cs.toList.getD i undef;have h2:fs.size=cs.toList.length:=by rw[<-hC,<-hsz];rfl
  rw[h2];exact Io cs.toList undef
 .have hlt:i<fs.size:=(zAh.1 hi).1;obtain⟨o,k⟩:=hone_of hone i f hi;have g:=hg i f hi;have hcl:(Value.cells (.agg cs)).toList=cs.toList:=rfl;have hl:i<cs.toList.length:=by rw[Array.length_toList];omega
  rw[o,k,hcl,take1_drop _ _ undef hl]at g;have hx:i<xs.length:=by omega
  refine⟨by rw[g];simp[hx],?_⟩
  have e:(xs.getD i (.nil,[])).1=(xs[i]'hx).1:=by rw[zA9,zA0 hx];rfl
  rw[e];exact zAr.2 ⟨_,List.getElem_mem hx,rfl⟩
end
end Go.Sx
namespace Go.Proofs.YtflciafboapaaaaGreat
open Go.Sx
section
variable {H:Type}
theorem aaN (d:DataW H):1<=Rows.uptoBulk d:=by
 cases d with
 |lit l=>cases l<;>simp[Rows.uptoBulk]
 |_=>simp[Rows.uptoBulk]
theorem Ta:∀l:V6 (DataW H),l.length<=Rows.uptoBulkAll l
 | []=>by simp[Rows.uptoBulkAll]
 |d::l=>by
  have:=aaN d;have:=Ta l;simp only[Rows.uptoBulkAll,zAa];omega
theorem Nm {d:DataW H}:∀{l:V6 (DataW H)},d∈l->Rows.uptoBulk d<=Rows.uptoBulkAll l
 |x::l,h=>by
  simp only[Rows.uptoBulkAll];rcases zAn.1 h with rfl|h
  .omega
  .have:=Nm h;omega
theorem aeP (d:DataW H):Um d<=Rows.uptoBulk d:=by
 cases d with
 |slice l a=>
  have:=Ta l;simp only[Rows.uptoBulk,Um];omega
 |_=>exact Nat.zero_le _
theorem Vn {d:DataW H} {a b:V6 (DataW H)} (c:Rows.uptoSmall H b=true) (e:DataW.agg a∈b) (f:d∈a):Um d<=1048576:=by
 have g:Rows.uptoBulkAll b<=1048576:=zB7 c;have h:=Nm e;have i:=Nm f;have j:=aeP d;have k:Rows.uptoBulk (DataW.agg a)=Rows.uptoBulkAll a+1:=by simp[Rows.uptoBulk]
 omega
end
end Go.Proofs.YtflciafboapaaaaGreat
end
