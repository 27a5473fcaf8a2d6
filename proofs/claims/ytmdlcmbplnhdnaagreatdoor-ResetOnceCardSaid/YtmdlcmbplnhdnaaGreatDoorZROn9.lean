/- Models and proofs. Conditions: none. -/
import Derived.Test.YtmdlcmbplnhdnaaGreatDoorZROn8
import Derived.Test.YtmdlcmbplnhdnaaGreatDoorZROn5
import Derived.Test.YtmdlcmbplnhdnaaGreatDoorZROn2
import Derived.Test.YtmdlcmbplnhdnaaGreatDoorZROn6
import Derived.Test.YtmdlcmbplnhdnaaGreatDoorZROn7
import Derived.Test.YtmdlcmbplnhdnaaGreatDoorZROn1
import Derived.OpenShut
import Derived.LaidLaws
import Derived.LaidHandle
import Derived.Lay
import Derived.MakeChecks
set_option linter.unusedVariables false
set_option linter.unusedSimpArgs false
set_option maxHeartbeats 4000000
set_option maxRecDepth 20000
namespace Go.Proofs.YtmdlcmbplnhdnaaGreatDoor
open Go Go.Sx
def rH (g:GR):aP:=[(g.2.length:Int),-1,1,1,3,1]
theorem cfS {g:GR} {c:bI} (k:0<g.2.length) (a:Au g c dQ):Lz g (rH g) c:=by
 refine⟨a.len,λv b=>⟨a.row v b,λx d=> ?_⟩⟩
 obtain⟨⟨f,h⟩,i,j⟩:=Me (W:=PC) a b;obtain⟨l,m,n,o⟩:=Ut a b;have d:x<6:=d;unfold WO
 match x,d with
 |0,_=>
  have e:at' (rH g) ((0:Nat):Int)=(g.2.length:Int):=rfl;rw[e,if_neg (by omega)];exact⟨f,h⟩
 |1,_=>
  have e:at' (rH g) ((1:Nat):Int) = -1:=rfl;rw[e,if_pos Z];exact⟨i,j⟩
 |2,_=>
  have e:at' (rH g) ((2:Nat):Int)=1:=rfl;rw[e,if_neg (by omega)];show 0<=iB c v 2∧iB c v 2<=1;omega
 |3,_=>
  have e:at' (rH g) ((3:Nat):Int)=1:=rfl;rw[e,if_neg (by omega)];show 0<=iB c v 3∧iB c v 3<=1;omega
 |4,_=>
  have e:at' (rH g) ((4:Nat):Int)=3:=rfl;rw[e,if_neg (by omega)];show 0<=iB c v 4∧iB c v 4<=3;omega
 |5,_=>
  have e:at' (rH g) ((5:Nat):Int)=1:=rfl;rw[e,if_neg (by omega)];show 0<=iB c v 5∧iB c v 5<=1;omega
def YK (c:bI) (v:Nat):Prop:=iB c v 2=0∧iB c v 5=0∧iB c v 3=iB c 0 3
section
variable {g:GR} (hV:VG g) (hc:LA g) {d:List Int} (hD:qK g 0 d)
 include hV
theorem adq {c:List (List Int)} (n:c.length=g.2.length) (h:∀v,v<g.2.length->(at' c (v:Int)).length=6):((∀v,v<g.2.length->YK c v)->bK (jJ c) 1000 0=some true)∧(¬(∀v,v<g.2.length->YK c v)->bK (jJ c) 1000 0=some false):=by
 have l:=hV.n24;have m:(at' c 0).length=6:=h 0 (by have:=hV.n1;omega);refine wW (step:=jJ c) (K:=some true) (bad:=some false) g.2.length (YK c) (λk=>(k:Int)) (λk i f a=> ?_) (λk i f a=> ?_) (λi=> ?_) 1000 (by omega)
 ·have:=h k f;unfold jJ pE;rw[if_pos (by omega),cC (by omega),cC (by omega),if_neg (λq=>q a.1),cC (by omega),if_neg (λq=>q a.2.1),cC (by omega),cC (by omega),cC (by omega),if_neg (λq=>by rw[decide_eq_true_eq]at q;exact q a.2.2),DG (by omega)]
 ·have:=h k f;unfold jJ pE;rw[if_pos (by omega),cC (by omega),cC (by omega)];by_cases b:at' (at' c (k:Int)) 2=0
  ·rw[if_neg (by simpa using b),cC (by omega)];by_cases e:at' (at' c (k:Int)) 5=0
   ·rw[if_neg (by simpa using e),cC (by omega),cC (by omega),cC (by omega),if_pos];rw[decide_eq_true_eq];exact λj=>a ⟨b,e,j⟩
   ·rw[if_pos e,if_pos Z]
  ·rw[if_pos b,if_pos Z]
 ·unfold jJ;rw[if_neg (by omega)];rfl
 include hc hD
theorem SP {c:List (List Int)} (t:Au g c dQ):∃b,gR 1000 g c=some b∧(b=true↔Ep g d c∧Qt g.2.length (sC c) (bC c)∧∀v,v<g.2.length->rC c v=0):=by
 have C:=hV.n24;have I:=hV.n1;have e:Lz g (rH g) c:=cfS (by omega) t;have f:∀v,v<g.2.length->(at' c (v:Int)).length=6:=λv a=>(e.2 v a).1;have F:=Jd hV (hs:=rH g) (by simp[rH]) c;have z:fV 1000 (g.1,g.2)=some true:=(BK hV).1 hc;have A:kF 1000 g c=some true:=by
  unfold kF Df jK;rw[z,bF Z,bF Z,if_pos Z];have:eK 1000 (g.1,g.2) c [(g.1.length:Int),-1,1,1,3,1]=eK 1000 g c (rH g):=by rw[hV.len];rfl
  rw[this,F.1 e];rfl
 have o:=e.1;have n:Lz g [(g.2.length:Int),-1] (c.map λl=>l.take 2):=e.cut (m:=2) (by simp[rH]);have p:∀v,v<g.2.length->(EH g d v (at' (c.map λl=>l.take 2) (v:Int))↔EH g d v (at' c (v:Int))):=λv a=>by
  rw[Ho (by omega)];unfold EH;have G:at' ((at' c (v:Int)).take 2) 0=at' (at' c (v:Int)) 0:=Ic (i:=0) (by omega);have u:at' ((at' c (v:Int)).take 2) 1=at' (at' c (v:Int)) 1:=Ic (i:=1) (by omega);rw[G,u]
 obtain⟨u,H⟩:=NQ hV hD Z hc (c:=c.map λl=>l.take 2) n;have B:gR 1000 g c=Option.bind (uR 1000 g (c.map λl=>l.take 2)) λr=>pD 1000 c (!r):=by
  unfold gR;rw[show kF 1000 (g.1,g.2) c=some true from A,bF Z,if_neg (by simp),cC (by omega)];have q:=eO (step:=rK 1000 g c) (K:=vY 1000 g c (Je 2 c c.length)) c.length (λk=>((k:Int),Je 2 c k)) (λk y D=> ?_) (λy=> ?_) 1000 (by omega)
  ·rw[show(((0:Nat):Int),Je 2 c 0)=((0:Int),List.replicate (Int.toNat (c.length:Int)) ([]:List Int)) by simp[Je]]at q;rw[q,VZ];rfl
  ·have E:=f k (by omega);unfold rK;dsimp only;rw[if_pos (by omega),cC (by omega),cC (by omega),cC (by rw[V_ (by omega)];omega),DG (by omega)];have:=TR (m:=2) D;rw[show Int.toNat (k:Int)=k from rfl,show Int.toNat (2:Int)=2 from rfl,this]
  ·unfold rK;dsimp only;rw[if_neg (by omega)]
 obtain⟨w,x⟩:=adq hV o f;rw[B];by_cases s:∀v,v<g.2.length->EH g d v (at' c (v:Int))
 ·rw[u λv a=>(p v a).2 (s v a),bF Z];unfold pD;rw[if_neg (by simp)];by_cases j:∀v,v<g.2.length->YK c v
  ·exact⟨true,w j,⟨λ_=>⟨s,λv a=>⟨(j v a).1,(j v a).2.2⟩,λv a=>(j v a).2.1⟩,λ_=>rfl⟩⟩
  ·exact⟨false,x j,⟨λh=>(by cases h),λh=>absurd (λv a=>⟨(h.2.1 v a).1,h.2.2 v a,(h.2.1 v a).2⟩) j⟩⟩
 ·rw[H λh=>s λv a=>(p v a).1 (h v a),bF Z];unfold pD;rw[if_pos (by simp)];exact⟨false,rfl,⟨λh=>(by cases h),λh=>absurd (λv a=>h.1 v a) s⟩⟩
end
theorem ZI {g:GR} (m:VM g.1 g.2) (h:∀v:Nat,1<=v->v<g.2.length->∃u:Nat,u<v∧lX g.2 u v):LA g:=by
 have f:VG g:=m.vg;have t:=f.n1;have j:∀v,v<g.2.length->∃k,wQ g 0 k v:=by
  intro v
  induction v using Nat.strongRecOn with
  | _ v ih =>
   intro c;by_cases l:v=0
   ·subst l;exact⟨0,rfl,c⟩
   ·obtain⟨u,e,x,s,p⟩:=h v (by omega) c;obtain⟨k,r⟩:=ih u e (by omega);obtain⟨i,q,d⟩:=DR s;refine⟨k+1,u,r,i,q,?_⟩
    show(at' (at' g.2 (u:Int)) (i:Int)).1=_;rw[d,p]
 intro u v e c;obtain⟨a,n⟩:=j u e;obtain⟨b,o⟩:=j v c;exact⟨a+b,(Fv f n).trans o⟩
structure YJ (g:GR) (d:aP) (E:Nat) (par fp:Nat->Nat):Prop where
 v:VG g
 c:LA g
 dist:qK g 0 d
 d0:∀v,v<g.2.length->0<=D d v
 p:TP g d par fp
 e:∀v,v<g.2.length->D d v<=(E:Int)
 en:E<g.2.length
 ecc:q_ 1000 g 0=some (E:Int)
theorem aiC (x:PY) (a:Nat) (n:1<=a) (k:a<=24):∃g d E e j,gC 1000 x (a:Int)=some g∧g.2.length<=a∧YJ g d E e j:=by
 obtain⟨g,t,i,w,q⟩:=Mf x a n k;have h:VG g:=i.vg;have y:=h.n1;have l:=ZI i q;obtain⟨r,z,o⟩:=HK h l (s:=0) (by omega);obtain⟨d,_,f,m,v,c,A⟩:=o;have b:∀v,v<g.2.length->0<=D d v:=λv c=>(VW h (s:=0) (by omega) f).2 l v (by rw[f.len];exact c);obtain⟨e,j,p⟩:=afW h f b;have B:=b v c;have C:=f.hi v c;have u:r<(g.2.length:Int):=by
  have F:=f.lt c;omega
 refine⟨g,d,r.toNat,e,j,t,w,⟨h,l,f,b,p,λv c=> ?_,by omega,?_⟩⟩
 ·have:=m v c;omega
 ·rw[Int.toNat_of_nonneg (by omega)];exact z
theorem abf:EJ RS=Ca:=rfl
theorem OQ:w_ dQ.length RS=true:=aaE
theorem agb:∀x,x<dQ.length->CS (at' dQ (x:Int)) ∧ -100000<=(at' dQ (x:Int)).2.2.1∧(at' dQ (x:Int)).2.2.1<=(at' dQ (x:Int)).2.2.2.1:=by
 intro x a;have a:x<6:=a
 match x,a with
 |0,_=>exact⟨⟨by decide,by decide,by decide⟩,by decide,by decide⟩
 |1,_=>exact⟨⟨by decide,by decide,by decide⟩,by decide,by decide⟩
 |2,_=>exact⟨⟨by decide,by decide,by decide⟩,by decide,by decide⟩
 |3,_=>exact⟨⟨by decide,by decide,by decide⟩,by decide,by decide⟩
 |4,_=>exact⟨⟨by decide,by decide,by decide⟩,by decide,by decide⟩
 |5,_=>exact⟨⟨by decide,by decide,by decide⟩,by decide,by decide⟩
theorem KE {p:sU} {g:GR} (d:VG g) (R:List RL) (c:bI):Bf 0 (0,0,0,0,dK .u32 ((oA (aO p g) R (dY g) c:Nat):Int) 16777215) 0 0 (oA (aO p g) R (dY g) c):=by
 have a:oA (aO p g) R (dY g) c<16777216:=Na.lt d (GC (aO p g) R (dY g) c);have b:dK .u32 ((oA (aO p g) R (dY g) c:Nat):Int) 16777215=((oA (aO p g) R (dY g) c:Nat):Int):=by
  rw[show(16777215:Int)=((16777215:Nat):Int)from rfl,CW (by omega) (by omega),show(16777215:Nat)=2^24 - 1 from rfl,Nat.and_two_pow_sub_one_eq_mod,Nat.mod_eq_of_lt (by omega)]
 exact⟨rfl,⟨by dsimp only;omega,by dsimp only;omega⟩,rfl,rfl,b,by omega,a⟩
abbrev pS:sU:=(ByteArray.mk #[114,101,115,101,116],dQ,[])
def CN (g:GR) (d:aP) (c:bI):Prop:=Ep g d c∧Qt g.2.length (sC c) (bC c)∧∀v,v<g.2.length->rC c v=0
structure YN (g:GR) (kind:Int) (k len:Nat) (cs:yA) (cnts:List CT):Prop where
 l1:cs.length=k+1
 l2:cnts.length=k+1
 le:k<=len
 step:∀j,j<k->∃t,(∀i,t.testBit i=true->(oA (aO pS g) RS (dY g) (at' cs (j:Int))).testBit i=true)∧oA (aO pS g) RS (dY g) (at' cs (j:Int))≠0∧at' cs ((j+1:Nat):Int)=gT (aO pS g) dQ RS (at' cs (j:Int)) t∧(kind=4->t=oA (aO pS g) RS (dY g) (at' cs (j:Int)))
 fin:k=len∨oA (aO pS g) RS (dY g) (at' cs (k:Int))=0
section
variable {g:GR} {d:List Int} {E:Nat} {par fp:Nat->Nat} (N:YJ g d E par fp) {kind:Int} (hk1:1<=kind) (hk4:kind<=4) {c0:List (List Int)} {ws:List Int} (hws:ws.length<=900) (hw:∀k:Nat,k<ws.length->∃m:Nat,at' ws (k:Int)=(m:Int)∧m<4294967296)
 include N
theorem adb {c:List (List Int)} (f:Au g c dQ):(CN g d c->gR 1000 g c=some true)∧(¬CN g d c->gR 1000 g c=some false):=by
 obtain⟨b,a,e⟩:=SP N.v N.c N.dist f;refine⟨λh=>by rw[a,e.2 h],λh=> ?_⟩
 cases b with
 |true=>exact absurd (e.1 Z) h
 |false=>exact a
theorem GB {c:List (List Int)} (a:Au g c dQ):oA (aO pS g) RS (dY g) c=0↔CN g d c:=adp N.v N.dist N.d0 N.p a
theorem XQ (a:Au g c0 dQ):Nb g d E par (λv=>(D d v).toNat) (.tree 0) c0:=⟨a,Nat.zero_le _,Li N.d0 λv b=>(Me (W:=PC) a b).1.1⟩
 include hk1 hk4 hws hw
theorem afN {i:SR} (s:Nb g d E par (λv=>(D d v).toNat) i c0):
  ∃k l f,jS 1000 uH g kind c0 ws=some (l,f,true)∧YN g kind k ws.length l f∧at' l 0=c0∧(∀j,j<=k->Nm g d E par j (at' l (j:Int)) (at' f (j:Int)))∧
   (kind=4->∀j,j<=k->∃B,Bf j (at' f (j:Int)) j B (oA (aO pS g) RS (dY g) (at' l (j:Int)))∧xS (zU E) (7*E+4) (Nb g d E par (λv=>(D d v).toNat)) (TsR g d E par (λv=>(D d v).toNat)) j (oA (aO pS g) RS (dY g) (at' l (j:Int))) (at' l (j:Int))):=by
 have A:=XS (p:=pS) N.v N.dist N.d0 N.p (HJ N.v) N.e;have x:=Of (p:=pS) N.v N.dist N.d0 N.p (HJ N.v) N.e s;obtain⟨k,l,f,F,G,H,I,r,J,K⟩:=OS (OE 1000) abf N.v (HJ N.v) OQ hk1 hk4 s.1 hws hw (λk c o=>Nm g d E par k c o∧(k=0->c=c0)∧
   (kind=4->∃B,Bf k o k B (oA (aO pS g) RS (dY g) c)∧xS (zU E) (7*E+4) (Nb g d E par (λv=>(D d v).toNat)) (TsR g d E par (λv=>(D d v).toNat)) k (oA (aO pS g) RS (dY g) c) c))
  ⟨x,λ_=>rfl,λ_=>⟨0,KE N.v RS c0,xS.start A s⟩⟩
  (λk c o t y L U z Q q h hk4 n=>⟨QO (p:=pS) N.v N.dist N.d0 N.p (HJ N.v) N.e (by omega) z.1 q h n,λe=>by omega,λe=>by
   obtain⟨B,M,O⟩:=z.2.2 e;have R:t<16777216:=Na.lt N.v (λi P=>(zA.1 (h i P)).1);have u:oA (aO pS g) RS (dY g) (gT (aO pS g) dQ RS c t)<16777216:=Na.lt N.v (GC (aO pS g) RS (dY g) _);obtain⟨T,C,S,a,b,c⟩:=EF A O ⟨h,rfl⟩ M (by omega) R q u n;obtain⟨rfl,rfl⟩:=c (hk4 e);exact⟨C,a,b⟩⟩)
 exact⟨k,l,f,F,⟨G,H,I,J,K⟩,(r 0 (Nat.zero_le _)).2.1 Z,λj w=>(r j w).1,λe j w=>(r j w).2.2 e⟩
end
end Go.Proofs.YtmdlcmbplnhdnaaGreatDoor
namespace Go.Proofs.YtmdlcmbplnhdnaaGreatDoor
open Go.Sx
def s_ (U:Nat) (a:ByteArray):Option ((ByteArray×Int×Int×Int×Int×Int)):=
 some ((a,(2:Int),(0:Int),(0:Int),(0:Int),(0:Int)))
theorem Qn:aT Tryz.prog 33:=Tryz.call33
theorem Ba (U:Nat) {a:ByteArray} (r:Pp) (h:s_ U a=some r):
  aY Tryz.prog 33 #[vS (a)] [] (λx:Unit=>Value.agg #[vS (r.1),vI (r.2.1),vI (r.2.2.1),vI (r.2.2.2.1),vI (r.2.2.2.2.1),vI (r.2.2.2.2.2)]) (λx l=>l) (λ_ l=>l):=by
 refine aY.of Tryz.func33 Z Tryz.ntmps33 Z λc=>?_;unfold s_ at h;refine aU<|aG (aL.alloc (cs:=vD3) Z Z) Z λb=>aM<|aU<|aA Z ?_;refine aC (BD (r:=Value.agg #[vS (a),vI (2:Int),vI (0:Int),vI (0:Int),vI (0:Int),vI (0:Int)]) Z Z (by intro w;simp[Instr.build,Instr.fill,eL,dU,dC,eM,eN,dV,f_])) Z ?_;refine bQ 0 (vs:=[vS (a),vI (2:Int),vI (0:Int),vI (0:Int),vI (0:Int),vI (0:Int)]) Z Z Z Z Z Z<|aM<|aS ?_;cases h;exact iI () Z Z (RV.cell 0 Z Z Z Z) .nil aF.nil
def FK (U:Nat)  : Option X_:=
 Option.bind (FJ U) λc=>(Option.bind (s_ U (ByteArray.mk #[115])) λa=>(Option.bind (s_ U (ByteArray.mk #[98])) λb=>(ck ((List.length c:Int)+(List.length ([(a.1,a.2.1,a.2.2.1,a.2.2.2.1,a.2.2.2.2.1,a.2.2.2.2.2),(b.1,b.2.1,b.2.2.1,b.2.2.2.1,b.2.2.2.2.1,b.2.2.2.2.2)]):Int)<=1099511627) (some (c++([(a.1,a.2.1,a.2.2.1,a.2.2.2.1,a.2.2.2.2.1,a.2.2.2.2.2),(b.1,b.2.1,b.2.2.1,b.2.2.2.1,b.2.2.2.2.1,b.2.2.2.2.2)]))))))
theorem abZ:aT Tryz.prog 31:=Tryz.call31
theorem MQ (U:Nat)  (r:Ya) (h:FK U  = some r):
  aY Tryz.prog 31 #[] [] (λx:Value=>x) (λx l=>Ar gZ x r::l) (λ_ l=>l):=by
 refine aY.of Tryz.func31 Z Tryz.ntmps31 Z λc=>?_;refine aU<|aD Z<|aM<|aU<|fN h λg j h=>aG (aL.callQ acf (MP U  g j) Z .nil) Z λn=>fN h λa k h=>aG (aL.callQ Qn (Ba U  a k) Z .nil) Z λo=>fN h λb m h=>aG (aL.callQ Qn (Ba U  b m) Z .nil) Z λp=>aG (bZ (e:=gZ) ([((a.1,a.2.1,a.2.2.1,a.2.2.2.1,a.2.2.2.2.1,a.2.2.2.2.2)),((b.1,b.2.1,b.2.2.1,b.2.2.2.1,b.2.2.2.2.1,b.2.2.2.2.2))]) [(0,Value.agg #[vS (a.1),vI (a.2.1),vI (a.2.2.1),vI (a.2.2.2.1),vI (a.2.2.2.2.1),vI (a.2.2.2.2.2)]),(1,Value.agg #[vS (b.1),vI (b.2.1),vI (b.2.2.1),vI (b.2.2.2.1),vI (b.2.2.2.2.1),vI (b.2.2.2.2.2)])] Z Z Z Z (Jn (vS (a.1)) (vI (a.2.1)) (vI (a.2.2.1)) (vI (a.2.2.2.1)) (vI (a.2.2.2.2.1)) (vI (a.2.2.2.2.2)) (vS (b.1)) (vI (b.2.1)) (vI (b.2.2.1)) (vI (b.2.2.2.1)) (vI (b.2.2.2.2.1)) (vI (b.2.2.2.2.2))) Z Z Z) Z λi=>dH h λd h=>aG (eJ 1 g_ Z Z Z (bD (aE.res 0 Z) g_) Z Z Z Z d Z) Z λf=>aD Z<|aM<|aS ?_;cases h;exact iI (f) Z Z (RV.tmp Z) (aZ.ix [1] Z Z) aF.nil
def BX (U:Nat)  : Option X_:=
 Option.bind (FK U) λc=>(Option.bind (vR U (ByteArray.mk #[121]) (3:Int) (0:Int) (0:Int)) λa=>(Option.bind (s_ U (ByteArray.mk #[114])) λb=>(ck ((List.length c:Int)+(List.length ([(a.1,a.2.1,a.2.2.1,a.2.2.2.1,a.2.2.2.2.1,a.2.2.2.2.2),(b.1,b.2.1,b.2.2.1,b.2.2.2.1,b.2.2.2.2.1,b.2.2.2.2.2)]):Int)<=1099511627) (some (c++([(a.1,a.2.1,a.2.2.1,a.2.2.2.1,a.2.2.2.2.1,a.2.2.2.2.2),(b.1,b.2.1,b.2.2.1,b.2.2.2.1,b.2.2.2.2.1,b.2.2.2.2.2)]))))))
theorem abW:aT Tryz.prog 12:=Tryz.call12
theorem MR (U:Nat)  (r:Ya) (h:BX U  = some r):
  aY Tryz.prog 12 #[] [] (λx:Value=>x) (λx l=>Ar gZ x r::l) (λ_ l=>l):=by
 refine aY.of Tryz.func12 Z Tryz.ntmps12 Z λc=>?_;refine aU<|aD Z<|aM<|aU<|fN h λg j h=>aG (aL.callQ abZ (MQ U  g j) Z .nil) Z λn=>fN h λa k h=>aG (aL.callQ VC (Dx U  a k) Z .nil) Z λo=>fN h λb m h=>aG (aL.callQ Qn (Ba U  b m) Z .nil) Z λp=>aG (bZ (e:=gZ) ([((a.1,a.2.1,a.2.2.1,a.2.2.2.1,a.2.2.2.2.1,a.2.2.2.2.2)),((b.1,b.2.1,b.2.2.1,b.2.2.2.1,b.2.2.2.2.1,b.2.2.2.2.2))]) [(0,Value.agg #[vS (a.1),vI (a.2.1),vI (a.2.2.1),vI (a.2.2.2.1),vI (a.2.2.2.2.1),vI (a.2.2.2.2.2)]),(1,Value.agg #[vS (b.1),vI (b.2.1),vI (b.2.2.1),vI (b.2.2.2.1),vI (b.2.2.2.2.1),vI (b.2.2.2.2.2)])] Z Z Z Z (Jn (vS (a.1)) (vI (a.2.1)) (vI (a.2.2.1)) (vI (a.2.2.2.1)) (vI (a.2.2.2.2.1)) (vI (a.2.2.2.2.2)) (vS (b.1)) (vI (b.2.1)) (vI (b.2.2.1)) (vI (b.2.2.2.1)) (vI (b.2.2.2.2.1)) (vI (b.2.2.2.2.2))) Z Z Z) Z λi=>dH h λd h=>aG (eJ 1 g_ Z Z Z (bD (aE.res 0 Z) g_) Z Z Z Z d Z) Z λf=>aD Z<|aM<|aS ?_;cases h;exact iI (f) Z Z (RV.tmp Z) (aZ.ix [1] Z Z) aF.nil
end Go.Proofs.YtmdlcmbplnhdnaaGreatDoor
namespace Go.Proofs.YtmdlcmbplnhdnaaGreatDoor
open Go Go.Sx
theorem adI:BX 1000=some dQ:=by kernel_rfl
section
variable {g:GR} {d:List Int} {E:Nat} {par fp:Nat->Nat} (N:YJ g d E par fp)
 include N
theorem aiy {c:List (List Int)} (a:Au g c dQ):∃b,gR 1000 g c=some b∧(b=true↔CN g d c):=SP N.v N.c N.dist a
end
def YI (n:Nat) (a:Nat->Nat) (c:bI):Prop:=
 (Qt n (sC c) (bC c)∧∃u,u<n∧rC c u≠0)∨(sC c 0≠0∧AG n a (sC c) (bC c)∧CL n a c)∨(Qt n (sC c) (bC c)∧∀v,v<n->rC c v=0∧yC c v=0)
def OI (n:Nat) (a:Nat->Nat) (z:Int) (h:Nat->Int) (c:bI):Prop:=
 (Qt n (sC c) (bC c)∧(∃u,u<n∧rC c u≠0)∧bC c 0=z∧∀v,v<n->h v=0)∨
 (sC c 0≠0∧AG n a (sC c) (bC c)∧CL n a c∧bC c 0≠z∧∀v,v<n->(bC c v=bC c 0->h v=1)∧(bC c v≠bC c 0->h v=0∧bC c v=z))∨
 (Qt n (sC c) (bC c)∧(∀v,v<n->rC c v=0∧yC c v=0)∧∀v,v<n->h v=1)
section
variable {n E:Nat} {par dp:Nat->Nat} {c c':List (List Int)} {t:Nat} {z:Int} {h h':Nat->Int}
theorem OI.done (b:OI n par z h c) (d:0<n) (a:Qt n (sC c) (bC c)) (e:∀v,v<n->rC c v=0):∀v,v<n->h v=1:=by
 rcases b with⟨_,⟨u,f,q⟩,_⟩|⟨q,_⟩|⟨_,_,q⟩
 ·exact absurd (e u f) q
 ·exact absurd (a 0 d).1 q
 ·exact q
theorem OI.le (b:OI n par z h c):∀v,v<n->h v=0∨h v=1:=by
 rcases b with⟨_,_,_,q⟩|⟨_,_,_,_,q⟩|⟨_,_,q⟩
 ·exact λv a=> .inl (q v a)
 ·intro v a;by_cases e:bC c v=bC c 0
  ·exact .inr ((q v a).1 e)
  ·exact .inl ((q v a).2 e).1
 ·exact λv a=> .inr (q v a)
variable (hT:RT n E par dp) (hS:StS n par c t c')
 include hT hS
theorem aaU (o:YI n par c) (g:¬(Qt n (sC c) (bC c)∧∀v,v<n->rC c v=0)):YI n par c':=by
 have l:=hS.ws;rcases o with⟨a,u,m,s⟩|⟨e,d,k⟩|⟨a,q⟩
 ·rcases Iu hT hS a with⟨_,_,x,_,y,_,A⟩|⟨f,_,b⟩
  ·exact .inr (.inl ⟨x,A,y⟩)
  ·exact .inl ⟨f,u,m,(b u m).1 s⟩
 ·rcases Ec hT l d e with⟨i,j⟩|⟨r,p,i,j,a⟩
  ·exact .inr (.inl ⟨by rw[i];exact e,DO hT l d,Ig hT hS d e k j⟩)
  ·exact .inr (.inr ⟨a,If hT hS k p r⟩)
 ·exact absurd ⟨a,λv w=>(q v w).1⟩ g
theorem aas (O:OI n par z h c) (F:¬(Qt n (sC c) (bC c)∧∀v,v<n->rC c v=0)) (K:∀v,v<n->(bC c v=0∨bC c v=1)∧(bC c' v=0∨bC c' v=1)) (m:∀v,v<n->h' v=h v+if bC c v=bC c' v then 0 else 1):OI n par z h' c':=by
 have s:=hS.ws;have B:=hT.n1;rcases O with⟨d,⟨u,M,R⟩,f,j⟩|⟨A,C,D,f,j⟩|⟨d,q,_⟩
 ·
  have g:∀v,v<n->v≠0->bC c' v=bC c v:=λv b J=>by
   obtain⟨a,_⟩:=hT.up v b J;exact(s.rest b J (d v b).1 (by rw[(d v b).2,(d _ a).2])).2
  rcases Iu hT hS d with⟨_,_,S,x,T,_,U⟩|⟨p,_,w⟩
  ·refine .inr (.inl ⟨S,U,T,λe=>x (by rw[e,f]),λv b=>⟨λe=> ?_,λe=> ?_⟩⟩)
   ·have y:v=0:=Decidable.byContradiction λq=>by
     rw[g v b q,(d v b).2]at e;exact x e.symm
    subst y;rw[m 0 b,j 0 b,if_neg λq=>x q.symm];rfl
   ·have y:v≠0:=λq=>e (by rw[q]);rw[m v b,j v b,g v b y,if_pos Z,(d v b).2];exact⟨rfl,f⟩
  ·have l:bC c' 0=bC c 0:=by
    rcases s.cases B with e|⟨_,e,_⟩|⟨_,_,e,_⟩|⟨_,_,_,e,_⟩
    ·exact e.2
    ·exact absurd Z e.1
    ·exact absurd (d 0 B).1 e.1
    ·exact absurd (p 0 B).1 e
   refine .inl ⟨p,⟨u,M,(w u M).1 R⟩,by rw[l,f],λv b=> ?_⟩;have:bC c' v=bC c v:=by
    by_cases e:v=0
    ·rw[e,l]
    ·exact g v b e
   rw[m v b,j v b,this,if_pos Z];rfl
 ·
  have H:=D.1;have i:∀v,v<n->bC c v=bC c 0->bC c' 0=bC c 0->bC c' v=bC c v:=λv b e y=>by
   rcases s.cases b with q|⟨_,q,_,x⟩|⟨_,_,_,_,q⟩|⟨_,_,q,_⟩
   ·exact q.2
   ·obtain⟨a,_⟩:=hT.up v b q.1;by_cases r:bC c (par v)=bC c 0
    ·rw[x,r,e]
    ·exact absurd e (((H _ a).2 r).2 v b q.1 Z)
   ·exact q
   ·exact absurd q A
  rcases Ec hT s C A with⟨I,o⟩|⟨Q,L,I,o,d⟩
  ·refine .inr (.inl ⟨by rw[I];exact A,DO hT s C,Ig hT hS C A D o,by rw[o];exact f,λv b=> ?_⟩);rw[o];by_cases e:bC c v=bC c 0
   ·have k:=i v b e o;refine⟨λ_=> ?_,λq=>absurd (by rw[k,e]) q⟩
    rw[m v b,k,if_pos Z,(j v b).1 e];rfl
   ·obtain⟨G,N⟩:=(j v b).2 e;refine⟨λq=> ?_,λq=> ?_⟩
    ·rw[m v b,G,if_neg λr=>e (by rw[r,q])];rfl
    ·have g:=K v b;have l:=K 0 B;have:bC c' v=bC c v:=by omega
     rw[m v b,G,this,if_pos Z];exact⟨rfl,N⟩
  ·have P:=Sa hT H L;refine .inr (.inr ⟨d,If hT hS D L Q,λv b=> ?_⟩);have e:bC c v=bC c 0:=by
    by_cases e:v=0
    ·rw[e]
    ·exact(P v b e).2
   rw[m v b,i v b e o,if_pos Z,(j v b).1 e];rfl
 ·exact absurd ⟨d,λv b=>(q v b).1⟩ F
end
theorem OA {g:GR} {d:aP} {E:Nat} {a b:Nat->Nat} {c:bI} {i:SR} (h:Nb g d E a b i c) (e:zU E i=7*E+4):CN g d c:=by
 obtain⟨_,h⟩:=h
 match i,h,e with
 | .tree k,⟨q,_⟩,he=>simp only[zU]at he;omega
 | .good k,⟨q,_⟩,he=>simp only[zU]at he;omega
 | .lev false k,⟨q,_⟩,he=>simp only[zU]at he;omega
 | .lev true k,⟨q,_⟩,he=>simp only[zU]at he;omega
 | .low false k,⟨q,_⟩,he=>simp only[zU]at he;omega
 | .low true k,⟨q,_⟩,he=>simp only[zU]at he;omega
 | .ask k u,⟨q,_⟩,he=>simp only[zU]at he;omega
 | .done,hi,_=>exact hi
theorem aiA {g:GR} {d:aP} {c a:bI} (t:Au g c dQ) (n:CN g d c) (u:a.length=g.2.length) (e:∀v,v<g.2.length->(at' a (v:Int)).length=6)
  (h:∀v,v<g.2.length->iB a v 0=iB c v 0∧iB a v 1=iB c v 1∧iB a v 2=iB c v 2∧iB a v 3=iB c v 3∧(0<=iB a v 4∧iB a v 4<=3)∧(0<=iB a v 5∧iB a v 5<=1)) (s:0<g.2.length):Au g a dQ∧Ep g d a∧Qt g.2.length (sC a) (bC a):=by
 refine⟨⟨u,e,λv b x f=> ?_⟩,λv b=> ?_,λv b=> ?_⟩
 ·obtain⟨i,j,l,m,o,p⟩:=h v b;have f:x<6:=f;have k:=t.ok v b x f
  match x,f,k with
  |0,_,k=>exact(by rw[show val a v 0=val c v 0 from i];exact k)
  |1,_,k=>exact(by rw[show val a v 1=val c v 1 from j];exact k)
  |2,_,k=>exact(by rw[show val a v 2=val c v 2 from l];exact k)
  |3,_,k=>exact(by rw[show val a v 3=val c v 3 from m];exact k)
  | 4, _, _ =>
   have r:hi g (at' dQ ((4:Nat):Int)) v=3:=by
    show(3:Int)+0*(g.2.length:Int)+0*jT g g.1.length=3;omega
   rw[r];exact o
  |5,_,_=>exact p
 ·obtain⟨i,j,_⟩:=h v b;show iB a v 0=_∧nL g d v (iB a v 1);rw[i,j];exact n.1 v b
 ·obtain⟨_,_,l,m,_⟩:=h v b;obtain⟨_,_,_,q,_⟩:=h 0 s;show iB a v 2=0∧iB a v 3=iB a 0 3;rw[l,m,q];exact n.2.1 v b
section
variable {g:GR} {d:List Int} {E:Nat} {par fp:Nat->Nat} (N:YJ g d E par fp) {kind:Int} (hk1:1<=kind) (hk4:kind<=4) {c0:List (List Int)} {ws:List Int} (hws:ws.length<=900) (hw:∀k:Nat,k<ws.length->∃m:Nat,at' ws (k:Int)=(m:Int)∧m<4294967296)
 include N hws hw
theorem afR (u:7*E+4<=ws.length) (q:Au g c0 dQ):∃k b a,jS 1000 uH g 4 c0 ws=some (b,a,true)∧b.length=k+1∧Au g (at' b (k:Int)) dQ∧CN g d (at' b (k:Int)):=by
 obtain⟨k,b,a,j,c,_,l,n⟩:=afN N (kind:=4) (by decide) (by decide) hws hw (XQ N q);have h:=(l k (Nat.le_refl k)).r;refine⟨k,b,a,j,c.l1,h,?_⟩
 rcases c.fin with e|e
 ·obtain⟨B,f,o⟩:=n Z k (Nat.le_refl k);obtain⟨i,t,s⟩:=xS.done (XS (p:=pS) N.v N.dist N.d0 N.p (HJ N.v) N.e) o (by omega);exact OA t s
 ·exact(GB N h).1 e
 include hk1 hk4
theorem abn (K:Au g c0 dQ) (w:Ep g d c0) (hQ:Qt g.2.length (sC c0) (bC c0)) {u:Nat} (W:u<g.2.length) (s:rC c0 u≠0):
  ∃k o f,jS 1000 uH g kind c0 ws=some (o,f,true)∧YN g kind k ws.length o f∧at' o 0=c0∧(∀j,j<=k->Au g (at' o (j:Int)) dQ∧(at' f (j:Int)).2.2.2.1<=3*(E:Int)+2∧Ep g d (at' o (j:Int)))∧
   ∀j,j<k->¬CN g d (at' o (j:Int))∧∃t,StS g.2.length par (at' o (j:Int)) t (at' o ((j+1:Nat):Int)):=by
 have U:=(XS (p:=pS) N.v N.dist N.d0 N.p (HJ N.v) N.e).shift (4*E+2);have J:RT g.2.length E par (λv=>(D d v).toNat):=OO N.v N.dist N.d0 N.p N.e;have hp:Nb g d E par (λv=>(D d v).toNat) (.ask 0 u) c0:=⟨K,Nat.zero_le _,w,hQ,W,by have:=J.le u W;omega,s⟩
 obtain⟨k,o,f,Y,a2,a3,a4,x,S,a7⟩:=OS (OE 1000) abf N.v (HJ N.v) OQ hk1 hk4 K hws hw (λk c y=>Au g c dQ∧(k=0->c=c0)∧Ep g d c∧
   ∃R B I,Bf k y R B I∧xS (λi=>zU E i - (4*E+2)) (7*E+4 - (4*E+2)) (λi c=>Nb g d E par (λv=>(D d v).toNat) i c∧4*E+2<=zU E i) (TsR g d E par (λv=>(D d v).toNat)) R I c∧B<=3*E+2)
  ⟨K,λ_=>rfl,w,0,0,_,KE N.v RS c0,xS.start U (i:= .ask 0 u) ⟨hp,Nat.le_refl _⟩,Nat.zero_le _⟩
  (λk c y t T aa hk G M F n hk4 r=>by
   obtain⟨s,_,w,R,B,I,l,G,hB⟩:=G;have L:¬CN g d c:=λq=>M ((GB N s).2 q);have hR:R+1<=3*E+2:=by
    obtain⟨i,⟨H,hb⟩,h⟩:=G;have ac:=Xu H;have ad:zU E i≠7*E+4:=λe=>L (OA H e);dsimp only at h;rcases h with h|h|h<;>omega
   have V:t<16777216:=Na.lt N.v (λi H=>(zA.1 (n i H)).1);have A:oA (aO pS g) RS (dY g) (gT (aO pS g) dQ RS c t)<16777216:=Na.lt N.v (GC (aO pS g) RS (dY g) _);obtain⟨X,Q,P,a,b,_⟩:=EF U G ⟨n,rfl⟩ l (by omega) V F A r;have ab:Q=R+1:=by
    have hb:=a.begun;obtain⟨ae,_,q⟩:=l.add (by omega) V F A r;rcases q with⟨_,q⟩|⟨_,q⟩<;>(have:=q.begun;omega)
   have z:=XO (p:=pS) (t:=t) N.v N.dist N.d0 N.p (HJ N.v) s λv O=>zA.1 (n v O);exact⟨z.rc,λe=>by omega,(z.ws w).1,X,Q,P,a,b,by omega⟩)
 refine⟨k,o,f,Y,⟨a2,a3,a4,S,a7⟩,(x 0 (Nat.zero_le _)).2.1 Z,λj C=>⟨(x j C).1,?_,(x j C).2.2.1⟩,λj C=> ?_⟩
 ·obtain⟨_,_,_,R,B,I,l,_,hB⟩:=x j C;have:=l.begun;omega
 ·obtain⟨s,_,w,_⟩:=x j (by omega);obtain⟨t,h1,h2,h3,_⟩:=S j C;refine⟨λq=>h2 ((GB N s).2 q),t,?_⟩
  rw[h3];exact XP (p:=pS) N.v N.dist N.d0 N.p s w λv O=>zA.1 (h1 v O)
def Fy (a:List (List (List Int))) (v:Nat):Nat->Nat
 |0=>0
 |j+1=>Fy a v j+if bC (at' a (j:Int)) v=bC (at' a ((j+1:Nat):Int)) v then 0 else 1
theorem afI (hc:Au g c0 dQ) (hT:Ep g d c0) (hQ:Qt g.2.length (sC c0) (bC c0)) {u:Nat} (hu:u<g.2.length) (hr:rC c0 u≠0):
  ∃k cs cnts,jS 1000 uH g kind c0 ws=some (cs,cnts,true)∧YN g kind k ws.length cs cnts∧(∀j,j<=k->Au g (at' cs (j:Int)) dQ)∧(∀v,v<g.2.length->Fy cs v k<=1)∧(CN g d (at' cs (k:Int))->∀v,v<g.2.length->Fy cs v k=1):=by
 have hRT:RT g.2.length E par (λv=>(D d v).toNat):=OO N.v N.dist N.d0 N.p N.e;obtain⟨k,cs,cnts,h1,h2,h3,h4,h5⟩:=abn N hk1 hk4 hws hw hc hT hQ hu hr;have hY:∀j,j<=k->OI g.2.length par (bC c0 0) (λv=>((Fy cs v j:Nat):Int)) (at' cs (j:Int)):=by
  intro j
  induction j with
  |zero=>exact λ_=>by rw[show((0:Nat):Int)=0 from rfl,h3];exact .inl ⟨hQ,⟨u,hu,hr⟩,rfl,λv hv=>rfl⟩
  |succ j ih=>
   intro hj;obtain⟨hnd,t,hst⟩:=h5 j (by omega);refine aas hRT hst (ih (by omega)) (λq=>hnd ⟨(h4 j (by omega)).2.2,q⟩) (λv hv=>⟨(Ut (h4 j (by omega)).1 hv).2.1,(Ut (h4 (j+1) hj).1 hv).2.1⟩) λv hv=> ?_;show((Fy cs v j+(if bC (at' cs (j:Int)) v=bC (at' cs ((j+1:Nat):Int)) v then 0 else 1):Nat):Int)=_;by_cases e:bC (at' cs (j:Int)) v=bC (at' cs ((j+1:Nat):Int)) v
   ·rw[if_pos e,if_pos e];rfl
   ·rw[if_neg e,if_neg e];rfl
 refine⟨k,cs,cnts,h1,h2,λj hj=>(h4 j hj).1,λv hv=> ?_,λq v hv=> ?_⟩
 ·have:=(hY k (Nat.le_refl k)).le v hv;omega
 ·have:=(hY k (Nat.le_refl k)).done N.v.n1 q.2.1 q.2.2 v hv;omega
end
end Go.Proofs.YtmdlcmbplnhdnaaGreatDoor
namespace Go.Proofs.YtmdlcmbplnhdnaaGreatDoor
open Go.Sx
def rY (U:Nat)  : Option (ByteArray):=
 some (ByteArray.mk #[112,114,111,103,114,97,109,32,114,101,115,101,116,59,10,118,97,114,32,100,32,58,32,48,32,46,46,32,110,59,10,118,97,114,32,112,32,58,32,112,111,114,116,59,10,118,97,114,32,115,32,58,32,98,111,111,108,59,10,118,97,114,32,98,32,58,32,98,111,111,108,59,10,118,97,114,32,121,32,58,32,48,32,46,46,32,51,59,10,118,97,114,32,114,32,58,32,98,111,111,108,59,10,114,117,108,101,32,116,111,112,58,32,114,111,111,116,32,38,38,32,40,100,32,33,61,32,48,32,124,124,32,112,32,33,61,32,110,111,110,101,41,32,45,62,32,100,32,58,61,32,48,44,32,112,32,58,61,32,110,111,110,101,59,10,114,117,108,101,32,108,111,119,58,32,33,114,111,111,116,32,38,38,32,40,100,32,33,61,32,40,109,105,110,40,113,46,100,41,32,60,32,110,32,63,32,109,105,110,40,113,46,100,41,32,43,32,49,32,58,32,110,41,32,124,124,32,112,32,33,61,32,102,105,114,115,116,40,113,46,100,32,61,61,32,109,105,110,40,113,46,100,41,41,41,10,32,32,45,62,32,100,32,58,61,32,40,109,105,110,40,113,46,100,41,32,60,32,110,32,63,32,109,105,110,40,113,46,100,41,32,43,32,49,32,58,32,110,41,44,32,112,32,58,61,32,102,105,114,115,116,40,113,46,100,32,61,61,32,109,105,110,40,113,46,100,41,41,59,10,114,117,108,101,32,98,101,103,105,110,58,32,114,111,111,116,32,38,38,32,33,115,32,38,38,32,114,32,45,62,32,115,32,58,61,32,116,114,117,101,44,32,98,32,58,61,32,33,98,44,32,121,32,58,61,32,48,44,32,114,32,58,61,32,102,97,108,115,101,59,10,114,117,108,101,32,116,97,107,101,58,32,33,114,111,111,116,32,38,38,32,115,111,109,101,40,113,32,61,61,32,112,32,38,38,32,40,113,46,98,32,33,61,32,98,32,124,124,32,115,32,38,38,32,33,113,46,115,41,41,32,45,62,32,115,32,58,61,32,115,111,109,101,40,113,32,61,61,32,112,32,38,38,32,113,46,115,41,44,32,98,32,58,61,32,115,111,109,101,40,113,32,61,61,32,112,32,38,38,32,113,46,98,41,44,32,121,32,58,61,32,48,44,32,114,32,58,61,32,102,97,108,115,101,59,10,114,117,108,101,32,102,105,110,105,115,104,58,32,115,32,38,38,32,97,108,108,40,113,46,112,32,33,61,32,113,46,98,97,99,107,32,124,124,32,33,113,46,115,32,38,38,32,113,46,98,32,61,61,32,98,41,32,45,62,32,115,32,58,61,32,102,97,108,115,101,59,10,114,117,108,101,32,97,115,107,58,32,33,115,32,38,38,32,33,114,32,38,38,32,115,111,109,101,40,113,46,112,32,61,61,32,113,46,98,97,99,107,32,38,38,32,113,46,114,32,38,38,32,33,113,46,115,41,32,45,62,32,114,32,58,61,32,116,114,117,101,59,10])
theorem Vx:aT Tryz.prog 10:=Tryz.call10
theorem Gi (U:Nat)  (r:ByteArray) (h:rY U  = some r):
  aY Tryz.prog 10 #[] [] (λx:Unit=>vS (r)) (λx l=>l) (λ_ l=>l):=by
 refine aY.of Tryz.func10 Z Tryz.ntmps10 Z λc=>?_;unfold rY at h;refine aU<|aD Z<|aM<|aU<|aD Z<|aM<|aS ?_;cases h;exact lI Z
end Go.Proofs.YtmdlcmbplnhdnaaGreatDoor
namespace Go.Proofs.YtmdlcmbplnhdnaaGreatDoor
open Go Go.Sx Go.Gx
set_option maxRecDepth 100000
def AY (a:Nat):Option (Bool):=some (true)
theorem Vz:aT Tryz.prog 18:=Tryz.call18
theorem VV:okT (IY Hb gp2 4000 18 [] H0)=true:=by kernel_rfl
theorem Ks (a:Nat) (r:Bool) (h:AY a=some r):
  aY Tryz.prog 18 #[] [Gb 0 (cellsOf Hl wD)] (λx:Unit=>Value.bool (r)) (λx l=>l) (λ_ l=>l):=by
 obtain rfl:=Option.some.inj h;obtain⟨d,c⟩:=Xq VV;rw[Fx FV]at c;exact Mz Wz Vz (λf e h=>h.bool_inv) λT b=>Fw (gs:=gl T) aiv c (eQ.start b Z) .nil
end Go.Proofs.YtmdlcmbplnhdnaaGreatDoor
namespace Go.Proofs.YtmdlcmbplnhdnaaGreatDoor
open Go.Sx
noncomputable def uF (U:Nat) (b:Unit):Option (Bool):=
 Option.bind (AY U) λa=>(some (a))
noncomputable def mE (b:Int) (a:(Int)->Option (Bool)) (c:Bool):Option (Bool):=
 if c=true then(some (false))else(a (wI .i64 (b+(1:Int))))
noncomputable def kL (U:Nat) (e:DD) (c:Ka) (d:aP) (a:Int) (b:(Int)->Option (Bool)):Option (Bool):=
 if a<(List.length e.2:Int)then(ck (0<=a∧a<(List.length d:Int)) (if(1:Int)<(at' d a)then(mE a b (true))else(ck (0<=(wI .i64 ((List.length c.1:Int) - (1:Int)))∧(wI .i64 ((List.length c.1:Int) - (1:Int)))<(List.length c.1:Int)) (Option.bind (gR U ((e.1,e.2)) (at' c.1 (wI .i64 ((List.length c.1:Int) - (1:Int))))) λf=>(if f=true then(ck (0<=a∧a<(List.length d:Int)) (mE a b (decide ((at' d a)≠(1:Int)))))else(mE a b (false)))))))else(uF U (()))
noncomputable def mD (U:Nat) (c:DD) (b:Ka) (a:aP):Option (Bool):=
 bK (kL U c b a) U (0:Int)
noncomputable def pQ (b:kG) (a:qD->Option (Bool)) (c:aP):Option (Bool):=
 a ((wI .i64 (b.1+(1:Int))),c)
noncomputable def mF (b:kG) (a:qD->Option (Bool)) (c:aP):Option (Bool):=
 a ((wI .i64 (b.1+(1:Int))),c)
noncomputable def pR (c:Ka) (b:kG) (a:kG) (d:qD->Option (Bool)) (e:Bool):Option (Bool):=
 if e=true then(some (false))else(ck (0<=b.1∧b.1<(List.length c.1:Int)) (ck (0<=a.1∧a.1<(List.length (at' c.1 b.1):Int)) (ck (0<=(3:Int)∧(3:Int)<(List.length (at' (at' c.1 b.1) a.1):Int)) (ck (0<=(wI .i64 (b.1+(1:Int)))∧(wI .i64 (b.1+(1:Int)))<(List.length c.1:Int)) (ck (0<=a.1∧a.1<(List.length (at' c.1 (wI .i64 (b.1+(1:Int)))):Int)) (ck (0<=(3:Int)∧(3:Int)<(List.length (at' (at' c.1 (wI .i64 (b.1+(1:Int)))) a.1):Int)) (if(at' (at' (at' c.1 b.1) a.1) (3:Int))≠(at' (at' (at' c.1 (wI .i64 (b.1+(1:Int)))) a.1) (3:Int))then(ck (0<=a.1∧a.1<(List.length a.2:Int)) (ck (0<=a.1∧a.1<(List.length a.2:Int)) (mF a d (List.set a.2 (Int.toNat a.1) (wI .i64 ((at' a.2 a.1)+(1:Int)))))))else(mF a d (a.2)))))))))
noncomputable def iR (f:DD) (c:Ka) (a:kG) (e:qD->Option (Bool)) (b:kG) (d:qD->Option (Bool)):Option (Bool):=
 if b.1<(List.length f.2:Int)then(ck (0<=(wI .i64 (a.1+(1:Int)))∧(wI .i64 (a.1+(1:Int)))<(List.length c.1:Int)) (if(List.length (at' c.1 (wI .i64 (a.1+(1:Int)))):Int)≠(List.length f.2:Int)then(pR c a b d (true))else(ck (0<=(wI .i64 (a.1+(1:Int)))∧(wI .i64 (a.1+(1:Int)))<(List.length c.1:Int)) (ck (0<=b.1∧b.1<(List.length (at' c.1 (wI .i64 (a.1+(1:Int)))):Int)) (pR c a b d (decide ((List.length (at' (at' c.1 (wI .i64 (a.1+(1:Int)))) b.1):Int)≠(6:Int))))))))else(pQ a e (b.2))
noncomputable def eY (U:Nat) (d:DD) (b:Ka) (a:kG) (c:qD->Option (Bool)):Option (Bool):=
 if(wI .i64 (a.1+(1:Int)))<(List.length b.1:Int)then(bK (iR d b a c) U ((0:Int),a.2))else(mD U d b (a.2))
noncomputable def pP (U:Nat) (h:Int) (i:aP) (c:DD) (a:Ka) (e:Bool):Option (Bool):=
 if e=true then(some (false))else(ck (0<=(wI .i64 ((List.length a.1:Int) - (1:Int)))∧(wI .i64 ((List.length a.1:Int) - (1:Int)))<(List.length a.1:Int)) (Option.bind (fE U h (List.length c.2:Int)) λb=>(ck (0<=b∧b<(List.length (at' a.1 (wI .i64 ((List.length a.1:Int) - (1:Int)))):Int)) (ck (0<=(5:Int)∧(5:Int)<(List.length (at' (at' a.1 (wI .i64 ((List.length a.1:Int) - (1:Int)))) b):Int)) (Option.bind (rY U) λf=>(Option.bind (k_ U i (200:Int)) λg=>(Option.bind (jS U f ((c.1,c.2)) (3:Int) (List.set (at' a.1 (wI .i64 ((List.length a.1:Int) - (1:Int)))) (Int.toNat b) (List.set (at' (at' a.1 (wI .i64 ((List.length a.1:Int) - (1:Int)))) b) (Int.toNat (5:Int)) (1:Int))) g) λd=>(if(!d.2.2)=true then(some (false))else(ck (0<=(List.length c.2:Int)∧(List.length c.2:Int)<=1099511627) (bK (eY U c d) U ((0:Int),(List.replicate (Int.toNat (List.length c.2:Int)) (0:Int)))))))))))))
noncomputable def vO (U:Nat) (c:CM) (h:Int) (i:aP):Option (Bool):=
 Option.bind (gC U ((c.1,c.2.1,c.2.2.1,c.2.2.2.1,c.2.2.2.2.1,c.2.2.2.2.2)) (6:Int)) λb=>(Option.bind (rY U) λj=>(Option.bind (BX U) λe=>(Option.bind (mM U ((b.1,b.2)) e ([]:aP)) λf=>(Option.bind (k_ U ([]:aP) (wI .i64 ((wI .i64 ((7:Int)*(List.length b.2:Int)))+(4:Int)))) λg=>(Option.bind (jS U j ((b.1,b.2)) (4:Int) f g) λa=>(if(!a.2.2)=true then(pP U h i b a (true))else(ck (0<=(wI .i64 ((List.length a.1:Int) - (1:Int)))∧(wI .i64 ((List.length a.1:Int) - (1:Int)))<(List.length a.1:Int)) (Option.bind (gR U ((b.1,b.2)) (at' a.1 (wI .i64 ((List.length a.1:Int) - (1:Int))))) λd=>(pP U h i b a ((!d)))))))))))
theorem Gh (U:Nat) {p0:CM} {p1:Int} {p2:aP} (v0:Value)  (v1:Value)  (v2:Value)  (v3:Value) (r:Bool) (h:vO U p0 p1 p2=some r):
  aY Tryz.prog 4 #[Value.agg #[vI (p0.1),v0,v1,v2,vB (p0.2.2.2.2.1),vB (p0.2.2.2.2.2)],vI (p1),v3] [Sl bP v0 p0.2.1,Sl bP v1 p0.2.2.1,Sl bP v2 p0.2.2.2.1,Sl yD v3 p2,Gb 0 (cellsOf Hl wD)] (λx:Unit=>vB (r)) (λx l=>l) (λ_ l=>l):=by
 refine aY.of Tryz.func4 Z Tryz.ntmps4 Z λc=>?_;refine aU<|aG (aL.box (cs:=[vI (p0.1),v0,v1,v2,vB (p0.2.2.2.2.1),vB (p0.2.2.2.2.2)]) Z Z) Z λb1=>aD Z<|aM<|aU<|fG 0 Z<|fN h λf w3 h=>aG (aL.callQ afd (Bu U v0 v1 v2 f w3) Z (qB [0,1,2] Z)) Z λb=>aG (aL.alloc (cs:=[lC,lC]) Z Z) Z λA=>bX (Know.one ((bD (aE.res 1 Z) cZ))) λa7=>bX (Know.one (aE.sl (bS (i:=2) (j:=3) Z Z bR))) λa8=>bQ 0 (vs:=[b.1,b.2.1]) Z Z (kR a7 (kR a8 Z)) Z Z Z<|aM<|aU<|bU Z<|dL 0 Z<|aC (jW Z (bS (i:=2) (j:=3) Z Z bR) Z) Z<|aD Z<|aM<|aJ ?_;refine JR.start [0,0,0,1,13,0,32,96,253,511,1023,2047,2047,2047,4095,24575,65535] 16 mixedOrders (by decide +kernel) ?_;refine JR.open (by exact rfl)<|fN h λr8 w9 h=>JR.loud Z Z Z (aL.callQ Vx (Gi U  r8 w9) Z .nil) Z (λbr=>yV.z) λbr=>bJ Z (aZ.cons 0 Z .nil) .nil (hZ 0 Z Z Z Z) (aK.h (aZ.ix [0] Z Z) .nil aK.z)<|bJ Z (aZ.cons 0 Z .nil) .nil (hZ 0 Z Z Z Z) (aK.h (aZ.ix [0] Z Z) .nil aK.z)<|fN h λbb bh h=>JR.loud Z Z Z (aL.callQ abW (MR U  bb bh) Z .nil) Z (λa4=>(uZ [([1],[]),([1],[])] Z)) λa4=>fN h λa2 bi h=>JR.loud Z Z Z (aL.callQ abV (JY U b.1 b.2.1 (List.zip b.2.2 f.2) a4 (lC) a2 bi) Z (aF.cons (bD (aE.res 2 Z) cZ) (aF.cons (bS (i:=3) (j:=4) Z Z bR) (aF.cons (bD (aE.res 0 Z) g_) (aF.cons aE.nil .nil))))) Z (λam=>(uZ [([3],[])] Z)) λam=>iH Z (fZ Z)<|iH Z (AS Z Z)<|iH Z (uD Z Z)<|fN h λbc bj h=>JR.loud Z Z Z (aL.callQ Vy (Dy U (lC) bc bj) Z (aF.cons aE.nil .nil)) Z (λa5=>(uZ [([4],[])] Z)) λa5=>fN h λt bk h=>JR.loud Z Z Z (aL.callQ abc (HC U b.1 b.2.1 (List.zip b.2.2 f.2) am.1 (List.zip am.2 a2) a5 t bk) Z (aF.cons (bD (aE.res 5 Z) cZ) (aF.cons (bS (i:=6) (j:=7) Z Z bR) (aF.cons (bS (i:=1) (j:=2) Z Z cZ) (aF.cons (bD (aE.res 0 Z) sT) (qB [4] Z)))))) Z (λv=>(uZ [] Z)) λv=>iH Z (fZ Z)<|iH Z (lE Z Z)<|iH Z (lE Z Z)<|iH Z (lE Z Z)<|iH Z (lJ Z)<|iH Z (lJ Z)<|bN 16 Z Z<|aD Z<|aM<|aJ<|aJ<|fF (λL=>pP U p1 p2 f t L=some r) (λL an=>[(1,vI (p1)),(2,v3),(7,vP A),(8,vI (List.length f.2:Int)),(9,v.1),(51,vB (L))]) (λL an=>[Ar cO.raw v.1 v.2.1,Fq b_ v.2.1 v.2.2.1 t.1,bV A [b.1,b.2.1] 29,Ar b_ b.1 f.1,Ar cO.raw b.2.1 b.2.2,kN bT b.2.2 f.2]) ?_ ?_
 ·refine JR.start [0,1,3,7,7,7,39,103,247,503,1023,2047,4095] 10 mixedOrders (by decide +kernel) ?_;refine JR.open (by exact rfl) ?_;refine bG Z<|iH Z (sV Z)<|bG Z ?_;refine JR.guard (by exact rfl) (by exact rfl) (by exact rfl) (λE=>?_) (λE=>?_)
  ·have h:=QJ E h;refine cA Z Z Z Z<|cA Z Z Z Z<|cA Z Z Z Z<|cA Z Z Z Z<|cA Z Z Z Z<|cA Z Z Z Z<|cA Z Z Z Z<|bN 10 Z Z<|aN Z<|aN Z<|fK Z<|aM ?_;exact cU (true) () h SF (aZ.ix [0,1,7,8,9,10] Z Z) (aF.refl _ _)
  have h:=Od E h;refine iN Z (aZ.cons 7 Z .nil) .nil (hZ 0 Z Z Z Z) aK.z<|iN Z .nil .nil (fZ Z) aK.z<|iN Z .nil .nil (fZ Z) aK.z<|iN Z (aZ.cons 0 Z (aZ.cons 0 Z .nil)) .nil (Bj 0 1 Z Z Z Z) aK.z<|iN Z .nil .nil (nW Z Z) aK.z<|dH h λC h=>c_ (jF 1 Z) λak=>?_;refine iN Z (aZ.cons 0 Z .nil) .nil (fD 0 Z Z Z Z Z C.1 (by have J:=C.2;have K:=ak;(try simp only[List.length_set]at J);(try simp only[List.length_set]at K);(try simp only[List.length_set]);omega)) aK.z ?_;refine c_ (jF 1 Z) λal=>iN Z (aZ.cons 0 Z .nil) .nil (gW 0 Z Z al Z Z C) aK.z<|bN 10 Z Z<|fN h λab a3 h=>tG Z (aL.callQ Qm (Bb U b.1 b.2.1 (List.zip b.2.2 f.2) (at' v.2.1 (wI .i64 ((List.length t.1:Int) - (1:Int)))) (List.zip (at' v.2.2.1 (wI .i64 ((List.length t.1:Int) - (1:Int)))) (at' t.1 (wI .i64 ((List.length t.1:Int) - (1:Int))))) ab a3) Z (aF.cons (bD (aE.res 8 Z) cZ) (aF.cons (bS (i:=9) (j:=10) Z Z bR) (aF.cons (nN (j:=1) Z cZ C.1 C.2) .nil)))) Z λbu=>aW Z (sV Z) Z<|iL Z<|aM ?_;exact cU ((!ab)) () h SF (aZ.ix [0,1,7,8,9,10] Z Z) (aF.refl _ _)
 intro L an h;refine Bm h Z (λ_ h=>?_) λ_ h=>?_
 ·refine aU<|aD Z<|aM<|aS<|aI ?_;cases h;exact vZ Z
 refine cV<|aU<|aA Z<|aA Z<|aC (Bj 0 1 Z Z Z Z) Z<|aC (nW Z Z) Z<|dH h λS h=>bX (jF 1 Z) λaz=>?_;refine aC (fD 0 Z Z Z Z Z S.1 (by have J:=S.2;have K:=az;(try simp only[List.length_set]at J);(try simp only[List.length_set]at K);(try simp only[List.length_set]);omega)) Z ?_;refine bX (jF 1 Z) λaB=>jD (NE (k:=(wI .i64 ((List.length t.1:Int) - (1:Int)))) 1 Z S)<|aC (gW 2 Z Z aB Z Z S) Z<|aD Z<|aM<|aU<|aA Z<|aA Z<|aA Z<|fN h λV bl h=>aG (aL.callQ BJ (jL U  V bl) Z .nil) Z λbw=>dH h λF h=>aC (cL Z Z (bS (i:=0) (j:=1) Z Z cZ) Z Z F) Z<|bX (dA 1 Z) λaH=>aC (gW 0 Z Z aH Z Z F) Z<|dH h λaT h=>aC (bB Z Z (aE.row (j:=1) Z cZ F.1 F.2) Z Z aT) Z<|LF (zM (us:=[vI (1:Int)]) (o:=0) (k:=V) 1 (1:Int) ⟨F.1,by first|exact F.2|simpa using F.2⟩ aT Z Z Z Z Z Z Z Z Z Z) λbx=>aM<|aJ ?_;refine JR.start [0,0,0,0,9,31,63,127,127,127,255,1535,4095] 12 mixedOrders (by decide +kernel) ?_;refine JR.open (by exact rfl)<|fN h λbd bm h=>JR.loud Z Z Z (aL.callQ Vx (Gi U  bd bm) Z .nil) Z (λbs=>yV.z) λbs=>bJ Z (aZ.cons 3 Z .nil) .nil (hZ 0 Z Z Z Z) (aK.h (aZ.ix [3] Z Z) .nil aK.z)<|iH Z (fZ Z)<|iH Z (fZ Z)<|fN h λbe bn h=>JR.loud Z Z Z (aL.callQ Vy (Dy U v3 be bn) Z (qB [3] Z)) Z (λa6=>(uZ [([4],[])] Z)) λa6=>fN h λd bo h=>JR.loud Z Z Z (aL.callQ abc (HC U b.1 b.2.1 (List.zip b.2.2 f.2) (at' v.2.1 (wI .i64 ((List.length t.1:Int) - (1:Int)))) (List.zip (at' v.2.2.1 (wI .i64 ((List.length t.1:Int) - (1:Int)))) (List.set (at' t.1 (wI .i64 ((List.length t.1:Int) - (1:Int)))) (Int.toNat V) (List.set (at' (at' t.1 (wI .i64 ((List.length t.1:Int) - (1:Int)))) V) (Int.toNat (5:Int)) (1:Int)))) a6 d bo) Z (aF.cons (bD (aE.res 5 Z) cZ) (aF.cons (bS (i:=6) (j:=7) Z Z bR) (aF.cons (bS (i:=1) (j:=2) Z Z cZ) (aF.cons (bD (aE.res 0 Z) sT) (qB [4] Z)))))) Z (λa=>(uZ [] Z)) λa=>iH Z (fZ Z)<|iH Z (lE Z Z)<|iH Z (lE Z Z)<|iH Z (lE Z Z)<|iH Z (lJ Z)<|iH Z (lJ Z)<|bN 12 Z Z<|aD Z<|aM<|aJ<|aU<|aA Z<|aC (sV Z) Z<|aM ?_;refine Bm h Z (λ_ h=>?_) λ_ h=>?_
 ·refine aU<|aD Z<|aM<|aS<|aI ?_;cases h;exact vZ Z
 refine cV<|aU<|aA Z<|dH h λa9 h=>aG (pM (e:=b_) (0:Int) Z Z Z Z a9 Z Z Z) Z λq=>aD Z<|aM<|aJ<|fF (λu=>mD U f d u=some r) (λu ao=>[(7,vP A),(8,vI (List.length f.2:Int)),(13,a.1),(16,q)]) (λu ao=>[Ar b_ q u,Ar cO.raw a.1 a.2.1,Fq b_ a.2.1 a.2.2.1 d.1,bV A [b.1,b.2.1] 29,Ar b_ b.1 f.1,Ar cO.raw b.2.1 b.2.2,kN bT b.2.2 f.2]) ?_ ?_
 ·refine aU<|aD Z<|aM<|aV<|e_ (eY U f d) (λm au=>[(7,vP A),(8,vI (List.length f.2:Int)),(13,a.1),(16,q),(17,vI (m.1))]) (λm au=>[Ar b_ q m.2,Ar cO.raw a.1 a.2.1,Fq b_ a.2.1 a.2.2.1 d.1,bV A [b.1,b.2.1] 29,Ar b_ b.1 f.1,Ar cO.raw b.2.1 b.2.2,kN bT b.2.2 f.2]) ((0:Int),(List.replicate (Int.toNat (List.length f.2:Int)) (0:Int))) () h SF (aZ.ix [0,1,2,8,9,10,11] Z Z) ?_;intro T m au h;refine aJ<|aU<|aA Z<|cP Z<|aA Z<|aC (Bj 1 2 Z Z Z Z) Z<|cX Z<|aM ?_;refine fC h Z (λh=>?_) λh=>?_
  ·refine cV<|aJ<|fF (λH=>pQ m (bK (eY U f d) T) H=some r) (λH av=>[(7,vP A),(8,vI (List.length f.2:Int)),(13,a.1),(16,q),(17,vI (m.1))]) (λH av=>[Ar b_ q H,Ar cO.raw a.1 a.2.1,Fq b_ a.2.1 a.2.2.1 d.1,bV A [b.1,b.2.1] 29,Ar b_ b.1 f.1,Ar cO.raw b.2.1 b.2.2,kN bT b.2.2 f.2]) ?_ ?_
   ·refine aV<|aU<|aD Z<|aM<|aV<|e_ (iR f d m (bK (eY U f d) T)) (λg aw=>[(7,vP A),(8,vI (List.length f.2:Int)),(13,a.1),(16,q),(17,vI (m.1)),(18,vI (g.1))]) (λg aw=>[Ar b_ q g.2,Ar cO.raw a.1 a.2.1,Fq b_ a.2.1 a.2.2.1 d.1,bV A [b.1,b.2.1] 29,Ar b_ b.1 f.1,Ar cO.raw b.2.1 b.2.2,kN bT b.2.2 f.2]) ((0:Int),m.2) () h SF (aZ.refl _) ?_;intro a1 g aw h;refine aJ<|aU<|aA Z<|aA Z<|cX Z<|aM ?_;refine fC h Z (λh=>?_) λh=>?_
    ·refine cV<|aJ<|fF (λI=>mF g (bK (iR f d m (bK (eY U f d) T)) a1) I=some r) (λI ax=>[(7,vP A),(8,vI (List.length f.2:Int)),(13,a.1),(16,q),(17,vI (m.1)),(18,vI (g.1))]) (λI ax=>[Ar b_ q I,Ar cO.raw a.1 a.2.1,Fq b_ a.2.1 a.2.2.1 d.1,bV A [b.1,b.2.1] 29,Ar b_ b.1 f.1,Ar cO.raw b.2.1 b.2.2,kN bT b.2.2 f.2]) ?_ ?_
     ·refine aV<|aJ<|aJ<|fF (λN=>pR d m g (bK (iR f d m (bK (eY U f d) T)) a1) N=some r) (λN ay=>[(7,vP A),(8,vI (List.length f.2:Int)),(13,a.1),(16,q),(17,vI (m.1)),(18,vI (g.1)),(110,vB (N))]) (λN ay=>[Ar b_ q g.2,Ar cO.raw a.1 a.2.1,Fq b_ a.2.1 a.2.2.1 d.1,bV A [b.1,b.2.1] 29,Ar b_ b.1 f.1,Ar cO.raw b.2.1 b.2.2,kN bT b.2.2 f.2]) ?_ ?_
      ·refine aR<|aA Z<|aA Z<|cP Z<|dH h λB h=>bX (jF 2 Z) λag=>?_;refine aC (fD 1 Z Z Z Z Z B.1 (by have J:=B.2;have K:=ag;(try simp only[List.length_set]at J);(try simp only[List.length_set]at K);(try simp only[List.length_set]);omega)) Z ?_;refine bX (jF 2 Z) λah=>aC (gW 1 Z Z ah Z Z B) Z<|aC (jW Z (nN (j:=2) Z cZ B.1 B.2) Z) Z<|aA Z<|pI Z<|aA Z ?_;refine EN h Z (λ_ h=>?_) λ_ h=>?_
       ·refine aN Z<|aN Z<|aN Z<|aN Z<|aN Z<|aN Z<|aN Z<|aN Z<|aN Z<|aN Z<|fK Z<|aM ?_;exact jP (true) () h SF Z
       refine eX Z<|eX Z<|aW Z (uD Z Z) Z<|dH h λs h=>bX (jF 2 Z) λai=>?_;refine aW Z (fD 1 Z Z Z Z Z s.1 (by have J:=s.2;have K:=ai;(try simp only[List.length_set]at J);(try simp only[List.length_set]at K);(try simp only[List.length_set]);omega)) Z ?_;refine bX (jF 2 Z) λaj=>aW Z (gW 1 Z Z aj Z Z s) Z<|eX Z<|dH h λG h=>aW Z (cL Z Z (nN (j:=2) Z cZ s.1 s.2) Z Z G) Z<|aW Z (cT Z (nN (j:=2) Z cZ s.1 s.2) Z Z G) Z<|aW Z (jC Z (aE.el (nN (j:=2) Z cZ s.1 s.2) G.1 G.2) Z) Z<|aW Z (CU Z Z) Z<|iL Z<|aM ?_;exact jP (decide ((List.length (at' (at' d.1 (wI .i64 (m.1+(1:Int)))) g.1):Int)≠(6:Int))) () h SF Z
      intro N ay h;refine Bm h Z (λ_ h=>?_) λ_ h=>?_
      ·refine aU<|aD Z<|aM<|aS<|aI<|bM<|aI<|aI<|bM<|bM<|aI<|aI<|bM<|aI ?_;cases h;exact vZ Z
      refine cV<|aJ ?_;refine JR.start [0,0,3,7,0,31,63,127,255,0,0,1024,3584,7680,0,32256,65024,130560,261632,524287] 19 mixedOrders (by decide +kernel) ?_;refine JR.open (by exact rfl) ?_;refine bG Z<|bG Z<|dH h λn h=>c_ (jF 2 Z) λac=>?_;refine bJ Z (aZ.cons 1 Z .nil) .nil (fD 0 Z Z Z Z Z n.1 (by have J:=n.2;have K:=ac;(try simp only[List.length_set]at J);(try simp only[List.length_set]at K);(try simp only[List.length_set]);omega)) aK.z ?_;refine c_ (jF 2 Z) λad=>bJ Z (aZ.cons 1 Z .nil) .nil (gW 0 Z Z ad Z Z n) aK.z<|bG Z<|dH h λw h=>bJ Z (aZ.cons 2 Z .nil) .nil (cL Z Z (nN (j:=0) Z cZ n.1 n.2) Z Z w) aK.z<|bJ Z (aZ.cons 2 Z .nil) .nil (cT Z (nN (j:=0) Z cZ n.1 n.2) Z Z w) aK.z<|dH h λW h=>bJ Z (aZ.cons 2 Z .nil) .nil (bB Z Z (aE.el (nN (j:=0) Z cZ n.1 n.2) w.1 w.2) Z Z W) aK.z<|bJ Z (aZ.cons 2 Z .nil) .nil (bY Z (aE.el (nN (j:=0) Z cZ n.1 n.2) w.1 w.2) Z Z Z dJ W) aK.z<|bG Z<|bG Z<|iH Z (uD Z Z)<|dH h λp h=>c_ (jF 2 Z) λae=>?_;refine bJ Z (aZ.cons 1 Z .nil) .nil (fD 0 Z Z Z Z Z p.1 (by have J:=p.2;have K:=ae;(try simp only[List.length_set]at J);(try simp only[List.length_set]at K);(try simp only[List.length_set]);omega)) aK.z ?_;refine c_ (jF 2 Z) λaf=>bJ Z (aZ.cons 1 Z .nil) .nil (gW 0 Z Z af Z Z p) aK.z<|bG Z<|dH h λy h=>bJ Z (aZ.cons 2 Z .nil) .nil (cL Z Z (nN (j:=0) Z cZ p.1 p.2) Z Z y) aK.z<|bJ Z (aZ.cons 2 Z .nil) .nil (cT Z (nN (j:=0) Z cZ p.1 p.2) Z Z y) aK.z<|dH h λX h=>bJ Z (aZ.cons 2 Z .nil) .nil (bB Z Z (aE.el (nN (j:=0) Z cZ p.1 p.2) y.1 y.2) Z Z X) aK.z<|bJ Z (aZ.cons 2 Z .nil) .nil (bY Z (aE.el (nN (j:=0) Z cZ p.1 p.2) y.1 y.2) Z Z Z dJ X) aK.z<|bN 19 Z Z<|pI Z<|aM ?_;refine fC h Z (λh=>?_) λh=>?_
      ·refine aR<|aA Z<|aA Z<|dH h λY h=>aC (bB Z Z (bD (aE.res 0 Z) cZ) Z Z Y) Z<|aC (bY Z (bD (aE.res 0 Z) cZ) Z Z Z dJ Y) Z<|cP Z<|dH h λaa h=>aC (bB Z Z (bD (aE.res 0 Z) cZ) Z Z aa) Z<|Bg 0 (wI .i64 ((at' g.2 g.1)+(1:Int))) aa Z Z Z Z Z Z Z<|eR<|o_ ?_;exact jP (List.set g.2 (Int.toNat g.1) (wI .i64 ((at' g.2 g.1)+(1:Int)))) () h SF Z
      refine dX<|o_ ?_;exact jP (g.2) () h SF Z
     intro I ax h;unfold mF at h;refine aR<|aA Z<|cP Z<|aD Z<|aM ?_;exact AT ((wI .i64 (g.1+(1:Int))),I) () h SF Z
    refine u_<|gU<|gU<|Az<|o_ ?_;exact jP (g.2) () h SF Z
   intro H av h;unfold pQ at h;refine aR<|aA Z<|cP Z<|aD Z<|aM ?_;exact AT ((wI .i64 (m.1+(1:Int))),H) () h SF Z
  refine gK ?_;exact jP (m.2) () h SF Z
 intro u ao h;unfold mD at h;refine aJ<|fF (λR=>uF U R=some r) (λR ap=>[]) (λR ap=>[]) ?_ ?_
 ·refine aU<|aD Z<|aM<|aV<|e_ (kL U f d u) (λD aq=>[(7,vP A),(8,vI (List.length f.2:Int)),(13,a.1),(16,q),(19,vI (D))]) (λD aq=>[Ar b_ q u,Ar cO.raw a.1 a.2.1,Fq b_ a.2.1 a.2.2.1 d.1,bV A [b.1,b.2.1] 29,Ar b_ b.1 f.1,Ar cO.raw b.2.1 b.2.2,kN bT b.2.2 f.2]) (0:Int) () h SF (aZ.refl _) ?_;intro ba D aq h;refine aJ<|aU<|aA Z<|aA Z<|cX Z<|aM ?_;refine fC h Z (λh=>?_) λh=>?_
  ·refine cV<|aJ<|aV<|aJ<|fF (λM=>mE D (bK (kL U f d u) ba) M=some r) (λM ar=>[(7,vP A),(8,vI (List.length f.2:Int)),(13,a.1),(16,q),(19,vI (D)),(163,vB (M))]) (λM ar=>[Ar b_ q u,Ar cO.raw a.1 a.2.1,Fq b_ a.2.1 a.2.2.1 d.1,bV A [b.1,b.2.1] 29,Ar b_ b.1 f.1,Ar cO.raw b.2.1 b.2.2,kN bT b.2.2 f.2]) ?_ ?_
   ·refine JR.start [0,0,3,7,15,31,63,63,63,319,831,1983,4031,8191,16383,32767,32767,131071,262143,524287,1048575,2097151] 17 mixedOrders (by decide +kernel) ?_;refine JR.open (by exact rfl) ?_;refine bG Z<|bG Z<|dH h λaX h=>bJ Z (aZ.cons 0 Z .nil) .nil (bB Z Z (bD (aE.res 0 Z) cZ) Z Z aX) aK.z<|bJ Z (aZ.cons 0 Z .nil) .nil (bY Z (bD (aE.res 0 Z) cZ) Z Z Z dJ aX) aK.z<|iH Z (wL Z Z)<|bG Z ?_;refine Gr (by exact rfl) (by exact rfl) (by exact rfl) (λO=>?_) (λO=>?_)
    ·have h:=QJ O h;refine cA Z Z Z Z<|cA Z Z Z Z<|cA Z Z Z Z<|cA Z Z Z Z<|cA Z Z Z Z<|cA Z Z Z Z<|cA Z Z Z Z<|cA Z Z Z Z<|cA Z Z Z Z<|aaW (h:= ?_);refine aaW (h:= ?_);refine bN 17 Z Z<|abF (h:= ?_);refine abF (h:= ?_);refine abF (h:= ?_);refine aN Z<|fK Z<|aM ?_;exact jP (true) () h SF Z
    have h:=ifN O h;refine iN Z (aZ.cons 3 Z .nil) .nil (hZ 0 Z Z Z Z) aK.z<|iN Z .nil .nil (fZ Z) aK.z<|iN Z .nil .nil (fZ Z) aK.z<|iN Z (aZ.cons 1 Z (aZ.cons 1 Z .nil)) .nil (Bj 0 1 Z Z Z Z) aK.z<|iN Z .nil .nil (nW Z Z) aK.z<|dH h λQ h=>c_ (jF 2 Z) λaO=>?_;refine iN Z (aZ.cons 1 Z .nil) .nil (fD 0 Z Z Z Z Z Q.1 (by have J:=Q.2;have K:=aO;(try simp only[List.length_set]at J);(try simp only[List.length_set]at K);(try simp only[List.length_set]);omega)) aK.z ?_;refine c_ (jF 2 Z) λaQ=>iN Z (aZ.cons 1 Z .nil) .nil (gW 0 Z Z aQ Z Z Q) aK.z<|fN h λbg bq h=>Nl Z Z Z Z (aL.callQ Qm (Bb U b.1 b.2.1 (List.zip b.2.2 f.2) (at' a.2.1 (wI .i64 ((List.length d.1:Int) - (1:Int)))) (List.zip (at' a.2.2.1 (wI .i64 ((List.length d.1:Int) - (1:Int)))) (at' d.1 (wI .i64 ((List.length d.1:Int) - (1:Int))))) bg bq) Z (aF.cons (bD (aE.res 4 Z) cZ) (aF.cons (bS (i:=5) (j:=6) Z Z bR) (aF.cons (nN (j:=2) Z cZ Q.1 Q.2) .nil)))) Z (λbt=>(uZ [] Z)) λbt=>iN Z .nil .nil (fZ Z) (hkI Z) ?_;refine JR.guard (by exact rfl) (by exact rfl) (by exact rfl) (λP=>?_) (λP=>?_)
    ·have h:=QJ P h;refine iN Z .nil .nil (fZ Z) (hkI Z)<|iN Z .nil .nil (fZ Z) (hkI Z)<|bN 17 Z Z<|dH h λa0 h=>aW Z (bB Z Z (bD (aE.res 0 Z) cZ) Z Z a0) Z<|aW Z (bY Z (bD (aE.res 0 Z) cZ) Z Z Z dJ a0) Z<|aW Z (CU Z Z) Z<|aW Z (LQ Z Z) Z<|iL Z<|aM ?_;exact jP (decide ((at' u D)≠(1:Int))) () h SF Z
    have h:=Od P h;refine cA Z Z Z Z<|cA Z Z Z Z<|bN 17 Z Z<|aN Z<|aN Z<|aN Z<|aW Z (LP Z Z) Z<|iL Z<|aM ?_;exact jP (false) () h SF Z
   intro M ar h;refine Bm h Z (λ_ h=>?_) λ_ h=>?_
   ·refine aU<|aD Z<|aM<|aS<|bM<|aI<|aI<|bM<|aI ?_;cases h;exact vZ Z
   refine dX<|o_<|aR<|aA Z<|cP Z<|aD Z<|aM ?_;exact AT (wI .i64 (D+(1:Int))) () h SF Z
  refine gK ?_;exact cU () (()) h SF .nil (aF.refl _ _)
 intro R ap h;refine aU<|fN h λbf bp h=>aG (aL.callQ Vz (Ks U  bf bp) Z (qB [4] Z)) Z λbz=>aD Z<|aM<|aS ?_;cases h;exact lI Z
end Go.Proofs.YtmdlcmbplnhdnaaGreatDoor
namespace Go.Proofs.YtmdlcmbplnhdnaaGreatDoor
open Go Go.Sx
theorem afF (l:aP) (a:l.length=6):(l.set 5 1).length=6∧at' (l.set 5 1) 0=at' l 0∧at' (l.set 5 1) 1=at' l 1∧at' (l.set 5 1) 2=at' l 2∧at' (l.set 5 1) 3=at' l 3∧at' (l.set 5 1) 4=at' l 4∧at' (l.set 5 1) 5=1:=by
 match l,a with
 | [a0,a1,a2,a3,a4,a5],_=>exact⟨rfl,rfl,rfl,rfl,rfl,rfl,rfl⟩
theorem abT {n:Nat} {v:Nat} (h:v<n):at' (List.replicate n (0:Int)) (v:Int)=0:=by
 rw[kV (by simp;exact h)];simp
theorem Un (x:PY) (who:Int) (wishes:aP):vO 1000 x who wishes=some true:=by
 obtain⟨g,d,E,par,fp,hg,hn,N⟩:=aiC x 6 (by omega) (by omega);have h24:=N.v.n24;have hn1:=N.v.n1;have hE:=N.en;obtain⟨c00,hc,hc00⟩:=TQ N.v dQ ([]:aP) (by decide) agb;obtain⟨w0,hw0,hw0l,hw0b⟩:=Lt ([]:aP) (n:=7*g.2.length+4) (by omega);obtain⟨k,cs,cnts,hrun,hl,hck,hd⟩:=afR N (ws:=w0) (by omega) hw0b (by omega) hc00;obtain⟨ws,hws,hwl,hwb⟩:=Lt wishes (n:=200) (by omega);have hw2:=sE who (g.2.length:Int) (by omega) (by omega);have r2:=Int.emod_nonneg who (show(g.2.length:Int)≠0 by omega);have r2':=Int.emod_lt_of_pos who (show 0<(g.2.length:Int) by omega);obtain⟨w,hw⟩:∃w:Nat,who%(g.2.length:Int)=(w:Int):=⟨(who%(g.2.length:Int)).toNat,by omega⟩
 rw[hw]at hw2 r2';have hwn:w<g.2.length:=by omega
 have e1:wI .i64 ((cs.length:Int) - 1)=(k:Int):=by
  have:=hl;have hk:k<=1000:=by
   obtain⟨k',cs',cnts',h1,h2,_⟩:=afN N (kind:=4) (by decide) (by decide) (ws:=w0) (by omega) hw0b (XQ N hc00);have e2:=(Prod.mk.inj (Option.some.inj (h1.symm.trans hrun))).1;have:=h2.l1;have:=h2.le;rw[e2]at *
   omega
  rw[wr (by omega) (by omega)];omega
 unfold vO;rw[show gC 1000 (x.1,x.2.1,x.2.2.1,x.2.2.2.1,x.2.2.2.2.1,x.2.2.2.2.2) 6=some g from hg,bF Z,bF (show rY 1000=some uH from rfl),bF adI,bF (show mM 1000 (g.1,g.2) dQ []=some c00 from hc),show wI .i64 (wI .i64 (7*(g.2.length:Int))+4)=((7*g.2.length+4:Nat):Int) by rw[show wI .i64 (7*(g.2.length:Int))=7*(g.2.length:Int)from wr (by omega) (by omega),wr (by omega) (by omega)];omega,bF (show k_ 1000 [] ((7*g.2.length+4:Nat):Int)=_ from hw0)];refine(bF (show jS 1000 uH g 4 c00 w0=_ from hrun)).trans ?_;dsimp only;rw[if_neg (by decide),e1,cC (by omega),bF (show gR 1000 (g.1,g.2) (at' cs (k:Int))=some true from(adb N hck).1 hd)];unfold pP;dsimp only;rw[if_neg (by decide),e1,cC (by omega),bF hw2];generalize at' cs (k:Int)=c at hck hd ⊢;have hcl:=hck.len;have h6w:(at' c (w:Int)).length=6:=hck.row w hwn;rw[cC (by omega),cC (by rw[h6w];decide),bF (show rY 1000=some uH from rfl),bF (show k_ 1000 wishes 200=_ from hws),show Int.toNat (w:Int)=w from rfl,show Int.toNat 5=5 from rfl];have hrow:∀v,v<g.2.length->at' (c.set w ((at' c (w:Int)).set 5 1)) (v:Int)=if v=w then(at' c (v:Int)).set 5 1 else at' c (v:Int):=λv hv=>by
  rw[sL _ _ _ _ (by omega)];by_cases e:v=w
  ·subst e;rw[if_pos Z]
  ·rw[if_neg e,if_neg e]
 have hl':(c.set w ((at' c (w:Int)).set 5 1)).length=g.2.length:=by rw[List.length_set,hcl]
 generalize c.set w ((at' c (w:Int)).set 5 1)=c' at hrow hl' ⊢;have hf:∀v,v<g.2.length->(at' c' (v:Int)).length=6∧iB c' v 0=iB c v 0∧iB c' v 1=iB c v 1∧iB c' v 2=iB c v 2∧iB c' v 3=iB c v 3∧iB c' v 4=iB c v 4∧iB c' v 5=if v=w then 1 else iB c v 5:=λv hv=>by
  unfold iB;rw[hrow v hv];by_cases e:v=w
  ·rw[if_pos e,if_pos e];exact afF _ (hck.row v hv)
  ·rw[if_neg e,if_neg e];exact⟨hck.row v hv,rfl,rfl,rfl,rfl,rfl,rfl⟩
 obtain⟨hcR,hcT,hcQ⟩:=aiA hck hd hl' (λv hv=>(hf v hv).1) (λv hv=>by
  obtain⟨_,q0,q1,q2,q3,q4,q5⟩:=hf v hv;have h5:iB c v 5=0:=hd.2.2 v hv;refine⟨q0,q1,q2,q3,by rw[q4];exact(Ut hck hv).2.2.1,?_⟩
  rw[q5,h5];split<;>omega) (by omega)
 have hrc:rC c' w≠0:=by
  have q5:=(hf w hwn).2.2.2.2.2.2;show iB c' w 5≠0;rw[q5,if_pos Z];decide
 obtain⟨k2,cs2,cnts2,hrun2,hR2,hrcs,hle,hone⟩:=afI N (kind:=3) (by decide) (by decide) (ws:=ws) (by omega) hwb hcR hcT hcQ hwn hrc;have l1:=hR2.l1;have lk:=hR2.le;refine(bF (show jS 1000 uH g 3 c' ws=_ from hrun2)).trans ?_;have e2:wI .i64 ((cs2.length:Int) - 1)=(k2:Int):=by rw[wr (by omega) (by omega)];omega
 rw[if_neg (show¬(!true)=true by decide),cC (by omega),show Int.toNat (g.2.length:Int)=g.2.length from rfl];have hlen:∀j,j<=k2->(at' cs2 (j:Int)).length=g.2.length:=λj hj=>(hrcs j hj).len;have hr6:∀j,j<=k2->∀v,v<g.2.length->(at' (at' cs2 (j:Int)) (v:Int)).length=6:=λj hj v hv=>(hrcs j hj).row v hv;obtain⟨⟨i,ch⟩,⟨hi,hcl',hch⟩,hit⟩:=zT (step:=eY 1000 (g.1,g.2) (cs2,cnts2,true)) (K:=λx=>mD 1000 (g.1,g.2) (cs2,cnts2,true) x.2) k2
  (λj x=>x.1=(j:Int)∧x.2.length=g.2.length∧∀v,v<g.2.length->at' x.2 (v:Int)=((Fy cs2 v j:Nat):Int))
  (λj x ag hj hI=>by
   obtain⟨i,q⟩:=x;obtain⟨hi,hl,hr⟩:=hI;dsimp only at hi hl hr;subst hi;obtain⟨⟨i',q'⟩,⟨hi',hl2,hr2⟩,hit2⟩:=zT (step:=iR (g.1,g.2) (cs2,cnts2,true) ((j:Int),q) ag) (K:=λx=>ag (((j+1:Nat):Int),x.2)) g.2.length
    (λv x=>x.1=(v:Int)∧x.2.length=g.2.length∧∀u,u<g.2.length->at' x.2 (u:Int)=((Fy cs2 u (if u<v then j+1 else j):Nat):Int))
    (λv x ag2 hv hI=>by
     obtain⟨i',q'⟩:=x;obtain⟨hi',hl2,hr2⟩:=hI;dsimp only at hi' hl2 hr2;subst hi';have hq:=hr2 v hv;rw[if_neg (by omega)]at hq;have a1:=hlen j (by omega);have a2:=hlen (j+1) (by omega);have b1:=hr6 j (by omega) v hv;have b2:=hr6 (j+1) (by omega) v hv;have hbnd:∀i,Fy cs2 v i<=i:=λi=>by
      induction i with
      |zero=>exact Nat.le_refl _
      |succ i ih=>simp only[Fy];split<;>omega
     have hb:=hbnd j;have f0:(v:Int)<(g.2.length:Int):=by omega
     have f1:0<=(j:Int)∧(j:Int)<(cs2.length:Int):=⟨by omega,by omega⟩
     have f2:0<=((j+1:Nat):Int)∧((j+1:Nat):Int)<(cs2.length:Int):=⟨by omega,by omega⟩
     have f3:0<=(v:Int)∧(v:Int)<(q'.length:Int):=⟨by omega,by omega⟩
     have f4:¬((at' cs2 ((j+1:Nat):Int)).length:Int)≠(g.2.length:Int):=λq=>q (by rw[a2]);have f5:0<=(v:Int)∧(v:Int)<((at' cs2 ((j+1:Nat):Int)).length:Int):=⟨by omega,by rw[a2];omega⟩
     have f6:0<=(v:Int)∧(v:Int)<((at' cs2 (j:Int)).length:Int):=⟨by omega,by rw[a1];omega⟩
     have f7:v<1000000:=by omega
     have f11:v<q'.length:=by omega
     have f10:Fy cs2 v j<1000000:=by omega
     have hchg:Fy cs2 v (j+1)=Fy cs2 v j+if at' (at' (at' cs2 (j:Int)) (v:Int)) 3=at' (at' (at' cs2 ((j+1:Nat):Int)) (v:Int)) 3 then 0 else 1:=rfl;refine⟨(((v+1:Nat):Int),q'.set v ((Fy cs2 v (j+1):Nat):Int)),⟨rfl,by simp[hl2],λu hu=> ?_⟩,?_⟩
     ·dsimp only;rw[sL _ _ _ _ (by omega)];by_cases e:u=v
      ·subst e;rw[if_pos Z,if_pos (by omega)]
      ·rw[if_neg e,hr2 u hu];by_cases q:u<v
       ·rw[if_pos q,if_pos (by omega)]
       ·rw[if_neg q,if_neg (by omega)]
     ·unfold iR pR mF;dsimp only;have ej:wI .i64 ((j:Int)+1)=((j+1:Nat):Int):=dZ (by omega);rw[if_pos f0,ej,cC f2,if_neg f4,cC f2,cC f5,decide_eq_false (by rw[b2];decide),if_neg (by decide),cC f1,cC f6,cC (by rw[b1];decide),cC f2,cC f5,cC (by rw[b2];decide),dZ f7];by_cases e:at' (at' (at' cs2 (j:Int)) (v:Int)) 3=at' (at' (at' cs2 ((j+1:Nat):Int)) (v:Int)) 3
      ·have hset:q'.set v ((Fy cs2 v (j+1):Nat):Int)=q':=by
        rw[hchg,if_pos e,Nat.add_zero,<-hq];exact O_ q' f11
       rw[if_neg (λq=>q e),hset]
      ·rw[if_pos e,hchg,if_neg e,cC f3,cC f3,hq,dZ f10];rfl)
    (λx ag2 hI=>by
     obtain⟨i',q'⟩:=x;obtain⟨hi',hl2,hr2⟩:=hI;dsimp only at hi';subst hi';unfold iR pQ;dsimp only;rw[if_neg (by omega),dZ (by omega)])
    1000 ((0:Int),q) ⟨rfl,hl,λu hu=>by rw[if_neg (by omega)];exact hr u hu⟩ (by omega)
   refine⟨(((j+1:Nat):Int),q'),⟨rfl,hl2,λv hv=>by have:=hr2 v hv;rw[if_pos hv]at this;exact this⟩,?_⟩
   unfold eY;dsimp only;rw[if_pos (by rw[dZ (by omega)];omega)];exact hit2)
  (λx ag hI=>by
   obtain⟨i,q⟩:=x;obtain⟨hi,hl,hr⟩:=hI;dsimp only at hi;subst hi;unfold eY;dsimp only;rw[if_neg (by rw[dZ (by omega)];omega)])
  1000 ((0:Int),List.replicate g.2.length (0:Int)) ⟨rfl,by simp,λv hv=>abT hv⟩ (by omega)
 refine hit.trans ?_;dsimp only at hcl' hch ⊢;obtain⟨b,hb,hbi⟩:=aiy N (hrcs k2 (Nat.le_refl k2));unfold mD;refine eO (step:=kL 1000 (g.1,g.2) (cs2,cnts2,true) ch) (K:=some true) g.2.length (λv=>(v:Int)) (λv ag hv=> ?_) (λag=> ?_) 1000 (by omega)
 ·have h1:=hle v hv;have h2:=hch v hv;unfold kL mE;dsimp only;rw[if_pos (by omega),cC (by omega),h2,if_neg (by omega),e2,cC (by omega),bF (show gR 1000 (g.1,g.2) (at' cs2 (k2:Int))=_ from hb),dZ (by omega)];cases b with
  |true=>
   have h3:=hone (hbi.1 Z) v hv;rw[if_pos Z,cC (by omega),decide_eq_false (by omega),if_neg (by decide)]
  |false=>rw[if_neg (by decide),if_neg (by decide)]
 ·unfold kL uF;dsimp only;rw[if_neg (by omega),bF (show AY 1000=some true from rfl)]
end Go.Proofs.YtmdlcmbplnhdnaaGreatDoor
namespace Go.Sx
open Go.RowKit Go.ChangeShapes Go.WideShapes Go.ChangeAt Go.Proofs Go.Joins Go.Deep
section
variable {H:Type} {enc:TypeId×Value->H} {P:Program} {w:World} {base:Nat} {spare:Nat->Bool} {held:Bool}
theorem Kj {a:Type} (l:List a) (d:a):l=(List.range l.length).map λi=>l.getD i d:=by
 apply List.ext_getElem?;intro i;by_cases h:i<l.length
 ·simp[h]
 ·simp[h]
theorem Xs {r:Reach} {x:Nat} {t:TypeId} {b:Array Field} {v:Value} {d:DataW H} {p:List MemPlace} (s:P.underlying t=some (.struct b)) (c:oneCellFields P b=true) (z:P.cellsOf t=b.size)
  (E:Value.okWide P w r x t v) (h:DataW.Trod enc P w base spare held t v d p):
  ∃(V:Nat->Value) (Y:Nat->DataW H×List MemPlace) (n:Nat),v = .agg ((List.range b.size).map V).toArray∧∀(i:Nat) (f:Field),b[i]? = some f->DataW.trod enc P w base spare held n f.type [V i]=some (Y i):=by
 obtain⟨a,rfl,l⟩:=okWide_struct s E;obtain⟨m,A⟩:=h;obtain⟨u,n,_,_,_,q,B⟩:=DataW.trod_struct s A;refine⟨λi=>a.toList.getD i undef,λi=>u.getD i (.nil,[]),n,?_,λi f j=> ?_⟩
 ·congr 1;apply Array.toList_inj.1;show a.toList=(List.range b.size).map λi=>a.toList.getD i undef;have y:b.size=a.toList.length:=by rw[<-z,<-l];rfl
  rw[y];exact Kj a.toList undef
 ·have D:i<b.size:=(Array.getElem?_eq_some_iff.1 j).1;obtain⟨o,k⟩:=hone_of c i f j;have g:=B i f j;have e:(Value.cells (.agg a)).toList=a.toList:=rfl;have C:i<a.toList.length:=by rw[Array.length_toList];omega
  rw[o,k,e,take1_drop _ _ undef C]at g;rw[g];have F:i<u.length:=by omega
  simp[F]
theorem WX {k:IntKind} {e:TypeId} (a:P.underlying e=some (.int k)) {n:Nat} {v:Value} {x:DataW H×List MemPlace} (h:DataW.trod enc P w base spare held n e [v]=some x):∃y:Int,v = .int k y:=by
 obtain⟨y,b,_,_⟩:=DataW.trod_int a h;exact⟨y,by simpa using b⟩
theorem KS {e:TypeId} (a:P.underlying e=some .bool) {n:Nat} {v:Value} {x:DataW H×List MemPlace} (h:DataW.trod enc P w base spare held n e [v]=some x):∃y:Bool,v = .bool y:=by
 obtain⟨y,b,_⟩:=DataW.trod_bool a h;exact⟨y,by simpa using b⟩
end
end Go.Sx
section
set_option maxRecDepth 100000
namespace Go.Sx
open Go.RowKit Go.ChangeShapes Go.WideShapes Go.ChangeAt Go.Proofs Go.Joins
theorem QC {P:Program} {W:World} {n:String} {b m t B:Nat} {k:IntKind} {a:aP} (h:laidMet P [(n,.agg (a.map λx=> .lit (.int k x)))] W) (I:P.globalNamed n=some b)
  (ht:(P.globals[b]?).map (·.type)=some t) (hu:P.underlying t=some (.array m B)) (w:P.underlying B=some (.int k)) (S:P.cellsOf B=1) (u:P.cellsOf t=m) (hm:0<m):(Gb b (cellsOf (cO.int k) a)).p W (λ_=>True):=by
 obtain⟨ps,⟨g,t2,j,F,p,q,C,D,E,M,e5,N⟩,aa,d⟩:=h;rw[I]at C;cases C;rw[ht]at D;cases D;refine⟨trivial,?_⟩
 obtain⟨L,ml,_,l,Y,y,V⟩:=DataW.trod_array hu M;simp only[Prod.mk.injEq,DataW.agg.injEq]at l;have e:a.length=m:=by rw[<-y];simpa using congrArg List.length l.1
 have U:j.size=m:=by rw[<-u,<-Y];simp
 have v:j.toList=cellsOf (cO.int k) a:=by
  refine List.ext_getElem? λi=> ?_;by_cases X:i<m
  ·have o:=V i X;rw[S,Nat.mul_one]at o;have J:a[i]? = some (a[i]'(by omega)):=List.getElem?_eq_getElem _;have G:=uO (cO.int k) a i _ J 0 _ Z;rw[show i*(cO.int k).sz+0=i from Nat.mul_one i]at G;rw[G];have K:L[i]? = some (L[i]'(by omega)):=List.getElem?_eq_getElem _;rw[K]at o;obtain⟨z,hz,A,_⟩:=DataW.trod_int w o;have s:j.toList[i]? = some (.int k z):=by
    have:=congrArg (·[0]?) hz;simpa [List.getElem?_take,List.getElem?_drop]using this
   rw[s];have r:=congrArg (·[i]?) l.1;simp only[List.getElem?_map,J,K,Option.map_some,Option.some.injEq]at r;rw[A]at r;have O:a[i]=z:=by simpa using r
   rw[O]
  ·rw[List.getElem?_eq_none (by simp;omega),List.getElem?_eq_none (by rw[dN,e];show m*1<=i;omega)]
 have f:MemPlace.cell b 0∈ps:=by
  rw[N];refine List.mem_append_left _ (List.mem_append_left _ ?_);exact List.mem_map.2 ⟨0,by simp;omega,rfl⟩
 obtain⟨⟨c,T,H⟩,_⟩:=d b 0 f;refine⟨T,?_⟩
 have Q:c=j:=by
  have R:(W.var? P n)=some c:=by unfold World.var?;rw[I];simp[H]
  rw[R]at E;exact Option.some.inj E
 rw[H,Q,<-v]
theorem Og {H:Type} {enc:TypeId×Value->H} {os:Os} (D:List (String×DataW Unit)) (N:(D.all λx=>x.2.handleName?.isNone)=true) (l:os.Started) {f:FuncId} {c:Func} {s:ChangeSpec} {r:Bool} (L:Tryz.prog.funcs[f]? = some c) (n:Tryz.prog.inits.idxOf? f=none)
  (o:(c.params.toList.all λt=>Tryz.prog.readableRec t&&decide (t<Tryz.prog.types.size))=true) (A:c.resultTypes = #[4]) (k:s.vars=[])
  (u:∀a:List (DataW H),a.length=c.params.toList.length->s.fn H a={results:=[.lit (.bool true)],args:=a})
  (m:∃(w:World) (b:Tape) (i:Input),w.os=os∧(w.forCall b i).Shaped Tryz.prog∧i.vars=[]∧Input.okWide Tryz.prog (w.forCall b i) .any w.heap.size f i∧
   ((s.pre enc Tryz.prog c [] false (w.forCall b i).memory i.args∧laidMetH Tryz.prog D (w.forCall b i).memory)∧sizedMet enc Tryz.prog c (OpenSpec.ofChange s) false (w.forCall b i).memory i.args)∧({}:Assume).holds Tryz.prog (lone (Frame.enter Tryz.prog f i.args .normal) [] (w.forCall b i)))
  (E:∀(W:World) (g:Nat) (args:Array Value) (a:List (DataW H)) (p:List MemPlace),laidMetH Tryz.prog D W->(∀(j:Nat) t v,c.params[j]? = some t->args[j]? = some v->Value.okWide Tryz.prog W .any g t v)->
   DataW.TrodAll enc Tryz.prog W 0 (λ_=>true) true c.params.toList args.toList a p->Calls Tryz.prog f args W λe P=>e = .returned (.bool true)∧LD W P):
  ReturnsInHanded {} Go.Proofs.YtmdlcmbplnhdnaaGreatDoor.Tryz.pinned.checked os f .any (λw args=>(s.pre enc Tryz.prog c [] false w args∧laidMetH Tryz.prog D w)∧sizedMet enc Tryz.prog c (OpenSpec.ofChange s) false w args) (s.post enc Tryz.prog c false r false false):=by
 refine returnsInHanded_of_change_and (C:=Go.Proofs.YtmdlcmbplnhdnaaGreatDoor.Tryz.pinned.checked) (X:=λw _=>laidMetH Tryz.prog D w) (λ_ _ _ U h=>by rw[MakeChecks.laidMetH_plain _ _ _ N]at h ⊢;exact h.of_heap U) aiE l n L m ?_;intro W g args a Y G B J _ _ T _;have M:=J.lt;have K:=J;obtain⟨p,q,I,Q,rfl,_,_⟩:=J;rw[k]at Q;obtain⟨rfl,rfl⟩:=trodVars_none Q;refine(E W g args a p T B I).mono ?_;rintro e P ⟨rfl,R⟩;refine⟨_,rfl,?_⟩
 have z:a.length=c.params.toList.length:=by
  have:∀(F:List TypeId) (y:fM) (a:List (DataW H)) (p:List MemPlace),DataW.TrodAll enc Tryz.prog W 0 (λ_=>true) true F y a p->a.length=F.length:=by
   intro F
   induction F with
   |nil=>intro y a p h;cases y<;>cases a<;>first|rfl|exact h.elim
   | cons t F ih =>
    intro y a p h;cases y with
    |nil=>exact h.elim
    |cons v y=>
     cases a with
     |nil=>exact h.elim
     |cons d a=>obtain⟨_,_,_,S,_⟩:=h;simp[ih y a _ S]
  exact this _ _ _ _ I
 have O:s.fn H (a++[])={results:=[.lit (.bool true)],args:=a}:=by rw[List.append_nil];exact u a z
 refine⟨a,[],p++[],[],p,[],K,?_,?_,?_,R.frame _,λh=>by cases h⟩
 ·rw[O,A];exact trodAll_mk1 (shut_bool Tryz.underlying4 true)
 ·rw[O];exact EA afA R _ _ _ _ o I (λx V=>M x (List.mem_append_left _ V))
 ·rw[O,k];exact rfl
theorem Uf {P:Program} {n:String} {k:IntKind} {a:aP} {W:World} (h:laidMetH P [(n,.agg (a.map λx=> .lit (.int k x)))] W):laidMet P [(n,.agg (a.map λx=> .lit (.int k x)))] W:=by
 rw[MakeChecks.laidMetH_plain _ _ _ (by rfl)]at h;exact h
end Go.Sx
end
