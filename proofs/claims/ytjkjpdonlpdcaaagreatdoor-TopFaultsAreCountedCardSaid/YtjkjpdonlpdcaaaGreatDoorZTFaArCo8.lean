/- Models and proofs. Conditions: none. -/
import Derived.Test.YtjkjpdonlpdcaaaGreatDoorZTFaArCo7
import Derived.Test.YtjkjpdonlpdcaaaGreatDoorZTFaArCo2
import Derived.Test.YtjkjpdonlpdcaaaGreatDoorZTFaArCo5
import Derived.Test.YtjkjpdonlpdcaaaGreatDoorZTFaArCo6
import Derived.Test.YtjkjpdonlpdcaaaGreatDoorZTFaArCo1
import Derived.OpenShut
set_option linter.unusedVariables false
set_option linter.unusedSimpArgs false
set_option maxHeartbeats 4000000
set_option maxRecDepth 20000
namespace Go.Proofs.YtjkjpdonlpdcaaaGreatDoor
open Go Go.Sx
theorem OZ:∀i,i<256->0<=at' FZ ((i:Nat):Int)∧at' FZ ((i:Nat):Int)<=8∧(i≠0->1<=at' FZ ((i:Nat):Int)):=by
 have h:((List.range 256).all λi=>decide (0<=at' FZ ((i:Nat):Int)∧at' FZ ((i:Nat):Int)<=8∧(i≠0->1<=at' FZ ((i:Nat):Int))))=true:=by decide +kernel
 intro i a;exact of_decide_eq_true (List.all_eq_true.1 h i (List.mem_range.2 a))
theorem Yy {t:Nat} (I:t<16777216) (F:t≠0):∃n:Nat,gK 1000 (t:Int)=some (n:Int)∧1<=n∧n<=24:=by
 have q:(List.length FZ:Int)=256:=by decide +kernel
 have b:∀a:Nat,a<4294967296->dA .u32 (a:Int) 255=((a%256:Nat):Int):=λa p=>by
  rw[show(255:Int)=((255:Nat):Int)from rfl,Cg p (by omega),show(255:Nat)=2^8 - 1 from rfl,Nat.and_two_pow_sub_one_eq_mod]
 have c:∀k:Nat,k<32->lY .u32 (t:Int) (k:Int)=((t / 2^k:Nat):Int):=λk r=>Fi r;have e:lY .u32 (t:Int) 24=((t / 2^24:Nat):Int):=c 24 (by omega);have d:lY .u32 (t:Int) 16=((t / 2^16:Nat):Int):=c 16 (by omega);have s:lY .u32 (t:Int) 8=((t / 2^8:Nat):Int):=c 8 (by omega);have g:t / 2^24=0:=Nat.div_eq_of_lt (by omega);unfold gK;rw[q,e,d,s,b _ (by omega),b _ (by omega),b _ (by omega),g,cS (by decide),cS (by omega),cS (by decide),cS (by omega),cS (by decide),cS (by omega),cS (by omega)];obtain⟨v,w,i⟩:=OZ (t / 2^16%256) (by omega);obtain⟨y,z,j⟩:=OZ (t / 2^8%256) (by omega);obtain⟨D,E,l⟩:=OZ (t%256) (by omega);have u:at' FZ ((0:Nat):Int)=0:=rfl;have h:1<=at' FZ ((t / 2^16%256:Nat):Int)+at' FZ ((t / 2^8%256:Nat):Int)+at' FZ ((t%256:Nat):Int):=by
  by_cases m:t / 2^16%256=0
  ·by_cases o:t / 2^8%256=0
   ·have:=l (by omega);omega
   ·have:=j o;omega
  ·have:=i m;omega
 have f:∀x:Int,0<=x->x<=100->wI .u8 x=x:=λx G H=>by
  rw[Cp];have:IntKind.u8.wrap x=x%256:=rfl;rw[this];omega
 generalize at' FZ ((t / 2^16%256:Nat):Int)=A at *
 generalize at' FZ ((t / 2^8%256:Nat):Int)=B at *
 generalize at' FZ ((t%256:Nat):Int)=C at *
 rw[u,f (0+A) (by omega) (by omega),f (0+A+B) (by omega) (by omega),f (0+A+B+C) (by omega) (by omega),wr (by omega) (by omega)];exact⟨(0+A+B+C).toNat,by congr 1;omega,by omega,by omega⟩
theorem CV (l:aS) (j:l.length<=900) (h:∀x∈l,∃a:Nat,x=(a:Int)∧a<16777216):gJ 1000 l=some true:=by
 unfold gJ;refine eF (step:=hZ l) (K:=some true) l.length (λk=>(k:Int)) (λk f d=> ?_) (λf=> ?_) 1000 (by omega)
 ·obtain⟨a,g,b⟩:=h (at' l (k:Int)) (by rw[lC d];exact List.getElem_mem d);unfold hZ;rw[if_pos (by omega),cS (by omega),g,dG (by omega)];have:sF .u32 (a:Int) (16777215:Int)=0:=(Uc _ _).2 λi c=>by
   rw[rF (by omega)]at c;have e:Mj 16777215=2^24 - 1:=rF (a:=16777215) (by omega);rw[e,Nat.testBit_two_pow_sub_one,decide_eq_true_eq];by_cases h:i<24
   ·exact h
   ·have:=Nat.testBit_lt_two_pow (x:=a) (i:=i) (Nat.lt_of_lt_of_le b (Nat.pow_le_pow_right (n:=2) (by omega) (show 24<=i by omega)));rw[this]at c;cases c
  rw[this,if_neg (by simp)]
 ·unfold hZ mC;rw[if_neg (by omega)]
structure D_ (k:Nat) (cnt:CT) (R B pe:Nat):Prop where
 steps:cnt.1=(k:Int)
 moves:(k:Int)<=cnt.2.1∧cnt.2.1<=24*(k:Int)
 rounds:cnt.2.2.1=(R:Int)
 begun:cnt.2.2.2.1=(B:Int)
 pend:cnt.2.2.2.2=(pe:Int)
 le:R<=B∧B<=k∧B<=R+1
 p24:pe<16777216
theorem D_.valid {k:Nat} {i:CT} {R B j:Nat} (h:D_ k i R B j) (n:k<=1000):iN 1000 i=some true:=by
 obtain⟨a,b,c,d,e,f,g⟩:=h;have m:=CV [(j:Int)] (by simp) λx l=>by
  have l:x=(j:Int):=by simpa using l
  exact⟨j,l,g⟩
 unfold iN;rw[a,c,d,if_neg (by omega),if_neg (by omega),if_neg (by omega),if_neg (by omega),decide_eq_false (by omega)];unfold gS kS;rw[a,c,d,e,if_neg (by decide),dG (by omega),if_neg (by omega),if_pos b.1,wr (by omega) (by omega),if_pos b.2,bF m]
theorem D_.add {k:Nat} {r:CT} {R B o:Nat} (h:D_ k r R B o) (I:k<900) {t l:Nat} (A:t<16777216) (C:t≠0) (q:l<16777216) {m:CT} {u:Int} (j:jJ 1000 r (t:Int) (l:Int)=some (m,u)):
  ∃p:Nat,(∀i,p.testBit i=(o.testBit i && !t.testBit i&&l.testBit i))∧((p=0∧D_ (k+1) m (R+1) (R+1) l)∨(p≠0∧D_ (k+1) m R (R+1) p)):=by
 have H:=h.valid (by omega);obtain⟨a,b,c,d,e,f,g⟩:=h;obtain⟨n,D,E,F⟩:=Yy A C;have G:=CV [(t:Int),(l:Int)] (by simp) λx y=>by
  have y:x=(t:Int)∨x=(l:Int):=by simpa using y
  rcases y with rfl|rfl
  ·exact⟨t,rfl,A⟩
  ·exact⟨l,rfl,q⟩
 have v:Bc o t<4294967296:=IF o t;have w:∀i,(Bc o t &&& l).testBit i=(o.testBit i && !t.testBit i&&l.testBit i):=λi=>by
  rw[Nat.testBit_and,Gp (by omega) (by omega)]
 have s:Bc o t &&& l<16777216:=Nat.lt_of_le_of_lt Nat.and_le_right q;unfold jJ at j;rw[bF (show iN 1000 _=some true from H),if_neg (by decide),if_neg (by omega),bF G]at j;unfold mY mZ at j;dsimp only at j;rw[a,c,e,if_neg (by decide),if_neg (by omega),bF D,Fh,Cg v (by omega),dG (by omega),dG (by omega),wr (by omega) (by omega)]at j;refine⟨Bc o t &&& l,w,?_⟩
 by_cases z:Bc o t &&& l=0
 ·rw[if_pos (by rw[z];rfl)]at j;have:=Option.some.inj j;obtain⟨rfl,_⟩:=Prod.mk.inj this;exact .inl ⟨z,rfl,⟨by dsimp only;omega,by dsimp only;omega⟩,rfl,rfl,rfl,by omega,q⟩
 ·rw[if_neg (by omega)]at j;have:=Option.some.inj j;obtain⟨rfl,_⟩:=Prod.mk.inj this;exact .inr ⟨z,rfl,⟨by dsimp only;omega,by dsimp only;omega⟩,rfl,rfl,rfl,by omega,s⟩
def guL:E:= .bi 41 (.lf 5 0) (.ag 21 (.lf 12 0))
def guE:E:= .bi 41 (.un 19 (.lf 5 0)) (.un 19 (.ag 21 (.lf 12 0)))
def RM:List RL:=[(guL,[(0,.lf 3 0)]),(guE,[(0,.lf 2 0)])]
theorem YK:xC 1 RM=true:=by decide +kernel
theorem loM (g:GR) (v:Nat):lo g (at' mA ((0:Nat):Int)) v=0:=rfl
theorem hiM (g:GR) (v:Nat):hi g (at' mA ((0:Nat):Int)) v=1:=rfl
theorem ZC {g:GR} (c:VG g):vF g mA:=by
 have b:=c.n24;refine⟨by decide,Rs,λx a=> ?_,λx a _=> ?_⟩
 ·obtain rfl:x=0:=by simp[mA]at a;exact a
  exact .inr (.inl Z)
 ·obtain rfl:x=0:=by simp[mA]at a;exact a
  rw[loM,hiM];omega
def JD (g:GR) (c:bE) (v:Nat):Prop:=∃i,i<(row g v).length∧yN g c v i≠0
section
variable {p:zL} {g:GR} {c:List (List Int)} {v:Nat}
theorem aaI:sV (bM p g) c v guL=Gk (decide (pN c v≠0)&&decide (Gk (((List.range (row g v).length).map λq=>yN g c v q).any nz)≠0)):=rfl
theorem aaH:sV (bM p g) c v guE=Gk (decide (Gk (decide (pN c v=0))≠0)&&decide (Gk (decide (Gk (((List.range (row g v).length).map λq=>yN g c v q).any nz)=0))≠0)):=rfl
theorem Iv (b:Bool):Gk b≠0↔b=true:=by cases b<;>simp[Gk]
theorem acq (b:Bool):Gk b=0↔b=false:=by cases b<;>simp[Gk]
theorem TY:((List.range (row g v).length).map λq=>yN g c v q).any nz=true↔JD g c v:=by
 unfold JD;rw[List.any_eq_true];constructor
 ·rintro⟨x,d,b⟩;obtain⟨i,a,rfl⟩:=List.mem_map.1 d;exact⟨i,List.mem_range.1 a,by simpa [nz]using b⟩
 ·rintro⟨i,a,b⟩;exact⟨_,List.mem_map.2 ⟨i,List.mem_range.2 a,rfl⟩,by simpa [nz]using b⟩
theorem WN:((List.range (row g v).length).map λq=>yN g c v q).any nz=false↔¬JD g c v:=by
 rw[<-TY];simp
theorem QN:sV (bM p g) c v guL≠0↔pN c v≠0∧JD g c v:=by
 rw[aaI,Iv,Bool.and_eq_true,decide_eq_true_eq,decide_eq_true_eq,Iv,TY]
theorem QM:sV (bM p g) c v guE≠0↔pN c v=0∧¬JD g c v:=by
 rw[aaH,Iv,Bool.and_eq_true,decide_eq_true_eq,decide_eq_true_eq,Iv,Iv,decide_eq_true_eq,decide_eq_true_eq,acq,WN]
theorem NN (h:0<=qC (bM p g) RM c v):(qC (bM p g) RM c v=0∧pN c v≠0∧JD g c v)∨(qC (bM p g) RM c v=1∧pN c v=0∧¬JD g c v):=by
 obtain⟨i,b,a,d⟩:=(Bm (bM p g) RM c v).resolve_left (λe=>by omega);have a:i<2:=a
 match i,a with
 |0,_=>exact .inl ⟨b,QN.1 d⟩
 |1,_=>exact .inr ⟨b,QM.1 d⟩
theorem Tb (h:¬0<=qC (bM p g) RM c v):JD g c v↔pN c v=0:=by
 have e:qC (bM p g) RM c v = -1:=by
  rcases Bm (bM p g) RM c v with e|⟨i,f,_⟩
  ·exact e
  ·omega
 have b:¬sV (bM p g) c v guL≠0:=λq=>q (EJ.1 e 0 (by decide));have d:¬sV (bM p g) c v guE≠0:=λq=>q (EJ.1 e 1 (by decide));rw[QN]at b;rw[QM]at d;by_cases a:JD g c v
 ·exact iff_of_true a (Decidable.not_not.1 λq=>b ⟨q,a⟩)
 ·exact iff_of_false a (λq=>d ⟨q,a⟩)
theorem Zl (a:(at' c (v:Int)).length=1):at' (xY (bM p g) mA RM c v 0) 0=0:=by
 have e:xY (bM p g) mA RM c v 0=(at' c (v:Int)).set 0 0:=rfl;rw[e];have:=uO (at' c (v:Int)) 0 0 (0:Int) (by omega);rw[if_pos Z]at this;exact this
theorem Zm (a:(at' c (v:Int)).length=1):at' (xY (bM p g) mA RM c v 1) 0=1:=by
 have e:xY (bM p g) mA RM c v 1=(at' c (v:Int)).set 0 1:=rfl;rw[e];have:=uO (at' c (v:Int)) 0 0 (1:Int) (by omega);rw[if_pos Z]at this;exact this
end
structure OB (g:GR) (lv:Nat) (c0:List (List Int)) (k:Nat) (c:List (List Int)) (ch:List Nat):Prop where
 r:FY g c mA
 st:∀v,v<g.2.length->(iR ch v=0∧pN c v=pN c0 v)∨(lv.testBit v=true∧((iR ch v=1∧pN c v=0)∨(iR ch v<=2∧pN c v≠0∧¬JD g c v)))
 sum:k<=o_ (iR ch) g.2.length
 sets:∀t∈ch,t<4294967296
theorem OB.two {g:GR} {f k:Nat} {d c:List (List Int)} {b:List Nat} (h:OB g f d k c b) {v:Nat} (e:v<g.2.length):iR b v<=2:=by
 rcases h.st v e with a|⟨_,a|a⟩
 ·omega
 ·omega
 ·exact a.1
theorem Zt {p:zL} {g:GR} (Q:VG g) {M k t:Nat} {c0 c:List (List Int)} {B:List Nat} (C:OB g M c0 k c B) (W:t≠0) (J:∀i,t.testBit i=true->(yY (bM p g) RM M c).testBit i=true) (H:∀v u,t.testBit v=true->t.testBit u=true->¬Cc g v u):OB g M c0 (k+1) (iC (bM p g) mA RM c t) (B++[t]):=by
 have G:=C.r.len;have A:∀v,t.testBit v=true->v<g.2.length∧0<=qC (bM p g) RM c v∧M.testBit v=true:=λv d=>(yZ (bM p g) RM M c v).1 (J v d);have y:∀v,iR (B++[t]) v=iR B v+if t.testBit v=true then 1 else 0:=zH B t;have w:∀v,v<g.2.length->(at' c (v:Int)).length=1:=λv d=>C.r.row v d;have E:∀v,v<g.2.length->at' (iC (bM p g) mA RM c t) (v:Int)=if t.testBit v=true then xY (bM p g) mA RM c v (qC (bM p g) RM c v)else at' c (v:Int):=λv d=>CY (by rw[G];exact d);have o:∀v,t.testBit v=true->(pN c v≠0∧JD g c v∧pN (iC (bM p g) mA RM c t) v=0)∨(pN c v=0∧¬JD g c v∧pN (iC (bM p g) mA RM c t) v=1):=λv d=>by
  obtain⟨O,P,_⟩:=A v d;unfold pN;rw[E v O,if_pos d];rcases NN P with⟨e,a,b⟩|⟨e,a,b⟩
  ·rw[e];exact .inl ⟨a,b,Zl (w v O)⟩
  ·rw[e];exact .inr ⟨a,b,Zm (w v O)⟩
 have m:∀v,v<g.2.length->t.testBit v=false->pN (iC (bM p g) mA RM c t) v=pN c v:=λv d z=>by
  unfold pN;rw[E v d,if_neg (by rw[z];decide)]
 have K:t<4294967296:=by have:=JB.lt Q (λi F=>(A i F).1);omega
 -- neighbours of a node without members around it stay out
 have D:∀v,v<g.2.length->¬JD g c v->(∀u,Cc g v u->t.testBit u=false)->¬JD g (iC (bM p g) mA RM c t) v:=λv d hn V=>by
  rintro⟨i,F,he⟩;obtain⟨u,N,L,l⟩:=Q.port d F;rw[gV L,m u N (V u l)]at he;exact hn ⟨i,F,by rw[gV L];exact he⟩
 refine⟨⟨by rw[GU,G],λv d=> ?_,λv d x hx=> ?_⟩,λv d=> ?_,?_,λs hs=> ?_⟩
 ·rw[E v d];split
  ·rw[GE];exact w v d
  ·exact w v d
 ·obtain rfl:x=0:=by simp[mA]at hx;exact hx
  rw[loM,hiM];show 0<=pN (iC (bM p g) mA RM c t) v∧pN (iC (bM p g) mA RM c t) v<=_;cases z:t.testBit v with
  |true=>rcases o v z with⟨_,_,e⟩|⟨_,_,e⟩<;>rw[e]<;>omega
  |false=>
   have:=C.r.ok v d 0 (by decide);rw[loM,hiM]at this;rw[m v d z];exact this
 ·rw[y];cases z:t.testBit v with
  | true =>
   obtain⟨_,_,I⟩:=A v z;rw[if_pos Z];rcases o v z with⟨a,b,e⟩|⟨a,b,e⟩
   ·rcases C.st v d with q|⟨_,q|q⟩
    ·exact .inr ⟨I,.inl ⟨by omega,e⟩⟩
    ·exact absurd q.2 a
    ·exact absurd b q.2.2
   ·have T:¬JD g (iC (bM p g) mA RM c t) v:=D v d b λu l=>by
     cases V:t.testBit u with
     |false=>rfl
     |true=>exact absurd l (H v u z V)
    have P:iR B v+1<=2:=by
     rcases C.st v d with q|⟨_,q|q⟩
     ·omega
     ·omega
     ·exact absurd a q.2.1
    exact .inr ⟨I,.inr ⟨P,by rw[e];decide,T⟩⟩
  | false =>
   rw[if_neg (by decide),Nat.add_zero,m v d z];rcases C.st v d with q|⟨I,q|q⟩
   ·exact .inl q
   ·exact .inr ⟨I,.inl q⟩
   ·refine .inr ⟨I,.inr ⟨q.1,q.2.1,D v d q.2.2 λu l=> ?_⟩⟩;cases X:t.testBit u with
    |false=>rfl
    | true =>
     obtain⟨j,hj,S⟩:=Q.back d l;have U:JD g c u:=⟨j,hj,by rw[gV S];exact q.2.1⟩
     rcases o u X with⟨a,b,_⟩|⟨a,b,_⟩
     ·obtain⟨i,F,R⟩:=l;exact absurd ⟨i,F,by rw[gV R];exact a⟩ q.2.2
     ·exact absurd U b
 ·obtain⟨u,N⟩:=GB W;have Y:=(A u N.bit).1;have:=PV (f:=iR B) (h:=iR (B++[t])) (n:=g.2.length) (u:=u) (λv _=>by rw[y];omega) Y (by rw[y,if_pos N.bit];omega);have:=C.sum;omega
 ·rcases List.mem_append.1 hs with h|h
  ·exact C.sets s h
  ·rw[List.mem_singleton.1 h];exact K
def StM (g:GR) (c:bE) (v:Nat):Prop:=pN c v≠0∧¬JD g c v
def Mo (g:GR) (a d:bE) (v:Nat):Prop:=pN d v=pN a v∧∀u,Cc g v u->pN d u=pN a u
def Sa (g:GR) (c:bE):Prop:=∀v,v<g.2.length->(JD g c v↔pN c v=0)
section
variable {p:zL} {g:GR} {c:List (List Int)} {lv t:Nat}
theorem GW (l:FY g c mA) (h:∀i,t.testBit i=true->(yY (bM p g) RM lv c).testBit i=true):
  (∀v,t.testBit v=true->v<g.2.length∧((pN c v≠0∧JD g c v∧pN (iC (bM p g) mA RM c t) v=0)∨(pN c v=0∧¬JD g c v∧pN (iC (bM p g) mA RM c t) v=1)))∧∀v,v<g.2.length->t.testBit v=false->pN (iC (bM p g) mA RM c t) v=pN c v:=by
 have k:=l.len;have f:∀v,v<g.2.length->at' (iC (bM p g) mA RM c t) (v:Int)=if t.testBit v=true then xY (bM p g) mA RM c v (qC (bM p g) RM c v)else at' c (v:Int):=λv d=>CY (by rw[k];exact d);refine⟨λv d=> ?_,λv d n=> ?_⟩
 ·obtain⟨j,m,_⟩:=(yZ (bM p g) RM lv c v).1 (h v d);refine⟨j,?_⟩
  unfold pN;rw[f v j,if_pos d];rcases NN m with⟨e,a,b⟩|⟨e,a,b⟩
  ·rw[e];exact .inl ⟨a,b,Zl (l.row v j)⟩
  ·rw[e];exact .inr ⟨a,b,Zm (l.row v j)⟩
 ·unfold pN;rw[f v d,if_neg (by rw[n];decide)]
variable (hV:VG g) (hr:FY g c mA) (hsub:∀i,t.testBit i=true->(yY (bM p g) RM lv c).testBit i=true)
 include hV hr hsub
theorem Zs {v:Nat} (l:v<g.2.length) (h:StM g c v):t.testBit v=false∧StM g (iC (bM p g) mA RM c t) v:=by
 obtain⟨n,m⟩:=GW hr hsub;have e:t.testBit v=false:=by
  cases e:t.testBit v with
  |false=>rfl
  |true=>
   rcases(n v e).2 with⟨_,q,_⟩|⟨q,_,_⟩
   ·exact absurd q h.2
   ·exact absurd q h.1
 refine⟨e,by rw[m v l e];exact h.1,?_⟩
 rintro⟨i,o,f⟩;obtain⟨u,s,d,a⟩:=hV.port l o;rw[gV d]at f;cases b:t.testBit u with
 |false=>
  rw[m u s b]at f;exact h.2 ⟨i,o,by rw[gV d];exact f⟩
 | true =>
  rcases(n u b).2 with⟨_,_,q⟩|⟨_,q,_⟩
  ·exact f q
  ·obtain⟨j,r,k⟩:=hV.back l a;exact q ⟨j,r,by rw[gV k];exact h.1⟩
theorem enterM (b:∀v u,t.testBit v=true->t.testBit u=true->¬Cc g v u) {v:Nat} (j:t.testBit v=true) (h:pN c v=0):StM g (iC (bM p g) mA RM c t) v:=by
 obtain⟨n,m⟩:=GW hr hsub;obtain⟨w,q⟩:=n v j;rcases q with⟨q,_⟩|⟨_,o,e⟩
 ·exact absurd h q
 ·refine⟨by rw[e];decide,?_⟩
  rintro⟨i,l,k⟩;obtain⟨u,s,d,a⟩:=hV.port w l;have f:t.testBit u=false:=by
   cases r:t.testBit u with
   |false=>rfl
   |true=>exact absurd a (b v u j r)
  rw[gV d,m u s f]at k;exact o ⟨i,l,by rw[gV d];exact k⟩
end
structure RU (g:GR) (lv:Nat) (cl d:List (List Int)) (k:Nat) (c:List (List Int)) (ch:List Nat):Prop where
 m:OB g lv d k c ch
 fa:∀v,v<g.2.length->Mo g cl d v->pN cl v≠0->iR ch v=0∧StM g c v
 fb:∀v,v<g.2.length->Mo g cl d v->pN cl v=0->(iR ch v=0∧pN c v=0)∨(iR ch v=1∧StM g c v)
 fc:∀v,v<g.2.length->Mo g cl d v->(∀u,Cc g v u->Mo g cl d u)->iR ch v=0
theorem abh {g:GR} (m:VG g) {p:Nat} {j d:List (List Int)} (o:Sa g j) (n:FY g d mA):RU g p j d 0 d []:=by
 refine⟨⟨n,λv _=> .inl ⟨by simp[iR],rfl⟩,by omega,λt h=>by cases h⟩,λv f e c=>⟨by simp[iR],?_⟩,λv f e c=> .inl ⟨by simp[iR],by rw[e.1];exact c⟩,λv _ _ _=>by simp[iR]⟩
 refine⟨by rw[e.1];exact c,?_⟩
 rintro⟨i,l,k⟩;obtain⟨u,q,b,a⟩:=m.port f l;rw[gV b,e.2 u a]at k;exact c ((o v f).1 ⟨i,l,by rw[gV b];exact k⟩)
theorem adn {p:zL} {g:GR} (B:VG g) {L k t:Nat} {z d c:List (List Int)} {n:List Nat} (R:Sa g z) (w:RU g L z d k c n) (K:t≠0) (f:∀i,t.testBit i=true->(yY (bM p g) RM L c).testBit i=true) (s:∀v u,t.testBit v=true->t.testBit u=true->¬Cc g v u):RU g L z d (k+1) (iC (bM p g) mA RM c t) (n++[t]):=by
 have E:=w.m.r;obtain⟨Q,P⟩:=GW E f;have o:∀v,iR (n++[t]) v=iR n v+if t.testBit v=true then 1 else 0:=zH n t;have l:∀v,t.testBit v=false->iR (n++[t]) v=iR n v:=λv j=>by rw[o,if_neg (by rw[j];decide)];rfl
 have A:∀v,v<g.2.length->Mo g z d v->pN z v≠0->iR (n++[t]) v=0∧StM g (iC (bM p g) mA RM c t) v:=λv h y x=>by
  obtain⟨a,b⟩:=w.fa v h y x;obtain⟨e,F⟩:=Zs B E f h b;exact⟨by rw[l v e];exact a,F⟩
 refine⟨Zt B w.m K f s,A,λv h y x=> ?_,λv h y O=> ?_⟩
 ·rcases w.fb v h y x with⟨a,b⟩|⟨a,b⟩
  ·cases j:t.testBit v with
   |false=>exact .inl ⟨by rw[l v j];exact a,by rw[P v h j];exact b⟩
   |true=>exact .inr ⟨by rw[o,if_pos j,a],enterM B E f s j b⟩
  ·obtain⟨e,F⟩:=Zs B E f h b;exact .inr ⟨by rw[l v e];exact a,F⟩
 ·by_cases x:pN z v=0
  ·obtain⟨i,N,M⟩:=(R v h).2 x;obtain⟨u,S,D,C⟩:=B.port h N;rw[gV D]at M;have J:=(w.fa u S (O u C) M).2;have I:JD g c v:=⟨i,N,by rw[gV D];exact J.1⟩
   have G:=w.fc v h y O;have H:pN c v=0:=by
    rcases w.fb v h y x with⟨_,b⟩|⟨a,_⟩
    ·exact b
    ·omega
   have j:t.testBit v=false:=by
    cases j:t.testBit v with
    |false=>rfl
    |true=>
     rcases(Q v j).2 with⟨q,_⟩|⟨_,q,_⟩
     ·exact absurd H q
     ·exact absurd I q
   rw[l v j];exact G
  ·exact(A v h y x).1
section
variable {g:GR} {cl d:List (List Int)} {S v:Nat}
theorem Ls (j:VG g) (l:∀u,u<g.2.length->(S.testBit u=true↔pN d u≠pN cl u)) (f:v<g.2.length) (h:¬JE g S 1 v):Mo g cl d v:=by
 have c:∀u,u<g.2.length->S.testBit u≠true->pN d u=pN cl u:=λu n q=>Decidable.not_not.1 λe=>q ((l u n).2 e);refine⟨c v f λq=>h ((qU j).2 (.inl (uV.2 ⟨q,f⟩))),λu a=> ?_⟩
 obtain⟨i,m,o⟩:=id a;obtain⟨p,b,k,_⟩:=j.port f m;have:u=p:=by omega
 subst this;exact c u b λq=>h ((qU j).2 (.inr ⟨f,u,a,uV.2 ⟨q,b⟩⟩))
theorem X_ (b:VG g) (f:∀u,u<g.2.length->(S.testBit u=true↔pN d u≠pN cl u)) (e:v<g.2.length) (h:¬JE g S 2 v):Mo g cl d v∧∀u,Cc g v u->Mo g cl d u:=by
 refine⟨Ls b f e λq=>h ((qU b).2 (.inl q)),λu a=> ?_⟩
 obtain⟨i,k,l⟩:=id a;obtain⟨m,c,j,_⟩:=b.port e k;have:u=m:=by omega
 subst this;exact Ls b f c λq=>h ((qU b).2 (.inr ⟨e,u,a,q⟩))
end
theorem vA {f h:Nat->Nat}:∀{n:Nat},(∀v,v<n->f v=h v)->o_ f n=o_ h n
 |0,_=>rfl
 |n+1,k=>by simp only[o_];rw[vA λv a=>k v (by omega),k n (by omega)]
theorem DK (f h:Nat->Nat):∀n,o_ (λv=>f v+h v) n=o_ f n+o_ h n
 |0=>rfl
 |n+1=>by simp only[o_];rw[DK f h n];omega
theorem FV (k:Nat) (f:Nat->Nat):∀n,o_ (λv=>k*f v) n=k*o_ f n
 |0=>rfl
 |n+1=>by simp only[o_];rw[FV k f n,Nat.mul_add]
theorem Br:∀n,o_ (λ_=>0) n=0
 |0=>rfl
 |n+1=>by simp only[o_];rw[Br n]
theorem Dg (w:Nat->Nat->Nat) (m:Nat):∀n,o_ (λa=>o_ (λb=>w a b) m) n=o_ (λb=>o_ (λa=>w a b) n) m
 |0=>by simp only[o_];rw[Br]
 |n+1=>by
  have:(λb=>o_ (λa=>w a b) (n+1))=λb=>o_ (λa=>w a b) n+w n b:=rfl;rw[this,DK,<-Dg w m n];rfl
theorem Ie (a:Nat):∀n,o_ (λv=>if a=v then 1 else 0) n=if a<n then 1 else 0
 |0=>rfl
 | n + 1 => by
  simp only[o_];rw[Ie a n];by_cases e:a=n
  ·rw[if_neg (by omega),if_pos e,if_pos (by omega)]
  ·by_cases q:a<n
   ·rw[if_pos q,if_neg e,if_pos (by omega)]
   ·rw[if_neg q,if_neg e,if_neg (by omega)]
theorem GZ {f:Nat->Nat} {u:Nat}:∀{n:Nat},u<n->f u<=o_ f n
 |0,h=>absurd h (Nat.not_lt_zero u)
 |n+1,h=>by
  simp only[o_];by_cases e:u=n
  ·rw[e];omega
  ·have:=GZ (f:=f) (u:=u) (n:=n) (by omega);omega
theorem Rx (q:Nat->Nat) {u:Nat}:∀{n:Nat},u<n->o_ (λv=>if u=v then 0 else q v) n+q u=o_ q n
 |0,h=>absurd h (Nat.not_lt_zero u)
 | n + 1, h => by
  simp only[o_];by_cases e:u=n
  ·rw[if_pos e];have:o_ (λv=>if u=v then 0 else q v) n=o_ q n:=vA λv a=>if_neg (by omega);rw[this,e];omega
  ·rw[if_neg e];have:=Rx q (u:=u) (n:=n) (by omega);omega
def np (g:GR) (u v:Nat):Nat:=o_ (λi=>if(jA (row g u) i).1=(v:Int)then 1 else 0) (row g u).length
def Yv (g:GR) (u v:Nat):Nat:=o_ (λi=>if u=v then 0 else np g (jA (row g u) i).1.toNat v) (row g u).length
def Gz (S n:Nat):Nat:=o_ (λu=>if S.testBit u=true then 1 else 0) n
section
variable {g:GR} (hV:VG g)
theorem LK {u v:Nat} (h:Cc g u v):1<=np g u v:=by
 obtain⟨i,a,e⟩:=h;have:=GZ (f:=λi=>if(jA (row g u) i).1=(v:Int)then 1 else 0) a;rw[if_pos e]at this;exact this
 include hV
theorem LM {u:Nat} (d:u<g.2.length):o_ (λv=>np g u v) g.2.length<=(row g u).length:=by
 unfold np;rw[Dg (λv i=>if(jA (row g u) i).1=(v:Int)then 1 else 0)];refine Nat.le_trans (Ic (b:=1) λi c=> ?_) (by omega);obtain⟨x,f,a,_⟩:=hV.port d c;have:o_ (λv=>if(jA (row g u) i).1=((v:Nat):Int)then 1 else 0) g.2.length=o_ (λv=>if x=v then 1 else 0) g.2.length:=vA λv _=>by
  rw[a];by_cases e:x=v
  ·rw[if_pos e,if_pos (by omega)]
  ·rw[if_neg e,if_neg (by omega)]
 rw[this,Ie];split<;>omega
theorem Ra {u d:Nat} (a:u<g.2.length) (f:∀v,v<g.2.length->(row g v).length<=d):o_ (λv=>Yv g u v) g.2.length<=(d - 1)*(row g u).length:=by
 unfold Yv;rw[Dg (λv i=>if u=v then 0 else np g (jA (row g u) i).1.toNat v)];refine Ic λi h=> ?_;obtain⟨x,b,j,c⟩:=hV.port a h;have e:(jA (row g u) i).1.toNat=x:=by omega
 rw[e];have k:=Rx (λv=>np g x v) a;have l:=LM hV b;have m:=LK (hV.back a c);have n:=f x b;omega
theorem aaq {S d:Nat} {f:Nat->Nat} (l:∀v,v<g.2.length->(row g v).length<=d) (i:∀v,v<g.2.length->f v<=1) (k:∀v,v<g.2.length->f v≠0->JE g S 1 v):o_ f g.2.length<=Gz S g.2.length*(1+d):=by
 let w:Nat->Nat->Nat:=λv u=>if S.testBit u=true then(if u=v then 1 else 0)+np g u v else 0;have c:∀v,v<g.2.length->f v<=o_ (λu=>w v u) g.2.length:=λv b=>by
  by_cases e:f v=0
  ·omega
  ·have h:=i v b;rcases(qU hV).1 (k v b e)with q|⟨_,u,j,q⟩
   ·obtain⟨q,_⟩:=uV.1 q;have:=GZ (f:=λu=>w v u) b;have e:w v v=1+np g v v:=by show(if _ then _ else _)=_;rw[if_pos q,if_pos Z]
    rw[e]at this;omega
   ·obtain⟨q,a⟩:=uV.1 q;have:=GZ (f:=λu=>w v u) a;have m:=LK (hV.back b j);have e:w v u=(if u=v then 1 else 0)+np g u v:=by show(if _ then _ else _)=_;rw[if_pos q]
    rw[e]at this;omega
 refine Nat.le_trans (Bq c) ?_;rw[Dg w];have:o_ (λu=>o_ (λv=>w v u) g.2.length) g.2.length<=o_ (λu=>(1+d)*(if S.testBit u=true then 1 else 0)) g.2.length:=Bq λu a=>by
  by_cases q:S.testBit u=true
  ·have e:(λv=>w v u)=λv=>(if u=v then 1 else 0)+np g u v:=funext λv=>if_pos q;rw[e,DK,Ie,if_pos a,if_pos q];have:o_ (np g u) g.2.length<=(row g u).length:=LM hV a;have:=l u a;omega
  ·have e:(λv=>w v u)=λ_=>0:=funext λv=>if_neg q;rw[e,Br];omega
 refine Nat.le_trans this ?_;rw[FV,Nat.mul_comm];exact Nat.le_refl _
theorem aar {S d:Nat} {f:Nat->Nat} (n:∀v,v<g.2.length->(row g v).length<=d) (A:∀v,v<g.2.length->f v<=2) (z:∀v,v<g.2.length->¬JE g S 1 v->f v<=1) (D:∀v,v<g.2.length->f v≠0->JE g S 2 v):o_ f g.2.length<=Gz S g.2.length*(2+d+d*d):=by
 let w:Nat->Nat->Nat:=λv u=>if S.testBit u=true then 2*(if u=v then 1 else 0)+2*np g u v+Yv g u v else 0;have p:∀v,v<g.2.length->f v<=o_ (λu=>w v u) g.2.length:=λv b=>by
  have l:∀u,u<g.2.length->S.testBit u=true->2*(if u=v then 1 else 0)+2*np g u v+Yv g u v<=o_ (λu=>w v u) g.2.length:=λu a q=>by
   have:=GZ (f:=λu=>w v u) a;have e:w v u=2*(if u=v then 1 else 0)+2*np g u v+Yv g u v:=by show(if _ then _ else _)=_;rw[if_pos q]
   rw[e]at this;exact this
  have h:=A v b;by_cases c:JE g S 1 v
  ·rcases(qU hV).1 c with q|⟨_,u,j,q⟩
   ·obtain⟨q,_⟩:=uV.1 q;have:=l v b q;rw[if_pos Z]at this;omega
   ·obtain⟨q,a⟩:=uV.1 q;have:=l u a q;have B:=LK (hV.back b j);omega
  ·by_cases e:f v=0
   ·omega
   ·have J:=z v b c;rcases(qU hV).1 (D v b e)with q|⟨_,x,j,q⟩
    ·exact absurd q c
    ·rcases(qU hV).1 q with q|⟨F,u,m,q⟩
     ·exact absurd ((qU hV).2 (.inr ⟨b,x,j,q⟩)) c
     ·obtain⟨q,a⟩:=uV.1 q;have:=l u a q;have r:u≠v:=λe=>c ((qU hV).2 (.inl (uV.2 ⟨e▸q,b⟩)));obtain⟨i,E,o⟩:=hV.back F m;have B:=LK (hV.back b j);have C:=GZ (f:=λi=>if u=v then 0 else np g (jA (row g u) i).1.toNat v) E;rw[if_neg r,o,show((x:Int)).toNat=x from rfl]at C;have K:Yv g u v=o_ (λi=>if u=v then 0 else np g (jA (row g u) i).1.toNat v) (row g u).length:=rfl;omega
 refine Nat.le_trans (Bq p) ?_;rw[Dg w];have:o_ (λu=>o_ (λv=>w v u) g.2.length) g.2.length<=o_ (λu=>(2+d+d*d)*(if S.testBit u=true then 1 else 0)) g.2.length:=Bq λu a=>by
  by_cases q:S.testBit u=true
  ·have e:(λv=>w v u)=λv=>2*(if u=v then 1 else 0)+2*np g u v+Yv g u v:=funext λv=>if_pos q;rw[e,DK (λv=>2*(if u=v then 1 else 0)+2*np g u v),DK (λv=>2*(if u=v then 1 else 0)),FV 2 (λv=>if u=v then 1 else 0),FV 2 (λv=>np g u v),Ie,if_pos a,if_pos q];have G:o_ (np g u) g.2.length<=(row g u).length:=LM hV a;have s:o_ (λv=>np g u v) g.2.length<=(row g u).length:=LM hV a;have t:o_ (λv=>Yv g u v) g.2.length<=(d - 1)*(row g u).length:=Ra hV a n;have H:o_ (Yv g u) g.2.length<=(d - 1)*(row g u).length:=Ra hV a n;have y:=n u a;have I:(d - 1)*(row g u).length<=(d - 1)*d:=Nat.mul_le_mul_left _ y;have a5:(d - 1)*d+d=d*d∨d=0:=by
    by_cases e:d=0
    ·exact .inr e
    ·left;obtain⟨k,rfl⟩:∃k,d=k+1:=⟨d - 1,by omega⟩
     rw[Nat.add_sub_cancel,<-Nat.succ_mul]
   rcases a5 with a5|a5
   ·omega
   ·subst a5;omega
  ·have e:(λv=>w v u)=λ_=>0:=funext λv=>if_neg q;rw[e,Br];omega
 refine Nat.le_trans this ?_;rw[FV,Nat.mul_comm];exact Nat.le_refl _
end
theorem DL (f:Nat->Nat) (a:Nat):∀b,o_ f (a+b)=o_ f a+o_ (λv=>f (a+v)) b
 |0=>rfl
 |b+1=>by show o_ f (a+b)+f (a+b)=_;rw[DL f a b];simp only[o_];omega
theorem VU {f:Nat->Nat} {n:Nat} (h:∀v,n<=v->f v=0) {m:Nat} (a:n<=m):o_ f m=o_ f n:=by
 obtain⟨k,rfl⟩:∃k,m=n+k:=⟨m - n,by omega⟩
 rw[DL,vA (h:=λ_=>0) λv _=>h (n+v) (by omega),Br];rfl
def wH (t n:Nat):Nat:=o_ (λv=>if t.testBit v=true then 1 else 0) n
theorem Fj (t:Nat) (n:Nat):wH t n<=n:=Jv λv _=>by split<;>omega
theorem O_:∀i,i<256->at' FZ ((i:Nat):Int)=((wH i 8:Nat):Int):=by
 have h:((List.range 256).all λi=>decide (at' FZ ((i:Nat):Int)=((wH i 8:Nat):Int)))=true:=by decide +kernel
 intro i hi;exact of_decide_eq_true (List.all_eq_true.1 h i (List.mem_range.2 hi))
theorem OV (t:Nat):wH t 24=wH (t / 2^16%256) 8+wH (t / 2^8%256) 8+wH (t%256) 8:=by
 have c:∀x,wH (x%256) 8=wH x 8:=λx=>vA λv e=>by
  rw[show(256:Nat)=2^8 from rfl,Nat.testBit_mod_two_pow,decide_eq_true e,Bool.true_and]
 have d:∀k,wH (t / 2^k) 8=o_ (λv=>if t.testBit (k+v)=true then 1 else 0) 8:=λk=>vA λv _=>by
  rw[Nat.testBit_div_two_pow,Nat.add_comm]
 rw[c,c,c,d,d];have a:=DL (λv=>if t.testBit v=true then 1 else 0) 16 8;have b:=DL (λv=>if t.testBit v=true then 1 else 0) 8 8;unfold wH;rw[show(24:Nat)=16+8 from rfl,a,show(16:Nat)=8+8 from rfl,b];omega
theorem Yx {t:Nat} (ht:t<16777216):gK 1000 (t:Int)=some ((wH t 24:Nat):Int):=by
 have hb:(List.length FZ:Int)=256:=by decide +kernel
 have h255:∀a:Nat,a<4294967296->dA .u32 (a:Int) 255=((a%256:Nat):Int):=λa ha=>by
  rw[show(255:Int)=((255:Nat):Int)from rfl,Cg ha (by omega),show(255:Nat)=2^8 - 1 from rfl,Nat.and_two_pow_sub_one_eq_mod]
 have hs:∀k:Nat,k<32->lY .u32 (t:Int) (k:Int)=((t / 2^k:Nat):Int):=λk hk=>Fi hk;have s24:lY .u32 (t:Int) 24=((t / 2^24:Nat):Int):=hs 24 (by omega);have s16:lY .u32 (t:Int) 16=((t / 2^16:Nat):Int):=hs 16 (by omega);have s8:lY .u32 (t:Int) 8=((t / 2^8:Nat):Int):=hs 8 (by omega);have z24:t / 2^24=0:=Nat.div_eq_of_lt (by omega);unfold gK;rw[hb,s24,s16,s8,h255 _ (by omega),h255 _ (by omega),h255 _ (by omega),z24,cS (by decide),cS (by omega),cS (by decide),cS (by omega),cS (by decide),cS (by omega),cS (by omega)];have z0:at' FZ ((0:Nat):Int)=0:=rfl;have w8:∀x:Int,0<=x->x<=100->wI .u8 x=x:=λx h1 h2=>by
  rw[Cp];have:IntKind.u8.wrap x=x%256:=rfl;rw[this];omega
 have la:=Fj (t / 2^16%256) 8;have lb:=Fj (t / 2^8%256) 8;have lc:=Fj (t%256) 8;rw[OV,O_ _ (show t / 2^16%256<256 by omega),O_ _ (show t / 2^8%256<256 by omega),O_ _ (show t%256<256 by omega),z0];generalize wH (t / 2^16%256) 8=A at *
 generalize wH (t / 2^8%256) 8=B at *
 generalize wH (t%256) 8=C at *
 rw[w8 (0+(A:Int)) (by omega) (by omega),w8 (0+(A:Int)+B) (by omega) (by omega),w8 (0+(A:Int)+B+C) (by omega) (by omega),wr (by omega) (by omega)];congr 1;omega
theorem D_.exact {k:Nat} {cnt:CT} {R B pe:Nat} (h:D_ k cnt R B pe) (hk:k<900) {t en:Nat} (ht:t<16777216) (h0:t≠0) (hen:en<16777216) {cnt':CT} {err:Int} (hadd:jJ 1000 cnt (t:Int) (en:Int)=some (cnt',err)):
  cnt'.2.1=cnt.2.1+((wH t 24:Nat):Int):=by
 have hv:=h.valid (by omega);obtain⟨a,b,c,d,e,f,g⟩:=h;have hn:=Yx ht;have hn2:=Fj t 24;have hp:=CV [(t:Int),(en:Int)] (by simp) λx hx=>by
  have hx:x=(t:Int)∨x=(en:Int):=by simpa using hx
  rcases hx with rfl|rfl
  ·exact⟨t,rfl,ht⟩
  ·exact⟨en,rfl,hen⟩
 have hdl:Bc pe t<4294967296:=IF pe t;unfold jJ at hadd;rw[bF (show iN 1000 _=some true from hv),if_neg (by decide),if_neg (by omega),bF hp]at hadd;unfold mY mZ at hadd;dsimp only at hadd;rw[a,c,e,if_neg (by decide),if_neg (by omega),bF hn,Fh,Cg hdl (by omega),dG (by omega),dG (by omega),wr (by omega) (by omega)]at hadd;by_cases hz:Bc pe t &&& en=0
 ·rw[if_pos (by rw[hz];rfl)]at hadd;obtain⟨rfl,_⟩:=Prod.mk.inj (Option.some.inj hadd);rfl
 ·rw[if_neg (by omega)]at hadd;obtain⟨rfl,_⟩:=Prod.mk.inj (Option.some.inj hadd);rfl
theorem VT (a:f_) (t n:Nat):o_ (iR (a++[t])) n=o_ (iR a) n+wH t n:=by
 unfold wH;rw[<-DK];exact vA λv _=>zH a t v
theorem Pb {p:zL} {g:GR} (b:VG g) (R:List RL) (c:bE):D_ 0 (0,0,0,0,dA .u32 ((yY (bM p g) R (jI g) c:Nat):Int) 16777215) 0 0 (yY (bM p g) R (jI g) c):=by
 have a:yY (bM p g) R (jI g) c<16777216:=JB.lt (g:=g) b (Ph (bM p g) R (jI g) c);refine⟨rfl,by dsimp only;omega,rfl,rfl,?_,by omega,a⟩
 dsimp only;rw[show(16777215:Int)=((16777215:Nat):Int)from rfl,Cg (by omega) (by omega),show(16777215:Nat)=2^24 - 1 from rfl,Nat.and_two_pow_sub_one_eq_mod,Nat.mod_eq_of_lt a]
theorem IP {p:zL} {g:GR} {R:List RL} (hV:VG g) (hp:vF g p.2.1) (hz:p.2.2.map vE=Eu R) (hR:xC p.2.1.length R=true) {kind:Int} (hk1:1<=kind) (hk4:kind<=4) {c0:bE} (hc0:FY g c0 p.2.1) {ws:aS} (hws:ws.length<=800) (hw:∀k:Nat,k<ws.length->∃m:Nat,at' ws (k:Int)=(m:Int)∧m<4294967296)
  (P:Nat->bE->f_->Prop) (h0:P 0 c0 [])
  (hstep:∀k c ch t,k<ws.length->uU g p.2.1.length c->P k c ch->yY (bM p g) R (jI g) c≠0->t≠0->(∀i,t.testBit i=true->(yY (bM p g) R (jI g) c).testBit i=true)->(kind<=2->∀v u,t.testBit v=true->t.testBit u=true->¬Cc g v u)->P (k+1) (iC (bM p g) p.2.1 R c t) (ch++[t])):
  ∃k c ch cnt ens,jQ 1000 p g kind c0 ws=some ((BN ch,ens,c,cnt),0)∧P k c ch∧(∀t∈ch,JB g t)∧cnt.2.1=((o_ (iR ch) g.2.length:Nat):Int)∧k<=ws.length∧ch.length=k∧ens.length=k+1∧at' ens (k:Int)=((yY (bM p g) R (jI g) c:Nat):Int)∧(k=ws.length∨yY (bM p g) R (jI g) c=0):=by
 have h24:=hV.n24;obtain⟨k,c,ch,cnt,ens,h1,⟨h2,h2a,h2b,_⟩,h3,h4,h5,h6,h7,h8⟩:=Pm hV hp hz hR hk1 hk4 hc0 (ws:=ws) (by omega) hw (λk c ch cnt=>P k c ch∧(∀t∈ch,JB g t)∧cnt.2.1=((o_ (iR ch) 24:Nat):Int)∧∃R' B pe,D_ k cnt R' B pe)
  ⟨h0,λt h=>(by cases h),(by
   have:o_ (iR []) 24=0:=by rw[vA (h:=λ_=>0) λv _=>by simp[iR],Br]
   rw[this];rfl),0,0,_,Pb hV R c0⟩
  (λk c ch cnt t cnt' err hk hsh hI hne ht0 hsub hind _ _ hadd=>by
   obtain⟨a,a2,b,R',B,pe,hc⟩:=hI;have htG:JB g t:=λi hi=>((yZ (bM p g) R (jI g) c i).1 (hsub i hi)).1;have ht:=JB.lt hV htG;have hen:yY (bM p g) R (jI g) (iC (bM p g) p.2.1 R c t)<16777216:=JB.lt (g:=g) hV (Ph (bM p g) R (jI g) _);refine⟨hstep k c ch t hk hsh a hne ht0 hsub hind,λs hs=> ?_,?_,?_⟩
   ·rcases List.mem_append.1 hs with h|h
    ·exact a2 s h
    ·rw[List.mem_singleton.1 h];exact htG
   ·rw[hc.exact (by omega) ht ht0 hen hadd,b,VT];omega
   ·obtain⟨pe',_,q|q⟩:=hc.add (by omega) ht ht0 hen hadd
    ·exact⟨_,_,_,q.2⟩
    ·exact⟨_,_,_,q.2⟩)
 refine⟨k,c,ch,cnt,ens,h1,h2,h2a,?_,h4,h5,h6,h7,h8⟩
 rw[h2b,VU (n:=g.2.length) (λv hv=> ?_) h24];refine Nat.eq_zero_of_not_pos λh=> ?_;unfold iR at h;obtain⟨t,ht,hb⟩:=List.countP_pos_iff.1 h;have:=h2a t ht v hb;omega
def guC:E:= .ag 21 (.bi 35 (.lf 12 0) (.lf 5 0))
def vaC:E:= .ag 27 (.lf 12 0)
def RC:List RL:=[(guC,[(0,vaC)])]
theorem YJ:xC 1 RC=true:=by decide +kernel
theorem loC (g:GR) (v:Nat):lo g (at' oV ((0:Nat):Int)) v=0:=rfl
theorem hiC (g:GR) (v:Nat):hi g (at' oV ((0:Nat):Int)) v=(g.2.length:Int):=by
 show(0:Int)+1*(g.2.length:Int)+0*lU g g.1.length=_;omega
theorem ZB {g:GR} (c:VG g):vF g oV:=by
 have b:=c.n24;refine⟨by decide,Rt,λx a=> ?_,λx a _=> ?_⟩
 ·obtain rfl:x=0:=by simp[oV]at a;exact a
  exact .inl Z
 ·obtain rfl:x=0:=by simp[oV]at a;exact a
  rw[loC,hiC];omega
def BG (g:GR) (c:bE) (v:Nat):Prop:=∃i,i<(row g v).length∧yN g c v i=pN c v
section
variable {p:zL} {g:GR} {c:List (List Int)} {v:Nat}
theorem aaG:sV (bM p g) c v guC=Gk (((List.range (row g v).length).map λq=>Gk (decide (yN g c v q=pN c v))).any nz):=rfl
theorem abo:sV (bM p g) c v vaC=((EE ((List.range (row g v).length).map λq=>yN g c v q):Nat):Int):=rfl
theorem Yf:sV (bM p g) c v guC≠0↔BG g c v:=by
 rw[aaG];unfold BG;cases h:((List.range (row g v).length).map λq=>Gk (decide (yN g c v q=pN c v))).any nz with
 |false=>
  simp only[Gk,Bool.false_eq_true,if_false,ne_eq,not_true_eq_false,false_iff];rintro⟨i,a,b⟩;have:=List.any_eq_false.1 h (Gk (decide (yN g c v i=pN c v))) (List.mem_map.2 ⟨i,List.mem_range.2 a,rfl⟩);rw[b]at this;simp[Gk,nz]at this
 |true=>
  refine iff_of_true (by simp[Gk]) ?_;obtain⟨x,f,d⟩:=List.any_eq_true.1 h;obtain⟨i,a,rfl⟩:=List.mem_map.1 f;refine⟨i,List.mem_range.1 a,?_⟩
  by_cases e:yN g c v i=pN c v
  ·exact e
  ·simp[Gk,nz,e]at d
theorem DG:0<=qC (bM p g) RC c v↔BG g c v:=by
 rw[<-Yf (p:=p)];constructor
 ·intro h;obtain⟨i,b,a,d⟩:=(Bm (bM p g) RC c v).resolve_left (λe=>by omega);obtain rfl:i=0:=by simp[RC]at a;exact a
  exact d
 ·intro h;rcases Bm (bM p g) RC c v with e|⟨i,b,_⟩
  ·exact absurd (EJ.1 e 0 (by simp[RC])) h
  ·omega
theorem Jj (h:BG g c v):qC (bM p g) RC c v=0:=by
 obtain⟨i,b,a,_⟩:=(Bm (bM p g) RC c v).resolve_left (λe=>by have:=(DG (p:=p)).2 h;omega);obtain rfl:i=0:=by simp[RC]at a;exact a
 exact b
theorem QW (g:GR) (c:List (List Int)) (v:Nat):EE ((List.range (row g v).length).map λq=>yN g c v q)<=(row g v).length:=by
 have:=(Bh ((List.range (row g v).length).map λq=>yN g c v q)).2.2;simpa using this
theorem Zn (f:VG g) (h:v<g.2.length) (j:(at' c (v:Int)).length=1):at' (xY (bM p g) oV RC c v 0) 0=((EE ((List.range (row g v).length).map λq=>yN g c v q):Nat):Int):=by
 have i:=QW g c v;have a:=(f.node v h).deg;have e:xY (bM p g) oV RC c v 0=(at' c (v:Int)).set 0 (wU 1 (wJ g oV v 0) (sV (bM p g) c v vaC)):=rfl;have d:wJ g oV v 0=(0,(g.2.length:Int)):=by unfold wJ;rw[loC,hiC]
 rw[e,d,abo];have b:wU 1 (0,(g.2.length:Int)) ((EE ((List.range (row g v).length).map λq=>yN g c v q):Nat):Int)=((EE ((List.range (row g v).length).map λq=>yN g c v q):Nat):Int):=by
  unfold wU;rw[if_pos ⟨by dsimp only;omega,by dsimp only;omega⟩]
 rw[b];have:=uO (at' c (v:Int)) 0 0 ((EE ((List.range (row g v).length).map λq=>yN g c v q):Nat):Int) (by omega);rw[if_pos Z]at this;exact this
end
structure ZG (g:GR) (lv:Nat) (k:Nat) (c:List (List Int)) (ch:List Nat):Prop where
 r:FY g c oV
 one:∀v,v<g.2.length->iR ch v<=1
 done:∀v,v<g.2.length->1<=iR ch v->lv.testBit v=true∧¬BG g c v
 sum:k<=o_ (iR ch) g.2.length
 sets:∀t∈ch,t<4294967296
theorem adl {p:zL} {g:GR} (J:VG g) {P k t:Nat} {c:List (List Int)} {B:List Nat} (D:ZG g P k c B) (S:t≠0) (N:∀i,t.testBit i=true->(yY (bM p g) RC P c).testBit i=true) (M:∀v u,t.testBit v=true->t.testBit u=true->¬Cc g v u):ZG g P (k+1) (iC (bM p g) oV RC c t) (B++[t]):=by
 have L:=D.r.len;have w:∀v,t.testBit v=true->v<g.2.length∧BG g c v∧P.testBit v=true:=λv a=>by
  obtain⟨A,F,Q⟩:=(yZ (bM p g) RC P c v).1 (N v a);exact⟨A,DG.1 F,Q⟩
 have l:∀v,iR (B++[t]) v=iR B v+if t.testBit v=true then 1 else 0:=zH B t;have y:∀v,v<g.2.length->(at' c (v:Int)).length=1:=λv a=>D.r.row v a;have G:∀v,v<g.2.length->at' (iC (bM p g) oV RC c t) (v:Int)=if t.testBit v=true then xY (bM p g) oV RC c v (qC (bM p g) RC c v)else at' c (v:Int):=λv a=>CY (by rw[L];exact a);have d:∀v,t.testBit v=true->pN (iC (bM p g) oV RC c t) v=((EE ((List.range (row g v).length).map λq=>yN g c v q):Nat):Int):=λv a=>by
  obtain⟨A,F,_⟩:=w v a;unfold pN;rw[G v A,if_pos a,Jj F];exact Zn J A (y v A)
 have b:∀v,v<g.2.length->t.testBit v=false->pN (iC (bM p g) oV RC c t) v=pN c v:=λv a m=>by
  unfold pN;rw[G v a,if_neg (by rw[m];decide)]
 have I:∀v,t.testBit v=true->iR B v=0:=λv a=>by
  obtain⟨A,F,_⟩:=w v a;rcases Nat.eq_zero_or_pos (iR B v)with e|e
  ·exact e
  ·exact absurd F (D.done v A e).2
 have O:t<4294967296:=by have:=JB.lt J (λi H=>(w i H).1);omega
 refine⟨⟨by rw[GU,L],λv a=> ?_,λv a x U=> ?_⟩,λv a=> ?_,λv a A=> ?_,?_,λs Y=> ?_⟩
 ·rw[G v a];split
  ·rw[GE];exact y v a
  ·exact y v a
 ·obtain rfl:x=0:=by simp[oV]at U;exact U
  rw[loC,hiC];show 0<=pN (iC (bM p g) oV RC c t) v∧pN (iC (bM p g) oV RC c t) v<=_;cases m:t.testBit v with
  |true=>
   have:=QW g c v;have:=(J.node v a).deg;rw[d v m];omega
  |false=>
   have:=D.r.ok v a 0 (by decide);rw[loC,hiC]at this;rw[b v a m];exact this
 ·rw[l];have:=D.one v a;split
  ·rename_i m;rw[I v m];omega
  ·omega
 ·cases m:t.testBit v with
  | true =>
   obtain⟨_,_,W⟩:=w v m;refine⟨W,?_⟩
   rintro⟨i,H,E⟩;obtain⟨u,K,z,o⟩:=J.port a H;have C:t.testBit u=false:=by
    cases X:t.testBit u with
    |false=>rfl
    |true=>exact absurd o (M v u m X)
   rw[gV z,b u K C,d v m]at E;have:=(Bh ((List.range (row g v).length).map λq=>yN g c v q)).1;refine this (List.mem_map.2 ⟨i,List.mem_range.2 H,?_⟩);rw[gV z];exact E
  | false =>
   rw[l,if_neg (by rw[m];decide)]at A;obtain⟨F,Q⟩:=D.done v a A;refine⟨F,?_⟩
   rintro⟨i,H,E⟩;obtain⟨u,K,z,o⟩:=J.port a H;rw[gV z,b v a m]at E;cases C:t.testBit u with
   |false=>
    rw[b u K C]at E;exact Q ⟨i,H,by rw[gV z];exact E⟩
   |true=>
    rw[d u C]at E;obtain⟨j,V,R⟩:=J.back a o;refine(Bh ((List.range (row g u).length).map λq=>yN g c u q)).1 (List.mem_map.2 ⟨j,List.mem_range.2 V,?_⟩);rw[gV R];exact E.symm
 ·obtain⟨u,K⟩:=GB S;have T:=(w u K.bit).1;have:=PV (f:=iR B) (h:=iR (B++[t])) (n:=g.2.length) (u:=u) (λv _=>by rw[l];omega) T (by rw[l,if_pos K.bit];omega);have:=D.sum;omega
 ·rcases List.mem_append.1 Y with h|h
  ·exact D.sets s h
  ·rw[List.mem_singleton.1 h];exact O
theorem PP {p:zL} {g:GR} (x:VG g) {c:List (List Int)} (B:FY g c oV) {t:Nat} (s:∀v,t.testBit v=true->v<g.2.length∧BG g c v) (o:∀v u,t.testBit v=true->t.testBit u=true->¬Cc g v u) {v:Nat} (b:v<g.2.length) (h:BG g (iC (bM p g) oV RC c t) v):BG g c v∧t.testBit v=false:=by
 have y:=B.len;have r:∀v,v<g.2.length->(at' c (v:Int)).length=1:=λv b=>B.row v b;have m:∀v,v<g.2.length->at' (iC (bM p g) oV RC c t) (v:Int)=if t.testBit v=true then xY (bM p g) oV RC c v (qC (bM p g) RC c v)else at' c (v:Int):=λv b=>CY (by rw[y];exact b);have d:∀v,t.testBit v=true->pN (iC (bM p g) oV RC c t) v=((EE ((List.range (row g v).length).map λq=>yN g c v q):Nat):Int):=λv b=>by
  obtain⟨w,D⟩:=s v b;unfold pN;rw[m v w,if_pos b,Jj D];exact Zn x w (r v w)
 have a:∀v,v<g.2.length->t.testBit v=false->pN (iC (bM p g) oV RC c t) v=pN c v:=λv b n=>by
  unfold pN;rw[m v b,if_neg (by rw[n];decide)]
 obtain⟨i,z,l⟩:=h;obtain⟨u,C,f,k⟩:=x.port b z;cases n:t.testBit v with
 | true =>
  exfalso;have e:t.testBit u=false:=by
   cases F:t.testBit u with
   |false=>rfl
   |true=>exact absurd k (o v u n F)
  rw[gV f,a u C e,d v n]at l;refine(Bh ((List.range (row g v).length).map λq=>yN g c v q)).1 (List.mem_map.2 ⟨i,List.mem_range.2 z,?_⟩);rw[gV f];exact l
 | false =>
  rw[gV f,a v b n]at l;refine⟨?_,rfl⟩
  cases e:t.testBit u with
  |false=>
   rw[a u C e]at l;exact⟨i,z,by rw[gV f];exact l⟩
  |true=>
   rw[d u e]at l;obtain⟨j,E,A⟩:=x.back b k;exfalso;refine(Bh ((List.range (row g u).length).map λq=>yN g c u q)).1 (List.mem_map.2 ⟨j,List.mem_range.2 E,?_⟩);rw[gV A];exact l.symm
structure RR (g:GR) (lv:Nat) (d:bE) (k:Nat) (c:bE) (ch:f_):Prop where
 m:ZG g lv k c ch
 sp:∀v,v<g.2.length->BG g c v->BG g d v
 mv:∀v,v<g.2.length->1<=iR ch v->BG g d v
theorem abg {g:GR} {b:Nat} {d:bE} (a:FY g d oV):RR g b d 0 d []:=
 ⟨⟨a,λv _=>by simp[iR],λv _ h=>by simp[iR]at h,by omega,λt h=>by cases h⟩,λ_ _ h=>h,λv _ h=>by simp[iR]at h⟩
theorem adm {p:zL} {g:GR} (q:VG g) {l k t:Nat} {d c:bE} {o:f_} (f:RR g l d k c o) (n:t≠0) (b:∀i,t.testBit i=true->(yY (bM p g) RC l c).testBit i=true) (a:∀v u,t.testBit v=true->t.testBit u=true->¬Cc g v u):RR g l d (k+1) (iC (bM p g) oV RC c t) (o++[t]):=by
 have j:∀v,t.testBit v=true->v<g.2.length∧BG g c v:=λv e=>by
  obtain⟨w,x,_⟩:=(yZ (bM p g) RC l c v).1 (b v e);exact⟨w,DG.1 x⟩
 refine⟨adl q f.m n b a,λv e h=>f.sp v e (PP q f.m.r j a e h).1,λv e h=> ?_⟩
 rw[zH]at h;by_cases s:t.testBit v=true
 ·exact f.sp v e (j v s).2
 ·rw[if_neg s]at h;exact f.mv v e h
end Go.Proofs.YtjkjpdonlpdcaaaGreatDoor
namespace Go.Proofs.YtjkjpdonlpdcaaaGreatDoor
open Go.Sx
def oM  (a:dQ):Option dY:=
 some (a.1,a.2)
def oO (d:N_) (a:Int×Int×Int×aS) (c:(Int×Int×Int×aS)->Option dY) (b:Aj):Option dY:=
 c ((Ec .u32 a.1 (at' d.1 a.2.2.1)),b.1,(wI .i64 (a.2.2.1+(1:Int))),b.2)
def lE (e:N_) (b:Int×Int×Int×aS) (c:(Int×Int×Int×aS)->Option dY) (a:Int×Int×aS) (d:(Int×Int×aS)->Option dY):Option dY:=
 if a.2.1<(24:Int)then(ck ((0<=a.2.1∧a.2.1<((24:Nat):Int))∧List.length a.2.2=24) (ck (0<=a.2.1) (ck ((0<=a.2.1∧a.2.1<((24:Nat):Int))∧List.length a.2.2=24) (ck ((0<=a.2.1∧a.2.1<((24:Nat):Int))∧List.length (List.set a.2.2 (Int.toNat a.2.1) (wI .i64 ((at' a.2.2 a.2.1)+(wI .i64 (dA .u32 (lY .u32 (at' e.1 b.2.2.1) a.2.1) (1:Int))))))=24) (d ((max a.1 (at' (List.set a.2.2 (Int.toNat a.2.1) (wI .i64 ((at' a.2.2 a.2.1)+(wI .i64 (dA .u32 (lY .u32 (at' e.1 b.2.2.1) a.2.1) (1:Int)))))) a.2.1)),(wI .i64 (a.2.1+(1:Int))),(List.set a.2.2 (Int.toNat a.2.1) (wI .i64 ((at' a.2.2 a.2.1)+(wI .i64 (dA .u32 (lY .u32 (at' e.1 b.2.2.1) a.2.1) (1:Int))))))))))))else(oO e b c (a.1,a.2.2))
def gF (U:Nat) (c:N_) (a:Int×Int×Int×aS) (b:(Int×Int×Int×aS)->Option dY):Option dY:=
 if a.2.2.1<(List.length c.1:Int)then(ck (0<=a.2.2.1∧a.2.2.1<(List.length c.1:Int)) (bP (lE c a b) U (a.2.1,(0:Int),a.2.2.2)))else(oM  (a.1,a.2.1))
def jZ (U:Nat) (a:N_):Option dY:=
 bP (gF U a) U ((0:Int),(0:Int),(0:Int),(List.replicate 24 (0:Int)))
theorem WS:aR Tryz.prog 100:=Tryz.call100
theorem DW (U:Nat) {d:N_} (j:Value)  (v:Value)  (w:Value)  (B:pA) (r:dQ) (h:jZ U d=some r):
  aW Tryz.prog 100 #[Value.agg #[j,v,w,vI (d.2.2.2.1),vI (d.2.2.2.2.1),vI (d.2.2.2.2.2.1),vI (d.2.2.2.2.2.2.1),vU (d.2.2.2.2.2.2.2)]] [Sl sE j d.1,Sl sE v d.2.1,S2 bJ w B d.2.2.1] (λx:Unit=>Value.tuple #[vU (r.1),vI (r.2)]) (λx l=>l) (λ_ l=>l):=by
 refine aW.of Tryz.func100 Z Tryz.ntmps100 Z λc=>?_;unfold jZ at h;refine aP<|aH (aL.box (cs:=[j,v,w,vI (d.2.2.2.1),vI (d.2.2.2.2.1),vI (d.2.2.2.2.2.1),vI (d.2.2.2.2.2.2.1),vU (d.2.2.2.2.2.2.2)]) Z Z) Z λC=>aC Z<|aC Z<|aN<|aP ?_;refine aH (aL.alloc (cs:=cellsOf cI (List.replicate 24 (0:Int))) Z (by kernel_rfl)) Z λi=>?_;refine aN<|aM<|fF (λg=>oM  g=some r) (λg y=>[(2,vU (g.1)),(3,vI (g.2))]) (λg y=>[]) ?_ ?_
 ·refine aP<|bV Z<|dO 1 Z<|jS (aF.fact 0 Z) Z<|aA Z<|aN<|aT<|fJ (gF U d) (λa k=>[(2,vU (a.1)),(3,vI (a.2.1)),(4,vP i),(9,j),(10,vI (List.length d.1:Int)),(11,vI (a.2.2.1))]) (λa k=>[bX i (cellsOf cI a.2.2.2) 160]) ((0:Int),(0:Int),(0:Int),(List.replicate 24 (0:Int))) () h SF (bA.ix [0] Z Z) ?_;intro t a k h;refine aP<|cW Z<|aN<|aM ?_;refine dK h Z (λh=>?_) λh=>?_
  ·refine cT<|aM<|fF (λf=>oO d a (bP (gF U d) t) f=some r) (λf m=>[(2,vU (Ec .u32 a.1 (at' d.1 a.2.2.1))),(3,vI (f.1)),(4,vP i),(9,j),(10,vI (List.length d.1:Int)),(11,vI (a.2.2.1))]) (λf m=>[bX i (cellsOf cI f.2) 160]) ?_ ?_
   ·refine aT<|aP<|eH h λo h=>aD (bK Z Z (aF.fact 0 Z) Z Z o) Z<|aD (cQ Z (aF.fact 0 Z) Z Z Z CE o) Z<|aC Z<|aN<|aP<|aA Z<|aA Z<|aD (Le Z Z) Z<|aC Z<|aN<|aP<|aA Z<|aN<|aT<|fJ (lE d a (bP (gF U d) t)) (λb n=>[(2,vU (Ec .u32 a.1 (at' d.1 a.2.2.1))),(3,vI (b.1)),(4,vP i),(6,vU (at' d.1 a.2.2.1)),(9,j),(10,vI (List.length d.1:Int)),(11,vI (a.2.2.1)),(18,vI (b.2.1))]) (λb n=>[bX i (cellsOf cI b.2.2) 160]) (a.2.1,(0:Int),a.2.2.2) () h SF (bA.refl _) ?_;intro A b n h;refine aP<|cW Z<|aN<|aM ?_;refine dK h Z (λh=>?_) λh=>?_
    ·refine cT<|aM<|aT<|aP<|aA Z<|aC Z<|aN<|aM ?_;refine JR.start [0,1,3,0,0,24,56,120,255,511,1023] 8 mixedOrders (by decide +kernel) ?_;refine JR.open (by exact rfl) ?_;refine bD Z<|eH h λp h=>iB Z (kQ Z Z Z Z Z p.1)<|bL Z (bA.cons 0 Z .nil) .nil (Gh (e:=cI) Z (aF.res 0 Z) Z Z Z Z p) aO.z<|bD Z<|bD Z<|eH h λu h=>iB Z (Fg Z Z u)<|iB Z (Kb Z Z)<|iB Z (Gg Z Z Z)<|bQ 8 Z Z<|cJ Z<|eH h λq h=>aD (kQ Z Z Z Z Z q.1) Z<|Ep 0 (e:=cI) (wI .i64 ((at' b.2.2 b.2.1)+(wI .i64 (dA .u32 (lY .u32 (at' d.1 a.2.2.1) b.2.1) (1:Int))))) q Z Z Z Z Z Z Z<|aN<|aQ<|aA Z<|aA Z<|eH h λs h=>aD (kQ Z Z Z Z Z s.1) Z<|aD (Gh (e:=cI) Z (aF.res 0 Z) Z Z Z Z s) Z<|aD (Ir Z Z) Z<|aC Z<|eN<|oP<|aQ<|cJ Z<|aA Z<|aN ?_;exact AX ((max b.1 (at' (List.set b.2.2 (Int.toNat b.2.1) (wI .i64 ((at' b.2.2 b.2.1)+(wI .i64 (dA .u32 (lY .u32 (at' d.1 a.2.2.1) b.2.1) (1:Int)))))) b.2.1)),(wI .i64 (b.2.1+(1:Int))),(List.set b.2.2 (Int.toNat b.2.1) (wI .i64 ((at' b.2.2 b.2.1)+(wI .i64 (dA .u32 (lY .u32 (at' d.1 a.2.2.1) b.2.1) (1:Int))))))) () h SF Z
    refine sW<|eZ<|eZ<|yR<|oP ?_;exact iP (b.1,b.2.2) () h SF Z
   intro f m h;unfold oO at h;refine aQ<|cJ Z<|aA Z<|aN ?_;exact AX ((Ec .u32 a.1 (at' d.1 a.2.2.1)),f.1,(wI .i64 (a.2.2.1+(1:Int))),f.2) () h SF Z
  refine gX ?_;exact b_ (a.1,a.2.1) () h SF .nil (aE.refl _ _)
 intro g y h;unfold oM at h;refine aP<|aA Z<|aA Z<|aC Z<|aC Z<|aN<|aV ?_;cases h;exact iA () Z Z (RV.tmp Z) (RV.tmp Z) (bA.refl _) aE.nil
end Go.Proofs.YtjkjpdonlpdcaaaGreatDoor
namespace Go.Proofs.YtjkjpdonlpdcaaaGreatDoor
open Go Go.Sx
def Zo (a:f_):Nat:=a.foldl (· ||| ·) 0
theorem Vx (a:f_) (t:Nat):Zo (a++[t])=Zo a ||| t:=by unfold Zo;rw[List.foldl_append];rfl
theorem aaY:∀{b:f_},(∀t∈b,t<4294967296)->Zo b<4294967296:=by
 have d:∀(b:f_) (a:Nat),a<4294967296->(∀t∈b,t<4294967296)->b.foldl (· ||| ·) a<4294967296:=by
  intro b
  induction b with
  |nil=>intro a c _;exact c
  |cons t b f=>intro a c h;exact f _ (Re c (h t (by simp))) λs e=>h s (by simp[e])
 intro b h;exact d b 0 (by omega) h
theorem adQ {a k:Nat} (c:k<32) (b:a<4294967296):dA .u32 (lY .u32 (a:Int) (k:Int)) 1=if a.testBit k=true then 1 else 0:=by
 split
 ·rename_i h;exact(Gy c b).2 h
 ·rename_i h;exact(ada c b).2 (by simpa using h)
theorem Vo {ch:f_} (hch:∀t∈ch,t<4294967296) (hl:ch.length<=900) {b:Nat} (hb:∀v,v<24->iR ch v<=b) (r1:aS) (r2:bE) (r3:CT):
  ∃most:Int,jZ 1000 (BN ch,r1,r2,r3)=some (((Zo ch:Nat):Int),most)∧most<=(b:Int):=by
 have hil:(BN ch).length=ch.length:=by simp[BN]
 let F:Nat->Nat->Int:=λk v=>((iR (ch.take k) v:Nat):Int)
 let Q:Nat->aS:=λk=>(List.range 24).map (F k);have hle:∀k v,iR (ch.take k) v<=900:=λk v=>Nat.le_trans List.countP_le_length (by simp;omega);have hlb:∀k v,v<24->iR (ch.take k) v<=b:=λk v hv=>Nat.le_trans (List.Sublist.countP_le (List.take_sublist k ch)) (hb v hv);unfold jZ;rw[show List.replicate 24 (0:Int)=Q 0 by
  refine List.ext_getElem (by simp[Q]) λi h1 h2=> ?_;rw[List.getElem_replicate];simp[Q,F,iR]]
 obtain⟨⟨o,mo,k,q⟩,⟨e1,e2,e3,e4⟩,he⟩:=vL (step:=gF 1000 (BN ch,r1,r2,r3)) (K:=λx=>some (x.1,x.2.1)) ch.length
  (λk x=>x.1=((Zo (ch.take k):Nat):Int)∧x.2.1<=(b:Int)∧x.2.2.1=(k:Int)∧x.2.2.2=Q k) (λk x ag hk hI=>by
  obtain⟨o,mo,i,q⟩:=x;obtain⟨e1,e2,e3,e4⟩:=hI;dsimp only at e1 e2 e3 e4;subst e1 e3 e4;have ht:at' (BN ch) (k:Int)=((ch[k]:Nat):Int):=by rw[lC (by omega)];simp[BN]
  have ht32:=hch ch[k] (List.getElem_mem hk);have htk:ch.take (k+1)=ch.take k++[ch[k]]:=by rw[Bo hk,lC hk]
  let G:Nat->aS:=λj=>(List.range j).map (F (k+1))++(List.range' j (24 - j)).map (F k);have hG:∀j,j<=24->(G j).length=24:=λj hj=>by simp[G];omega
  have hGj:∀j,j<24->at' (G j) (j:Int)=F k j:=λj hj=>by
   rw[lC (by rw[hG j (by omega)];exact hj)];simp[G]
  have hGs:∀j,j<24->(G j).set j (F (k+1) j)=G (j+1):=λj hj=>by
   show((List.range j).map (F (k+1))++(List.range' j (24 - j)).map (F k)).set j (F (k+1) j)=(List.range (j+1)).map (F (k+1))++(List.range' (j+1) (24 - (j+1))).map (F k);rw[List.set_append_right _ _ (by simp),List.length_map,List.length_range,Nat.sub_self,show 24 - j=(24 - (j+1))+1 by omega,List.range'_succ,List.map_cons,List.set_cons_zero,List.range_succ,List.map_append,List.map_singleton,List.append_assoc];rfl
  unfold gF;dsimp only;rw[if_pos (by omega),cS (by omega),show Q k=G 0 by simp[Q,G,List.range_eq_range']];obtain⟨⟨m',j',q'⟩,⟨i1,i2,i3⟩,hi⟩:=vL (step:=lE (BN ch,r1,r2,r3) (((Zo (ch.take k):Nat):Int),mo,(k:Int),G 0) ag) (K:=λy=>ag (Ec .u32 ((Zo (ch.take k):Nat):Int) ((ch[k]:Nat):Int),y.1,((k+1:Nat):Int),y.2.2)) 24
   (λj y=>y.1<=(b:Int)∧y.2.1=(j:Int)∧y.2.2=G j) (λj y ag2 hj hJ=>by
   obtain⟨m',j',q'⟩:=y;obtain⟨i1,i2,i3⟩:=hJ;dsimp only at i1 i2 i3;subst i2 i3;have hs:=zH (ch.take k) ch[k] j;rw[<-htk]at hs;have:=hle k j;have hbj:=hlb (k+1) j hj;have hGl:=hG j (by omega);have e:wI .i64 (at' (G j) (j:Int)+wI .i64 (dA .u32 (lY .u32 ((ch[k]:Nat):Int) (j:Int)) 1))=F (k+1) j:=by
    rw[adQ (by omega) ht32,hGj j hj];show wI .i64 (((iR (ch.take k) j:Nat):Int)+_)=((iR (ch.take (k+1)) j:Nat):Int)
    rw[hs];split
    ·rw[show wI .i64 (1:Int)=1 from rfl,dG (by omega)]
    ·rw[show wI .i64 (0:Int)=0 from rfl,wr (by omega) (by omega)];omega
   refine⟨(max m' (F (k+1) j),((j+1:Nat):Int),G (j+1)),⟨?_,rfl,rfl⟩,?_⟩
   ·have:F (k+1) j<=(b:Int):=by show((iR (ch.take (k+1)) j:Nat):Int)<=_;omega
    dsimp only;omega
   ·unfold lE;dsimp only;have hat:at' ((G j).set j (F (k+1) j)) (j:Int)=F (k+1) j:=by rw[uO _ _ _ _ (by omega),if_pos Z]
    rw[if_pos (by omega),cS (by omega),cS (by omega),cS (by omega),ht,e,Int.toNat_natCast,cS (by rw[List.length_set];omega),hat,dG (by omega),hGs j hj]) (λy ag2 hJ=>by
   obtain⟨m',j',q'⟩:=y;obtain⟨i1,i2,i3⟩:=hJ;dsimp only at i1 i2 i3;subst i2 i3;unfold lE oO;dsimp only;rw[if_neg (by omega),ht,dG (by omega)]) 1000 (mo,(0:Int),G 0) ⟨e2,rfl,rfl⟩ (by omega)
  dsimp only at i1 i2 i3 hi;refine⟨_,⟨?_,i1,rfl,?_⟩,hi⟩
  ·dsimp only;rw[htk,Vx,ZS (aaY λt h=>hch t (List.mem_of_mem_take h)) ht32]
  ·dsimp only;rw[i3];simp[G,Q]) (λx ag hI=>by
  obtain⟨o,mo,i,q⟩:=x;obtain⟨e1,e2,e3,e4⟩:=hI;dsimp only at e1 e2 e3 e4;subst e3;unfold gF oM;dsimp only;rw[if_neg (by omega)]) 1000 ((0:Int),(0:Int),(0:Int),Q 0) ⟨rfl,by dsimp only;omega,rfl,rfl⟩ (by omega)
 dsimp only at e1 e2 he;refine⟨mo,?_,e2⟩
 rw[he,e1,List.take_length]
end Go.Proofs.YtjkjpdonlpdcaaaGreatDoor
namespace Go.Proofs.YtjkjpdonlpdcaaaGreatDoor
open Go.Sx
def yM (U:Nat) (a:dJ):Option (Bool):=
 Option.bind (eC U ((a.1,a.2))) λb=>(some (b))
theorem Xo:aR Tryz.prog 209:=Tryz.call209
theorem HC (U:Nat) {d:dJ} (a:Value)  (b:Value)  (e:mV) (r:Bool) (h:yM U d=some r):
  aW Tryz.prog 209 #[Value.agg #[a,b]] [Sl bJ a d.1,S2 bG b e d.2] (λx:Unit=>vB (r)) (λx l=>l) (λ_ l=>l):=by
 refine aW.of Tryz.func209 Z Tryz.ntmps209 Z λc=>?_;refine aP<|aH (aL.box (cs:=[a,b]) Z Z) Z λi=>aC Z<|aN<|aP<|dC 0 Z<|fE h λf g h=>aH (aL.callQ Iy (tP U a b e f g) Z (mK [0,1] Z)) Z λj=>aC Z<|aN<|aV ?_;cases h;exact wD Z
def gE  (a:Bool):Option (Bool):=
 some (a)
def gY (U:Nat) (a:dJ) (c:bE):Option (Bool):=
 Option.bind (yM U ((a.1,a.2))) λd=>(if d=true then(Option.bind (fQ U ((a.1,a.2)) c ([(List.length a.1:Int)])) λb=>(gE  (b)))else(gE  (false)))
theorem Xd:aR Tryz.prog 147:=Tryz.call147
theorem Al (U:Nat) {b:dJ} {o:bE} (g:Value)  (i:Value)  (m:mV)  (j:Value)  (p:pA) (r:Bool) (h:gY U b o=some r):
  aW Tryz.prog 147 #[Value.agg #[g,i],j] [Sl bJ g b.1,S2 bG i m b.2,S2 bJ j p o] (λx:Unit=>vB (r)) (λx l=>l) (λ_ l=>l):=by
 refine aW.of Tryz.func147 Z Tryz.ntmps147 Z λc=>?_;refine aP<|aH (aL.box (cs:=[g,i]) Z Z) Z λv=>aC Z<|aN<|aM<|fF (λd=>gE  d=some r) (λd n=>[(4,vB (d))]) (λd n=>[]) ?_ ?_
 ·refine aQ<|dC 0 Z<|fE h λq t h=>aH (aL.callQ Xo (HC U g i m q t) Z (mK [0,1] Z)) Z λw=>aA Z ?_;refine Ap (by exact rfl) (by exact rfl) (λa=>?_) (λa=>?_)
  ·have h:=Pu a h;refine aU Z (jL 0 Z Z Z Z) Z<|eP Z<|aU Z (dM Z Z Z Z Z) Z<|aU Z (eS 0 Z Z Z Z Z) Z<|aU Z (kR Z (aF.fact 0 Z) Z) Z<|rE Z (cP (e:=cI) ([(List.length b.1:Int)]) [(0,vI (List.length b.1:Int))] Z Z Z Z (qL (vI (List.length b.1:Int)) Z) Z Z Z) Z λs=>fE h λf k h=>rE Z (aL.callQ Uk (yT U g i m j p s f k) Z (aE.cons (aF.fact 0 Z) (aE.cons (aF.fact 1 Z) (aE.cons (aF.fact 2 Z) (aE.cons (a_ (aF.res 0 Z) dL) .nil))))) Z λu=>eR Z<|aC Z<|aN ?_;exact b_ (f) () h SF .nil (aE.refl _ _)
  have h:=JJ a h;refine aI Z<|aI Z<|aI Z<|aI Z<|aI Z<|aI Z<|aI Z<|eY Z<|aC Z<|aN ?_;exact b_ (false) () h SF .nil (aE.refl _ _)
 intro d n h;unfold gE at h;refine aV ?_;cases h;exact lL Z
def mG  (a:Int):Option (Int):=
 some (a)
def mI (b:dQ) (a:dY->Option (Int)) (c:Int):Option (Int):=
 a ((wI .i64 (b.1+(1:Int))),c)
def jN (b:dQ) (a:dY->Option (Int)) (c:Int):Option (Int):=
 a ((wI .i64 (b.1+(1:Int))),c)
def gT (d:dJ) (e:bE) (a:dQ) (f:dY->Option (Int)) (b:dQ) (c:dY->Option (Int)):Option (Int):=
 if b.1<(List.length (at' d.2 a.1):Int)then(ck (0<=b.1∧b.1<(List.length (at' d.2 a.1):Int)) (ck (0<=a.1∧a.1<(List.length e:Int)) (ck (0<=(0:Int)∧(0:Int)<(List.length (at' e a.1):Int)) (ck (0<=((at' (at' d.2 a.1) b.1).1)∧((at' (at' d.2 a.1) b.1).1)<(List.length e:Int)) (ck (0<=(0:Int)∧(0:Int)<(List.length (at' e ((at' (at' d.2 a.1) b.1).1)):Int)) (if(at' (at' e a.1) (0:Int))=(at' (at' e ((at' (at' d.2 a.1) b.1).1)) (0:Int))then(ck (0<=a.1) (jN b c (Ec .u32 b.2 (wC .u32 (1:Int) a.1))))else(jN b c (b.2))))))))else(mI a f (b.2))
def e_ (U:Nat) (c:dJ) (d:bE) (a:dQ) (b:dY->Option (Int)):Option (Int):=
 if a.1<(List.length c.2:Int)then(ck (0<=a.1∧a.1<(List.length c.2:Int)) (bP (gT c d a b) U ((0:Int),a.2)))else(mG  (a.2))
def mH (U:Nat) (b:dJ) (c:bE) (a:Unit):Option (Int):=
 bP (e_ U b c) U ((0:Int),(0:Int))
def iH (U:Nat) (a:dJ) (b:bE):Option (Int):=
 mH U a b (())
theorem Xe:aR Tryz.prog 148:=Tryz.call148
theorem Cv (U:Nat) {d:dJ} {s:bE} (o:Value)  (g:Value)  (O:mV)  (t:Value)  (S:pA) (r:Int) (h:iH U d s=some r):
  aW Tryz.prog 148 #[Value.agg #[o,g],t] [Sl bJ o d.1,S2 bG g O d.2,S2 bJ t S s] (λx:Unit=>vU (r)) (λx l=>l) (λ_ l=>l):=by
 refine aW.of Tryz.func148 Z Tryz.ntmps148 Z λc=>?_;unfold iH at h;refine jK Io<|aP<|aH (aL.box (cs:=[o,g]) Z Z) Z λW=>bZ (Know.one (aF.sl (aF.fact 2 Z))) λP=>?_;refine aH (aL.box (cs:=[t]) Z (by rw[kA P])) Z λG=>?_;refine aC Z<|aN<|aP<|aH (aL.alloc (cs:=[vU (0:Int)]) Z Z) Z λy=>iV 0 Z Z Z Z Z Z<|aN<|aM<|K_ (A:=Int) (B:=f_) (λw C=>⟨31,Hr C⟩) (λw=>mG  w=some r) (λw C=>[(5,vP y)]) (λw C=>[bX y [vU (w)] 31,Hy C]) (λw C=>[Sl bJ o d.1,S2 bG g O d.2,S2 bJ t S s]) ?_ ?_
 ·refine aP<|dC 2 Z<|Cz (A:=Unit) (B:=Nat) (vs:=[Value.agg #[o,g]]) (λq=>mH U d s q=some r) (λq e=>Value.func (.func 187) #[] #[vP e]) (λq e=>[bX e [o,g] 27,bX y [vU (0:Int)] 31,bX G [t] 30,Hy ([]:f_)]) (λq e=>[Sl bJ o d.1,S2 bG g O d.2,S2 bJ t S s]) (xR.fn (show aR Tryz.prog 118 from Tryz.call118) Z) Tryz.func118 Z Tryz.ntmps118 Z Z ?_ ?_
  ·refine aP<|aH (aL.box (cs:=[o,g]) Z Z) Z λJ=>aC Z<|aN<|aP<|aD (zP (cs:=[.tmp 1]) (vs:=[vP J]) Z) Z<|aC Z<|aN<|aV ?_;exact zJ () (J) h (.inl Z) (HM.r1 Z (RV.tmp Z)) Z (bA.ix [0,1,2,4] Z Z) (aE.refl _ _)
  intro q e h;unfold mH at h;refine aN<|aT<|Bv (i:=3) (cs:=[vP e]) ([]:f_) Z (show aR Tryz.prog 187 from Tryz.call187) Z Tryz.func187 Z Tryz.ntmps187 Z λv p u K=>aP<|bV Z<|dO 1 Z<|aD (kE Z (aF.fact 1 Z) Z) Z<|aA Z<|aN<|aT<|fJ (e_ U d s) (λa E=>[(0,rD v),(8,g),(9,vI (List.length d.2:Int)),(10,vI (a.1))]) (λa E=>[Lp v u LoopState.ready none,bX e [o,g] 27,bX y [vU (a.2)] 31,bX G [t] 30,Hy (List.cons p ([]:f_))]) ((0:Int),(0:Int)) () h SF (bA.refl _) ?_;intro D a E h;refine aP<|cW Z<|aN<|aM ?_;refine dK h Z (λh=>?_) λh=>?_
  ·refine cT<|aM<|fF (λj=>mI a (bP (e_ U d s) D) j=some r) (λj F=>[(0,rD v),(8,g),(9,vI (List.length d.2:Int)),(10,vI (a.1))]) (λj F=>[Lp v u LoopState.ready none,bX e [o,g] 27,bX y [vU (j)] 31,bX G [t] 30,Hy (List.cons p ([]:f_))]) ?_ ?_
   ·refine aT<|aP<|aA Z<|eH h λf h=>aD (cV Z Z (aF.fact 1 Z) Z Z f) Z<|aD (cX Z (aF.fact 1 Z) Z Z f) Z<|aC Z<|aC Z<|aN<|aP<|aA Z<|aD (kR Z (aF.el (aF.fact 1 Z) f.1 f.2) Z) Z<|aA Z<|aN<|aT<|fJ (gT d s a (bP (e_ U d s) D)) (λb H=>[(0,rD v),(3,vI (a.1)),(8,g),(9,vI (List.length d.2:Int)),(10,vI (a.1)),(15,(at' O a.1).1),(16,vI (List.length (at' d.2 a.1):Int)),(17,vI (b.1))]) (λb H=>[Lp v u LoopState.ready none,bX e [o,g] 27,bX y [vU (b.2)] 31,bX G [t] 30,Hy (List.cons p ([]:f_))]) ((0:Int),a.2) () h SF (bA.refl _) ?_;intro R b H h;refine aP<|cW Z<|aN<|aM ?_;refine dK h Z (λh=>?_) λh=>?_
    ·refine cT<|aM<|fF (λk=>jN b (bP (gT d s a (bP (e_ U d s) D)) R) k=some r) (λk I=>[(0,rD v),(3,vI (a.1)),(8,g),(9,vI (List.length d.2:Int)),(10,vI (a.1)),(15,(at' O a.1).1),(16,vI (List.length (at' d.2 a.1):Int)),(17,vI (b.1))]) (λk I=>[Lp v u LoopState.ready none,bX e [o,g] 27,bX y [vU (k)] 31,bX G [t] 30,Hy (List.cons p ([]:f_))]) ?_ ?_
     ·refine aT<|aP<|eH h λL h=>aD (bK Z Z (aF.el (aF.fact 1 Z) f.1 f.2) Z Z L) Z<|aD (g_ (cs:=[vI ((at' (at' d.2 a.1) b.1).1),vI ((at' (at' d.2 a.1) b.1).2)]) Z (aF.el (aF.fact 1 Z) f.1 f.2) bI Z Z Z Z L) Z<|aH (aL.alloc (cs:=Ti) Z Z) Z λT=>bO 0 (vs:=[vI ((at' (at' d.2 a.1) b.1).1),vI ((at' (at' d.2 a.1) b.1).2)]) Z Z Z Z Z Z<|aN<|aP<|aA Z<|aA Z<|dC 0 Z<|Ii (us:=[vI (a.1),Value.agg #[vI ((at' (at' d.2 a.1) b.1).1),vI ((at' (at' d.2 a.1) b.1).2)]]) (i:=1) K Z Z Z Z Z Z<|aP<|aC Z<|aN<|aQ<|aH (aL.alloc (cs:=Ti) Z Z) Z λV=>bO 0 (vs:=[vI ((at' (at' d.2 a.1) b.1).1),vI ((at' (at' d.2 a.1) b.1).2)]) Z Z Z Z Z Z<|aN<|KX (i:=2) Z<|aT<|aM ?_;refine JR.start [0,0,3,7,15,31,0,0,128,448,960,1984,4032,8191] 13 mixedOrders (by decide +kernel) ?_;refine JR.open (by exact rfl) ?_;refine gU 5 Z<|bD Z<|eH h λm h=>bL Z .nil (nW 2 Z) (cV Z Z (aF.fact 0 Z) Z Z m) aO.z<|bL Z .nil (nW 2 Z) (cX Z (aF.fact 0 Z) Z Z m) aO.z<|eH h λM h=>bL Z .nil (nW 2 Z) (bK Z Z (aF.el (aF.fact 0 Z) m.1 m.2) Z Z M) aO.z<|bL Z .nil (nW 2 Z) (cQ Z (aF.el (aF.fact 0 Z) m.1 m.2) Z Z Z fG M) aO.z<|gU 5 Z<|cH Z<|gU 0 Z<|eH h λn h=>bL Z .nil (nW 2 Z) (cV Z Z (aF.fact 0 Z) Z Z n) aO.z<|bL Z .nil (nW 2 Z) (cX Z (aF.fact 0 Z) Z Z n) aO.z<|eH h λN h=>bL Z .nil (nW 2 Z) (bK Z Z (aF.el (aF.fact 0 Z) n.1 n.2) Z Z N) aO.z<|bL Z .nil (nW 2 Z) (cQ Z (aF.el (aF.fact 0 Z) n.1 n.2) Z Z Z fG N) aO.z<|bQ 13 Z Z<|bR Z<|aN ?_;refine dK h Z (λh=>?_) λh=>?_
      ·refine JR.start [0,0,2,7,15] 3 mixedOrders (by decide +kernel) ?_;refine JR.open (by exact rfl) ?_;refine gU 4 Z<|bD Z<|eH h λQ h=>iB Z (Ff Z Z Q)<|bQ 3 Z Z<|aD (Le Z Z) Z<|iV 4 Z Z Z Z Z Z<|eN<|Ms<|CB (i:=2) Z<|aD (wG Z) Z<|aN<|Dm Z<|dR<|oP ?_;exact b_ (Ec .u32 b.2 (wC .u32 (1:Int) a.1)) () h SF (bA.ix [2,3,4,5,6] Z Z) (aE.refl _ _)
      refine dR<|Ms<|CB (i:=2) Z<|aD (wG Z) Z<|aN<|Dm Z<|dR<|oP ?_;exact b_ (b.2) () h SF (bA.ix [2,3,4,5,6] Z Z) (aE.refl _ _)
     intro k I h;unfold jN at h;refine aQ<|cJ Z<|aA Z<|aN ?_;exact AX ((wI .i64 (b.1+(1:Int))),k) () h SF Z
    refine sW<|eZ<|eZ<|yR<|oP ?_;exact iP (b.2) () h SF Z
   intro j F h;unfold mI at h;refine aQ<|cJ Z<|aA Z<|aN ?_;exact AX ((wI .i64 (a.1+(1:Int))),j) () h SF Z
  refine sW<|eZ<|eZ<|yR<|OD (i:=0) (.inr Z) Z (HM.r0 Z)<|oP ?_;exact EY (a.2) (List.cons p ([]:f_)) Z h SF (bA.ix [2,4] Z Z) (aE.refl _ _)
 intro w C h;unfold mG at h;refine aP<|dO 0 Z<|aC Z<|aN<|aV<|qA (i:=1) (Ds:=(C)) (.inl Z) Z ?_;cases h;exact wD Z
def nA  (a:Bool):Option (Bool):=
 some (a)
def lT (U:Nat) (a:dJ) (b:bE):Option (Bool):=
 Option.bind (gY U ((a.1,a.2)) b) λc=>(if c=true then(Option.bind (iH U ((a.1,a.2)) b) λd=>(nA  (decide (d=(0:Int)))))else(nA  (false)))
theorem aah:aR Tryz.prog 90:=Tryz.call90
theorem FK (U:Nat) {g:dJ} {n:bE} (d:Value)  (e:Value)  (j:mV)  (f:Value)  (k:pA) (r:Bool) (h:lT U g n=some r):
  aW Tryz.prog 90 #[Value.agg #[d,e],f] [Sl bJ d g.1,S2 bG e j g.2,S2 bJ f k n] (λx:Unit=>vB (r)) (λx l=>l) (λ_ l=>l):=by
 refine aW.of Tryz.func90 Z Tryz.ntmps90 Z λc=>?_;refine aP<|aH (aL.box (cs:=[d,e]) Z Z) Z λt=>aC Z<|aN<|aM<|fF (λb=>nA  b=some r) (λb m=>[(4,vB (b))]) (λb m=>[]) ?_ ?_
 ·refine aQ<|dC 0 Z<|aA Z<|fE h λp q h=>aH (aL.callQ Xd (Al U d e j f k p q) Z (mK [0,1,2] Z)) Z λu=>aA Z ?_;refine Ap (by exact rfl) (by exact rfl) (λa=>?_) (λa=>?_)
  ·have h:=Pu a h;refine aU Z (jL 0 Z Z Z Z) Z<|eP Z<|fE h λo i h=>rE Z (aL.callQ Xe (Cv U d e j f k o i) Z (mK [0,1,2] Z)) Z λs=>aU Z (Kc Z Z) Z<|eR Z<|aC Z<|aN ?_;exact b_ (decide (o=(0:Int))) () h SF .nil (aE.refl _ _)
  have h:=JJ a h;refine aI Z<|aI Z<|aI Z<|aI Z<|eY Z<|aC Z<|aN ?_;exact b_ (false) () h SF .nil (aE.refl _ _)
 intro b m h;unfold nA at h;refine aV ?_;cases h;exact lL Z
end Go.Proofs.YtjkjpdonlpdcaaaGreatDoor
namespace Go.Proofs.YtjkjpdonlpdcaaaGreatDoor
open Go Go.Sx
def cfM (g:GR) (c:bE):Nat:=kP (λv=>AI (wK g c v) (row g v).length) g.2.length
theorem XN {g:GR} {c:bE} (v:Nat):(cfM g c).testBit v=true↔v<g.2.length∧BG g c v:=by
 unfold cfM;rw[xB,Bool.and_eq_true,decide_eq_true_eq,MW];unfold BG wK;simp only[decide_eq_true_eq];constructor
 ·rintro⟨a,i,b,d⟩;exact⟨a,i,b,d.symm⟩
 ·rintro⟨a,i,b,d⟩;exact⟨a,i,b,d.symm⟩
theorem Ut {g:GR} {c:bE} (hV:VG g) (hC:Cf g c [(g.2.length:Int)]):iH 1000 g c=some ((cfM g c:Nat):Int):=by
 have h24:=hV.n24;have hlen:=hV.len;have hcl:=hC.len;have hrow:∀u:Nat,u<g.2.length->(at' c (u:Int)).length=1:=λu hu=>hC.row u hu;unfold iH mH;refine eF (F:=λv:Nat=>((v:Int),((kP (λv=>AI (wK g c v) (row g v).length) v:Nat):Int))) g.2.length (λv ag hv=> ?_) (λag=> ?_) 1000 (by omega)
 ·unfold e_;dsimp only;rw[if_pos (by omega),cS (by omega)];have hdeg:(at' g.2 (v:Int)).length<g.2.length:=(hV.node v hv).deg;have hm:=BS (λv=>AI (wK g c v) (row g v).length) (k:=v) (by omega);have h1:=hrow v hv;refine Eq.trans (eF (step:=gT g c ((v:Int),((kP (λv=>AI (wK g c v) (row g v).length) v:Nat):Int)) ag) (K:=ag (((v+1:Nat):Int),((OS (AI (wK g c v) (row g v).length) (kP (λv=>AI (wK g c v) (row g v).length) v) v:Nat):Int))) (F:=λi:Nat=>((i:Int),((OS (AI (wK g c v) i) (kP (λv=>AI (wK g c v) (row g v).length) v) v:Nat):Int))) (row g v).length (λi ag2 hi=> ?_) (λag2=> ?_) 1000 (by show(at' g.2 (v:Int)).length<1000;omega)) Z
  ·obtain⟨u,hu,hue⟩:=hV.to hv hi;have hue':(at' (at' g.2 (v:Int)) (i:Int)).1=(u:Int):=hue;have hi':i<(at' g.2 (v:Int)).length:=hi;have h2:=hrow u hu;unfold gT jN;dsimp only;rw[if_pos (by omega),cS (by omega),cS (by omega),cS (by omega),hue',cS (by omega),cS (by omega),dG (by omega)];have hcls:wK g c v i=decide (at' (at' c (v:Int)) 0=at' (at' c (u:Int)) 0):=by unfold wK;rw[show jA (row g v) i=at' (at' g.2 (v:Int)) (i:Int)from rfl,hue'];rfl
   have ha:=WL (q:=AI (wK g c v) i) hm (show v<32 by omega);by_cases hq:at' (at' c (v:Int)) 0=at' (at' c (u:Int)) 0
   ·rw[if_pos hq,cS (by omega),Gl ha (by omega)];have:AI (wK g c v) (i+1)=true:=by simp[AI,hcls,hq]
    have e:OS (AI (wK g c v) i) (kP (λv=>AI (wK g c v) (row g v).length) v) v ||| 2^v=OS true (kP (λv=>AI (wK g c v) (row g v).length) v) v:=by
     unfold OS;split
     ·exact Yz _ _
     ·rfl
    rw[this,e]
   ·rw[if_neg hq];have:AI (wK g c v) (i+1)=AI (wK g c v) i:=by simp[AI,hcls,hq]
    simp only[this]
  ·unfold gT mI;dsimp only;rw[if_neg (by show¬(((row g v).length:Nat):Int)<((row g v).length:Int);omega),dG (by omega)]
 ·unfold e_ mG;dsimp only;rw[if_neg (by omega)];rfl
theorem Sw {g:GR} {c:bE} (a:VG g) (b:Cf g c [(g.2.length:Int)]):gY 1000 g c=some true:=by
 unfold gY yM gE;rw[show eC 1000 (g.1,g.2)=some true from(DN g).1 a,bF Z,bF Z,if_pos Z,a.len,bF (show fQ 1000 (g.1,g.2) c [(g.2.length:Int)]=some true from(Bb a c _ (by simp)).1 b)]
theorem Kw {g:GR} {c:bE} (hV:VG g) (hr:FY g c oV) (hm:∀v,v<g.2.length->¬BG g c v):lT 1000 g c=some true:=by
 have hC:=(adg hV).1 hr;have h0:cfM g c=0:=QY λv=>by
  cases h:(cfM g c).testBit v with
  |false=>simp
  |true=>obtain⟨a,b⟩:=(XN v).1 h;exact absurd b (hm v a)
 unfold lT nA;rw[bF (show gY 1000 (g.1,g.2) c=_ from Sw hV hC),if_pos Z,bF (show iH 1000 (g.1,g.2) c=_ from Ut hV hC),h0];rfl
abbrev pC (z:List oG):zL:=(ByteArray.mk #[99,111,108,111,117,114,105,110,103],oV,z)
theorem adw:∀x,x<oV.length->zM (at' oV (x:Int)) ∧ -100000<=(at' oV (x:Int)).2.2.1∧(at' oV (x:Int)).2.2.1<=(at' oV (x:Int)).2.2.2.1:=by
 intro x a;refine⟨Rt x a,?_⟩
 obtain rfl:x=0:=by simp[oV]at a;exact a
 exact⟨by decide,by decide⟩
theorem UE {z:List oG} {g:GR} {c:bE} (h:yY (bM (pC z) g) RC (jI g) c=0) (v:Nat) (a:v<g.2.length):¬BG g c v:=λq=>by
 have:(yY (bM (pC z) g) RC (jI g) c).testBit v=true:=(yZ _ RC _ c v).2 ⟨a,DG.2 q,by unfold jI;rw[Li,decide_eq_true a]⟩;rw[h]at this;simp at this
end Go.Proofs.YtjkjpdonlpdcaaaGreatDoor
namespace Go.Proofs.YtjkjpdonlpdcaaaGreatDoor
open Go.Sx
def yO  (a:Unit):Option (Bool):=
 some (true)
def uG (c:aS) (d:aS) (a:Int) (b:(Int)->Option (Bool)):Option (Bool):=
 if a<(List.length c:Int)then(ck (0<=a∧a<(List.length c:Int)) (ck (0<=a∧a<(List.length d:Int)) (if(at' c a)≠(at' d a)then(some (false))else(b (wI .i64 (a+(1:Int)))))))else(yO  (()))
def vW (U:Nat) (a:aS) (b:aS):Option (Bool):=
 if(List.length a:Int)≠(List.length b:Int)then(some (false))else(bP (uG a b) U (0:Int))
theorem aab:aR Tryz.prog 42:=Tryz.call42
theorem Jr (U:Nat) {f:aS} {g:aS} (i:Value)  (j:Value) (r:Bool) (h:vW U f g=some r):
  aW Tryz.prog 42 #[i,j] [Sl bJ i f,Sl bJ j g] (λx:Unit=>vB (r)) (λx l=>l) (λ_ l=>l):=by
 refine aW.of Tryz.func42 Z Tryz.ntmps42 Z λc=>?_;refine aP<|aC Z<|aN<|aM<|aP<|aA Z<|jS (aF.fact 0 Z) Z<|aA Z<|jS (aF.fact 1 Z) Z<|p_ Z<|aN ?_;refine dK h Z (λh=>?_) λh=>?_
 ·refine aP<|aC Z<|aN<|aV<|aK ?_;cases h;exact lL Z
 refine cT<|aM<|fF (λd=>yO  d=some r) (λd k=>[]) (λd k=>[]) ?_ ?_
 ·refine aP<|aA Z<|jS (aF.fact 0 Z) Z<|aA Z<|aN<|aT<|fJ (uG f g) (λe m=>[(0,i),(1,j),(12,vI (List.length f:Int)),(13,vI (e))]) (λe m=>[]) (0:Int) () h SF (bA.refl _) ?_;intro n e m h;refine aP<|cW Z<|aN<|aM ?_;refine dK h Z (λh=>?_) λh=>?_
  ·refine cT<|aM<|aT<|aP<|aA Z<|aC Z<|aN<|aM ?_;refine JR.start [0,0,3,7,0,0,48,112,255] 8 mixedOrders (by decide +kernel) ?_;refine JR.open (by exact rfl) ?_;refine bD Z<|bD Z<|eH h λa h=>bL Z .nil (nW 0 Z) (bK Z Z (aF.fact 0 Z) Z Z a) aO.z<|bL Z .nil (nW 0 Z) (cQ Z (aF.fact 0 Z) Z Z Z fG a) aO.z<|bD Z<|bD Z<|eH h λb h=>bL Z .nil (nW 1 Z) (bK Z Z (aF.fact 0 Z) Z Z b) aO.z<|bL Z .nil (nW 1 Z) (cQ Z (aF.fact 0 Z) Z Z Z fG b) aO.z<|bQ 8 Z Z<|p_ Z<|aN ?_;refine dK h Z (λh=>?_) λh=>?_
   ·refine aP<|aC Z<|aN<|aV<|bS<|aK<|aK<|bS<|aK ?_;cases h;exact lL Z
   refine dR<|oP<|aQ<|cJ Z<|aA Z<|aN ?_;exact AX (wI .i64 (e+(1:Int))) () h SF Z
  refine gX ?_;exact iP () (()) h SF Z
 intro d k h;unfold yO at h;refine aP<|aC Z<|aN<|aV ?_;cases h;exact lL Z
def sO  (a:Int):Option (Int):=
 some (a)
def pY (c:dQ) (b:dY->Option (Int)) (a:Int):Option (Int):=
 b (a,(wI .i64 (c.2+(1:Int))))
def mR (a:dQ) (b:dY->Option (Int)) (c:Bool):Option (Int):=
 if c=true then(ck (0<=a.2) (pY a b (Ec .u32 a.1 (wC .u32 (1:Int) a.2))))else(pY a b (a.1))
def mS (U:Nat) (c:bE) (d:bE) (a:dQ) (b:dY->Option (Int)):Option (Int):=
 if a.2<(24:Int)then(if((decide (a.2<(List.length c:Int))) != (decide (a.2<(List.length d:Int))))=true then(mR a b (true))else(if a.2<(List.length c:Int)then(ck (0<=a.2∧a.2<(List.length c:Int)) (ck (0<=a.2∧a.2<(List.length d:Int)) (Option.bind (vW U (at' c a.2) (at' d a.2)) λe=>(mR a b ((!e))))))else(mR a b (false))))else(sO  (a.1))
def qO (U:Nat) (a:bE) (b:bE):Option (Int):=
 bP (mS U a b) U ((0:Int),(0:Int))
theorem ZX:aR Tryz.prog 23:=Tryz.call23
theorem HF (U:Nat) {n:bE} {o:bE} (q:Value)  (A:pA)  (s:Value)  (B:pA) (r:Int) (h:qO U n o=some r):
  aW Tryz.prog 23 #[q,s] [S2 bJ q A n,S2 bJ s B o] (λx:Unit=>vU (r)) (λx l=>l) (λ_ l=>l):=by
 refine aW.of Tryz.func23 Z Tryz.ntmps23 Z λc=>?_;unfold qO at h;refine aP<|aC Z<|aN<|aP<|aC Z<|aN<|aM<|fF (λj=>sO  j=some r) (λj v=>[(5,vU (j))]) (λj v=>[]) ?_ ?_
 ·refine aP<|aA Z<|aN<|aT<|fJ (mS U n o) (λa w=>[(0,q),(1,s),(5,vU (a.1)),(9,vI (a.2))]) (λa w=>[]) ((0:Int),(0:Int)) () h SF (bA.refl _) ?_;intro y a w h;refine aP<|cW Z<|aN<|aM ?_;refine dK h Z (λh=>?_) λh=>?_
  ·refine cT<|aM<|fF (λb=>pY a (bP (mS U n o) y) b=some r) (λb k=>[(0,q),(1,s),(5,vU (b)),(9,vI (a.2))]) (λb k=>[]) ?_ ?_
   ·refine aT<|aP<|aA Z<|aC Z<|aN<|aP<|aA Z<|aA Z<|aD (kE Z (aF.fact 0 Z) Z) Z<|cW Z<|aA Z<|aA Z<|aD (kE Z (aF.fact 1 Z) Z) Z<|cW Z<|aC Z<|aC Z<|aN<|aM<|fF (λd=>mR a (bP (mS U n o) y) d=some r) (λd m=>[(0,q),(1,s),(5,vU (a.1)),(6,vI (a.2)),(9,vI (a.2)),(37,vB (d))]) (λd m=>[]) ?_ ?_
    ·refine JR.start [0,0,3,7,15,31,63,63,255,511,63,63,3135,7231,16383,32767,65535,131071] 14 mixedOrders (by decide +kernel) ?_;refine JR.open (by exact rfl) ?_;refine bD Z<|bD Z<|iB Z (TT Z Z Z)<|bD Z ?_;refine JR.guard (by exact rfl) (by exact rfl) (by exact rfl) (λe=>?_) (λe=>?_)
     ·have h:=Pu e h;refine mO Z Z Z Z<|mO Z Z Z Z<|Hf (h:= ?_);refine Hf (h:= ?_);refine Hf (h:= ?_);refine Hf (h:= ?_);refine Hf (h:= ?_);refine Hf (h:= ?_);refine Hf (h:= ?_);refine Hf (h:= ?_);refine bQ 14 Z Z<|ack (h:= ?_);refine ack (h:= ?_);refine aI Z<|eR Z<|aN ?_;exact iP (true) () h SF Z
     have h:=JJ e h;refine yE Z .nil .nil (gR Z) aO.z<|yE Z .nil .nil (gR Z) aO.z ?_;refine RY (by exact rfl) (by exact rfl) (by exact rfl) (λf=>?_) (λf=>?_)
     ·have h:=Pu f h;refine yE Z .nil .nil (gR Z) aO.z<|yE Z .nil .nil (gR Z) aO.z<|eH h λg h=>yE Z .nil (nW 0 Z) (cV Z Z (aF.fact 0 Z) Z Z g) aO.z<|yE Z .nil (nW 0 Z) (cX Z (aF.fact 0 Z) Z Z g) aO.z<|yE Z .nil .nil (gR Z) aO.z<|yE Z .nil .nil (gR Z) aO.z<|eH h λi h=>yE Z .nil (nW 1 Z) (cV Z Z (aF.fact 0 Z) Z Z i) aO.z<|yE Z .nil (nW 1 Z) (cX Z (aF.fact 0 Z) Z Z i) aO.z<|bQ 14 Z Z<|fE h λp u h=>rE Z (aL.callQ aab (Jr U ((at' A a.2).1) ((at' B a.2).1) p u) Z (aE.cons (aF.el (aF.fact 0 Z) g.1 g.2) (aE.cons (aF.el (aF.fact 1 Z) i.1 i.2) .nil))) Z λC=>aU Z (wG Z) Z<|aU Z (Qh Z Z) Z<|eY Z<|aN ?_;exact iP ((!p)) () h SF Z
     have h:=ifN f h;refine mO Z Z Z Z<|mO Z Z Z Z<|mO Z Z Z Z<|mO Z Z Z Z<|mO Z Z Z Z<|mO Z Z Z Z<|mO Z Z Z Z<|mO Z Z Z Z<|bQ 14 Z Z<|aI Z<|aI Z<|aU Z (Qg Z Z) Z<|eY Z<|aN ?_;exact iP (false) () h SF Z
    intro d m h;refine BF h Z (λ_ h=>?_) λ_ h=>?_
    ·refine aQ<|aA Z<|aA Z<|eH h λt h=>aD (Ff Z Z t) Z<|aD (Le Z Z) Z<|aC Z<|eN<|oP ?_;exact iP (Ec .u32 a.1 (wC .u32 (1:Int) a.2)) () h SF Z
    refine dR<|oP ?_;exact iP (a.1) () h SF Z
   intro b k h;unfold pY at h;refine aQ<|cJ Z<|aA Z<|aN ?_;exact AX (b,(wI .i64 (a.2+(1:Int)))) () h SF Z
  refine gX ?_;exact iP (a.1) () h SF Z
 intro j v h;unfold sO at h;refine aP<|aA Z<|aC Z<|aN<|aV ?_;cases h;exact lL Z
end Go.Proofs.YtjkjpdonlpdcaaaGreatDoor
namespace Go.Proofs.YtjkjpdonlpdcaaaGreatDoor
open Go Go.Sx
theorem Ub {p q:aS} (c:p.length=q.length) (h:∀k:Nat,k<p.length->at' p (k:Int)=at' q (k:Int)):p=q:=by
 refine List.ext_getElem c λi a b=> ?_;have:=h i a;rwa[jM,jM,List.getD_eq_getElem?_getD,List.getD_eq_getElem?_getD,List.getElem?_eq_getElem a,List.getElem?_eq_getElem b]at this
theorem Te (p q:aS) (h:q.length<900):vW 1000 p q=some (decide (p=q)):=by
 unfold vW;by_cases f:p.length=q.length
 ·rw[if_neg (by omega)];have a:=Px (step:=uG p q) (K:=some true) (bad:=some false) p.length (λk=>at' p (k:Int)=at' q (k:Int)) (λk=>(k:Int)) (λk c d b=> ?_) (λk c d b=> ?_) (λc=> ?_) 1000 (by omega)
  ·by_cases e:p=q
   ·rw[decide_eq_true e];exact a.1 λk d=>by rw[e]
   ·rw[decide_eq_false e];exact a.2 λg=>e (Ub f λv i=>g v i)
  all_goals unfold uG
  ·rw[if_pos (by omega),cS (by omega),cS (by omega),if_neg (by simpa using b),dG (by omega)]
  ·rw[if_pos (by omega),cS (by omega),cS (by omega),if_pos b]
  ·rw[if_neg (by omega)];rfl
 ·rw[if_pos (by omega),decide_eq_false λe=>f (by rw[e])]
def Fq (c d:bE) (n:Nat) (v:Nat):Bool:=decide (v<n) && !decide (at' c (v:Int)=at' d (v:Int))
theorem SC {c d:bE} {n:Nat} (m:n<=24) (h:c.length=n) (i:d.length=n) (l:∀v:Nat,v<n->(at' d (v:Int)).length<900):
  qO 1000 c d=some ((kP (Fq c d n) 24:Nat):Int):=by
 unfold qO;refine eF (F:=λv:Nat=>(((kP (Fq c d n) v:Nat):Int),(v:Int))) 24 (λv e o=> ?_) (λe=> ?_) 1000 (by omega)
 ·have j:=BS (Fq c d n) (k:=v) (by omega);have f:∀b:Bool,Fq c d n v=b->mR (((kP (Fq c d n) v:Nat):Int),(v:Int)) e b=e (((kP (Fq c d n) (v+1):Nat):Int),((v+1:Nat):Int)):=λb g=>by
   unfold mR pY;dsimp only;rw[dG (by omega)];cases b with
   |true=>rw[if_pos Z,cS (by omega),Gl j (by omega)];simp[kP,g]
   |false=>rw[if_neg (by decide)];simp[kP,g]
  unfold mS;dsimp only;rw[if_pos (by omega),h,i,if_neg (by simp)];by_cases a:v<n
  ·rw[if_pos (by omega),cS (by omega),cS (by omega),bF (Te _ _ (l v a))];exact f _ (by unfold Fq;rw[decide_eq_true a,Bool.true_and])
  ·rw[if_neg (by omega)];exact f _ (by unfold Fq;rw[decide_eq_false a,Bool.false_and])
 ·unfold mS sO;dsimp only;rw[if_neg (by omega)]
theorem XS {c d:bE} {n:Nat} (a:n<=24) (v:Nat):(kP (Fq c d n) 24).testBit v=true↔v<n∧at' c (v:Int)≠at' d (v:Int):=by
 rw[xB];unfold Fq;simp only[Bool.and_eq_true,decide_eq_true_eq,Bool.not_eq_true',decide_eq_false_iff_not];constructor
 ·rintro⟨_,h⟩;exact h
 ·intro h;exact⟨by omega,h⟩
theorem XR {c d:bE} {n:Nat} (i:n<=24) (b:∀v:Nat,v<n->(at' c (v:Int)).length=1) (f:∀v:Nat,v<n->(at' d (v:Int)).length=1) (v:Nat) (a:v<n):(kP (Fq c d n) 24).testBit v=true↔pN d v≠pN c v:=by
 rw[XS i];constructor
 ·rintro⟨_,h⟩ e;exact h (Ub (by rw[b v a,f v a]) λk g=>by
   obtain rfl:k=0:=by rw[b v a]at g;omega
   exact e.symm)
 ·intro h;exact⟨a,λe=>h (by unfold pN;rw[e])⟩
end Go.Proofs.YtjkjpdonlpdcaaaGreatDoor
namespace Go.Proofs.YtjkjpdonlpdcaaaGreatDoor
open Go.Sx
def vT (U:Nat) (a:dJ):Option (Bool):=
 Option.bind (eC U ((a.1,a.2))) λb=>(some (b))
theorem Xm:aR Tryz.prog 207:=Tryz.call207
theorem FQ (U:Nat) {d:dJ} (a:Value)  (b:Value)  (e:mV) (r:Bool) (h:vT U d=some r):
  aW Tryz.prog 207 #[Value.agg #[a,b]] [Sl bJ a d.1,S2 bG b e d.2] (λx:Unit=>vB (r)) (λx l=>l) (λ_ l=>l):=by
 refine aW.of Tryz.func207 Z Tryz.ntmps207 Z λc=>?_;refine aP<|aH (aL.box (cs:=[a,b]) Z Z) Z λi=>aC Z<|aN<|aP<|dC 0 Z<|fE h λf g h=>aH (aL.callQ Iy (tP U a b e f g) Z (mK [0,1] Z)) Z λj=>aC Z<|aN<|aV ?_;cases h;exact wD Z
def fI  (a:Bool):Option (Bool):=
 some (a)
def fX (U:Nat) (a:dJ) (b:bE) (c:aS):Option (Bool):=
 Option.bind (vT U ((a.1,a.2))) λd=>(if d=true then(Option.bind (fQ U ((a.1,a.2)) b c) λe=>(fI  (e)))else(fI  (false)))
theorem Xa:aR Tryz.prog 144:=Tryz.call144
theorem zF (U:Nat) {f:dJ} {n:bE} {o:aS} (d:Value)  (e:Value)  (k:mV)  (g:Value)  (q:pA)  (i:Value) (r:Bool) (h:fX U f n o=some r):
  aW Tryz.prog 144 #[Value.agg #[d,e],g,i] [Sl bJ d f.1,S2 bG e k f.2,S2 bJ g q n,Sl bJ i o] (λx:Unit=>vB (r)) (λx l=>l) (λ_ l=>l):=by
 refine aW.of Tryz.func144 Z Tryz.ntmps144 Z λc=>?_;refine aP<|aH (aL.box (cs:=[d,e]) Z Z) Z λv=>aC Z<|aN<|aM<|fF (λb=>fI  b=some r) (λb m=>[(6,vB (b))]) (λb m=>[]) ?_ ?_
 ·refine aQ<|dC 0 Z<|fE h λs t h=>aH (aL.callQ Xm (FQ U d e k s t) Z (mK [0,1] Z)) Z λw=>aA Z ?_;refine Ap (by exact rfl) (by exact rfl) (λa=>?_) (λa=>?_)
  ·have h:=Pu a h;refine aU Z (jL 0 Z Z Z Z) Z<|eP Z<|eP Z<|fE h λp j h=>rE Z (aL.callQ Uk (yT U d e k g q i p j) Z (mK [0,1,2,3] Z)) Z λu=>eR Z<|aC Z<|aN ?_;exact b_ (p) () h SF .nil (aE.refl _ _)
  have h:=JJ a h;refine aI Z<|aI Z<|aI Z<|aI Z<|eY Z<|aC Z<|aN ?_;exact b_ (false) () h SF .nil (aE.refl _ _)
 intro b m h;unfold fI at h;refine aV ?_;cases h;exact lL Z
def uQ (U:Nat) (a:dJ) (b:Int):Option (Int):=
 Option.bind (eC U ((a.1,a.2))) λc=>(if(!c)=true then(some (0:Int))else(Option.bind (pV U ((a.1,a.2)) b) λd=>(some (d))))
theorem Xn:aR Tryz.prog 208:=Tryz.call208
theorem EL (U:Nat) {d:dJ} {f:Int} (a:Value)  (b:Value)  (e:mV) (r:Int) (h:uQ U d f=some r):
  aW Tryz.prog 208 #[Value.agg #[a,b],vU (f)] [Sl bJ a d.1,S2 bG b e d.2] (λx:Unit=>vU (r)) (λx l=>l) (λ_ l=>l):=by
 refine aW.of Tryz.func208 Z Tryz.ntmps208 Z λc=>?_;refine aP<|aH (aL.box (cs:=[a,b]) Z Z) Z λm=>aC Z<|aN<|aM<|aP<|dC 0 Z<|fE h λg j h=>aH (aL.callQ Iy (tP U a b e g j) Z (mK [0,1] Z)) Z λn=>aD (wG Z) Z<|aN ?_;refine BF h Z (λ_ h=>?_) λ_ h=>?_
 ·refine aP<|aC Z<|aN<|aV<|aK ?_;cases h;exact wD Z
 refine cT<|aP<|dC 0 Z<|aA Z<|fE h λi k h=>aH (aL.callQ Xy (Jo U a b e i k) Z (mK [0,1] Z)) Z λo=>aC Z<|aN<|aV ?_;cases h;exact wD Z
def kO (U:Nat) (a:dJ) (b:Int):Option (Bool):=
 Option.bind (uQ U ((a.1,a.2)) b) λc=>(Option.bind (rX U ((a.1,a.2))) λd=>(some (decide (c=(sF .u32 d b)))))
theorem Xb:aR Tryz.prog 145:=Tryz.call145
theorem Cw (U:Nat) {d:dJ} {f:Int} (a:Value)  (b:Value)  (e:mV) (r:Bool) (h:kO U d f=some r):
  aW Tryz.prog 145 #[Value.agg #[a,b],vU (f)] [Sl bJ a d.1,S2 bG b e d.2] (λx:Unit=>vB (r)) (λx l=>l) (λ_ l=>l):=by
 refine aW.of Tryz.func145 Z Tryz.ntmps145 Z λc=>?_;refine aP<|aH (aL.box (cs:=[a,b]) Z Z) Z λo=>aC Z<|aN<|aM ?_;refine JR.start [0,0,3,0,15,0,63,127,255] 6 mixedOrders (by decide +kernel) ?_;refine JR.open (by exact rfl) ?_;refine fP 0 Z<|bD Z<|fE h λg j h=>JR.loud Z Z Z (aL.callQ Xn (EL U a b e g j) Z (mK [0,1] Z)) Z (λm=>(mP [] Z)) λm=>bL Z (bA.cons 0 Z .nil) .nil (jL 0 Z Z Z Z) (aO.h (bA.ix [0] Z Z) .nil aO.z)<|fE h λi k h=>JR.loud Z Z Z (aL.callQ Qo (Ht U a b e i k) Z (mK [0,1] Z)) Z (λn=>(mP [] Z)) λn=>iB Z (gR Z)<|bQ 6 Z Z<|aD (Fe Z Z) Z<|bR Z<|aC Z<|aN<|aV ?_;cases h;exact wD Z
def lF  (a:Bool):Option (Bool):=
 some (a)
def j_ (U:Nat) (a:dJ) (d:bE):Option (Bool):=
 Option.bind (fX U ((a.1,a.2)) d ([(1:Int)])) λe=>(if e=true then(Option.bind (nJ U d (0:Int)) λb=>(Option.bind (kO U ((a.1,a.2)) b) λc=>(lF  (c))))else(lF  (false)))
theorem aag:aR Tryz.prog 89:=Tryz.call89
theorem DX (U:Nat) {j:dJ} {t:bE} (f:Value)  (g:Value)  (p:mV)  (i:Value)  (q:pA) (r:Bool) (h:j_ U j t=some r):
  aW Tryz.prog 89 #[Value.agg #[f,g],i] [Sl bJ f j.1,S2 bG g p j.2,S2 bJ i q t] (λx:Unit=>vB (r)) (λx l=>l) (λ_ l=>l):=by
 refine aW.of Tryz.func89 Z Tryz.ntmps89 Z λc=>?_;refine aP<|aH (aL.box (cs:=[f,g]) Z Z) Z λA=>aC Z<|aN<|aM<|fF (λb=>lF  b=some r) (λb s=>[(4,vB (b))]) (λb s=>[]) ?_ ?_
 ·refine JR.start [0,0,0,7,15,31,31,95,255,511,1023] 8 mixedOrders (by decide +kernel) ?_;refine JR.open (by exact rfl) ?_;refine fP 0 Z<|bD Z<|JR.loud Z Z Z (cP (e:=cI) ([(1:Int)]) [(0,vI (1:Int))] Z Z Z Z (qL (vI (1:Int)) Z) Z Z Z) Z (λu=>(mP [([1],[])] Z)) λu=>fE h λv w h=>JR.loud Z Z Z (aL.callQ Xa (zF U f g p i q u v w) Z (aE.cons (aF.fact 0 Z) (aE.cons (aF.fact 1 Z) (aE.cons (aF.fact 2 Z) (aE.cons (a_ (aF.res 0 Z) dL) .nil))))) Z (λz=>(mP [] Z)) λz=>iB Z (gR Z) ?_;refine JR.guard (by exact rfl) (by exact rfl) (by exact rfl) (λa=>?_) (λa=>?_)
  ·have h:=Pu a h;refine yE Z (bA.cons 1 Z .nil) .nil (jL 0 Z Z Z Z) (hkI Z)<|yE Z .nil .nil (gR Z) (hkI Z)<|fE h λk m h=>TC Z Z Z Z (aL.callQ Xc (EN U i q k m) Z (mK [2] Z)) Z (λo=>(mP [([1],[])] Z)) λo=>bQ 8 Z Z<|fE h λd n h=>rE Z (aL.callQ Xb (Cw U f g p d n) Z (mK [0,1] Z)) Z λy=>eR Z<|aC Z<|aN ?_;exact b_ (d) () h SF .nil (aE.refl _ _)
  have h:=JJ a h;refine mO Z Z Z Z<|mO Z Z Z Z<|mO Z Z Z Z<|bQ 8 Z Z<|aI Z<|eY Z<|aC Z<|aN ?_;exact b_ (false) () h SF .nil (aE.refl _ _)
 intro b s h;unfold lF at h;refine aV ?_;cases h;exact lL Z
end Go.Proofs.YtjkjpdonlpdcaaaGreatDoor
namespace Go.Proofs.YtjkjpdonlpdcaaaGreatDoor
open Go Go.Sx
theorem Yu {g:GR} (h:VG g) {c:bE} {v:Nat} (j:v<g.2.length):JD g c v↔∃u,Cc g v u∧u<g.2.length∧pN c u≠0:=by
 constructor
 ·rintro⟨i,e,d⟩;obtain⟨u,f,a,b⟩:=h.port j e;rw[gV a]at d;exact⟨u,b,f,d⟩
 ·rintro⟨u,⟨i,e,a⟩,f,d⟩;exact⟨i,e,by rw[gV a];exact d⟩
theorem Kx {g:GR} (b:VG g) {c:bE} (D:FY g c mA) (C:Sa g c):j_ 1000 g c=some true:=by
 have B:=b.n24;have e:=adf.1 D;have d:=BS (JL c) (k:=g.2.length) (by omega);have a:∀u,u<g.2.length->(JL c u=true↔pN c u≠0):=λu j=>by
  have:=Zk e j;unfold JL;rw[decide_eq_true_eq];show at' (at' c (u:Int)) 0=1↔at' (at' c (u:Int)) 0≠0;omega
 have y:fX 1000 g c [1]=some true:=by
  unfold fX vT fI;rw[show eC 1000 (g.1,g.2)=some true from(DN g).1 b,bF Z,bF Z,if_pos Z,bF (show fQ 1000 (g.1,g.2) c [1]=some true from(Bb b c [1] (by simp)).1 e)]
 obtain⟨r,p,m,rfl,o,i⟩:=Si b d;have z:kO 1000 g ((kP (JL c) g.2.length:Nat):Int)=some true:=by
  unfold kO uQ;rw[show eC 1000 (g.1,g.2)=some true from(DN g).1 b,bF Z,if_neg (by decide),bF (show pV 1000 (g.1,g.2) _=_ from p),bF Z,bF (show rX 1000 (g.1,g.2)=_ from TX b),Fh];have E:=Ck (show g.2.length<32 by omega);have:m=Bc (2^g.2.length - 1) (kP (JL c) g.2.length):=QY λv=>by
   rw[Gp (by omega) d,xB,Li];by_cases f:v<g.2.length
   ·have w:=C v f;rw[Yu b f]at w;have x:m.testBit v=true↔pN c v=0:=by
     rw[i v,<-w];constructor
     ·rintro⟨_,u,n,h⟩;rw[xB,Bool.and_eq_true,decide_eq_true_eq]at h;exact⟨u,n,h.1,(a u h.1).1 h.2⟩
     ·rintro⟨u,n,j,h⟩;exact⟨f,u,n,by rw[xB,Bool.and_eq_true,decide_eq_true_eq];exact⟨j,(a u j).2 h⟩⟩
    have l:=a v f;rw[decide_eq_true f,Bool.true_and,Bool.true_and];cases t:JL c v with
    |true=>
     rw[t]at l;cases s:m.testBit v with
     |true=>exact absurd (x.1 s) (l.1 Z)
     |false=>rfl
    |false=>
     rw[t]at l;have A:pN c v=0:=Decidable.not_not.1 λq=>by have:=l.2 q;cases this
     rw[x.2 A];rfl
   ·rw[decide_eq_false f];cases s:m.testBit v with
    |true=>exact absurd ((i v).1 s).1 f
    |false=>rfl
  rw[this,decide_eq_true Z]
 unfold j_ lF;rw[bF (show fX 1000 (g.1,g.2) c [1]=some true from y),if_pos Z,bF (YQ b e),bF (show kO 1000 (g.1,g.2) _=some true from z)]
abbrev pM (z:List oG):zL:=(ByteArray.mk #[105,110,100,101,112,101,110,100,101,110,116],mA,z)
end Go.Proofs.YtjkjpdonlpdcaaaGreatDoor
namespace Go.Proofs.YtjkjpdonlpdcaaaGreatDoor
open Go.Sx
def iI (U:Nat) (c:yB) (d:dJ) (e:Int) (f:bE) (g:aS):Option ((Int×Int×Int×Int×Bool×bE)×Int):=
 Option.bind (jQ U ((c.1,c.2.1,c.2.2)) ((d.1,d.2)) e f g) λa=>(if a.2≠(0:Int)then(some ((((0:Int),(0:Int),(0:Int),(0:Int),false,([]:bE))),a.2))else(Option.bind (jZ U ((a.1.1,a.1.2.1,a.1.2.2.1,((a.1.2.2.2.1,a.1.2.2.2.2.1,a.1.2.2.2.2.2.1,a.1.2.2.2.2.2.2.1,a.1.2.2.2.2.2.2.2))))) λb=>(ck (0<=(wI .i64 ((List.length a.1.2.1:Int) - (1:Int)))∧(wI .i64 ((List.length a.1.2.1:Int) - (1:Int)))<(List.length a.1.2.1:Int)) (some (((b.1,b.2,a.1.2.2.2.2.1,a.1.2.2.2.2.2.2.1,(decide ((at' a.1.2.1 (wI .i64 ((List.length a.1.2.1:Int) - (1:Int))))=(0:Int))),a.1.2.2.1)),(0:Int))))))
theorem OW:aR Tryz.prog 22:=Tryz.call22
theorem rB (U:Nat) {e:yB} {u:dJ} {B:Int} {C:bE} {D:aS} (n:Value)  (o:Value)  (p:Value)  (q:Value)  (E:mV)  (v:Value)  (F:pA)  (y:Value) (r:(Int×Int×Int×Int×Bool×bE)×Int) (h:iI U e u B C D=some r):
  aW Tryz.prog 22 #[Value.agg #[vS (e.1),n,o],Value.agg #[p,q],vI (B),v,y] [Sl aJ n e.2.1,Sl aG o e.2.2,PF (Value.agg #[vS e.1,n,o]),Sl bJ p u.1,S2 bG q E u.2,S2 bJ v F C,Sl sE y D,Gb 0 (cellsOf Cy qP)] (λx:Hx=>Value.tuple #[Value.agg #[vU (r.1.1),vI (r.1.2.1),vI (r.1.2.2.1),vI (r.1.2.2.2.1),vB (r.1.2.2.2.2.1),x.1],vI (r.2)]) (λx l=>Ar dD.raw x.1 x.2::jH cI x.2 r.1.2.2.2.2.2::l) (λ_ l=>l):=by
 refine aW.of Tryz.func22 Z Tryz.ntmps22 Z λc=>?_;refine aP<|aH (aL.box (cs:=[vS (e.1),n,o]) Z Z) Z λI=>aH (aL.box (cs:=[p,q]) Z Z) Z λJ=>aH (aL.alloc (cs:=vD4) Z Z) Z λK=>aC Z<|aN<|aP<|dC 2 Z<|dC 1 Z<|aA Z<|aA Z<|aA Z<|fE h λa G h=>aH (aL.callQ Kf (sR U n o p q E v F y a G) Z (mK [0,1,2,3,4,5,6,7] Z)) Z λd=>aA Z<|gA Z<|gA Z<|aH (aL.alloc (cs:=ER) Z Z) Z λL=>bZ (Know.one ((a_ (aF.res 1 Z) kZ))) λs=>bZ (Know.one ((a_ (aF.res 2 Z) kZ))) λt=>bZ (Know.one (aF.sl (aX (i:=3) (j:=4) Z Z dL))) λf=>bO 0 (vs:=[d.1,d.2.1,d.2.2.1,vI (a.1.2.2.2.1),vI (a.1.2.2.2.2.1),vI (a.1.2.2.2.2.2.1),vI (a.1.2.2.2.2.2.2.1),vU (a.1.2.2.2.2.2.2.2)]) Z Z (cG s (cG t (cG f (cG Z (cG Z (cG Z (cG Z (cG Z Z)))))))) Z Z Z<|aC Z<|aN<|aM<|aP<|aA Z<|p_ Z<|aN ?_;refine dK h Z (λh=>?_) λh=>?_
 ·refine aP ?_;refine aD (Gf (r:=Value.agg #[vU (0:Int),vI (0:Int),vI (0:Int),vI (0:Int),vB (false),lX]) (by intro w;simp[Instr.build,Instr.fill,dV,cY,cM,dW,dX,cZ,eT])) Z ?_;refine aA Z<|bO 5 (vs:=vD4) Z Z Z Z Z Z<|aC Z<|aN<|aV<|aK<|jK (iD dD.raw) (jK (rR cI) ?_);cases h;exact iA ((lX),([]:gQ)) Z Z (RV.cell 7 Z Z Z Z) (RV.tmp Z) (bA.ix [1,0] Z Z) aE.nil
 refine cT<|aP<|dC 0 Z<|fE h λb A h=>aH (aL.callQ WS (DW U d.1 d.2.1 d.2.2.1 (List.zip d.2.2.2 a.1.2.2.1) b A) Z (aE.cons (a_ (aF.res 1 Z) kZ) (aE.cons (a_ (aF.res 2 Z) kZ) (aE.cons (aX (i:=3) (j:=4) Z Z dL) .nil)))) Z λH=>aA Z<|gA Z<|gA Z<|aC Z<|aC Z<|aN<|aM ?_;refine JR.start [0,0,0,4,12,0,32,96,0,256,0,1024,3072,7168,16128,32512,65280,0,131072,524287,1048575,2097151] 19 mixedOrders (by decide +kernel) ?_;refine JR.open (by exact rfl) ?_;refine bD Z<|bD Z<|cH Z<|cH Z<|gU 0 Z<|cH Z<|cH Z<|gU 0 Z<|cH Z<|gU 0 Z<|cH Z<|gU 0 Z<|bL Z (bA.cons 2 Z .nil) .nil (kR Z (a_ (aF.res 0 Z) kZ) Z) aO.z<|iB Z (q_ Z Z)<|eH h λm h=>bL Z (bA.cons 2 Z .nil) .nil (bK Z Z (a_ (aF.res 0 Z) kZ) Z Z m) aO.z<|bL Z (bA.cons 2 Z .nil) .nil (cQ Z (a_ (aF.res 0 Z) kZ) Z Z Z CE m) aO.z<|iB Z (Kc Z Z)<|cH Z<|gU 0 Z<|bQ 19 Z Z<|bZ (Know.one (aF.sl (aX (i:=3) (j:=4) Z Z dL))) λg=>?_;refine aD (Y.bld6 (r:=Value.agg #[vU (b.1),vI (b.2),vI (a.1.2.2.2.2.1),vI (a.1.2.2.2.2.2.2.1),vB (decide ((at' a.1.2.1 (wI .i64 ((List.length a.1.2.1:Int) - (1:Int))))=(0:Int))),d.2.2.1]) Z Z Z Z Z Z (by intro w;simp[Instr.build,Instr.fill,dV,cY,cM,dW,dX,cZ,eT,kA g])) Z ?_;refine bZ (Know.one (aF.sl (aX (i:=3) (j:=4) Z Z dL))) λk=>bO 5 (vs:=[vU (b.1),vI (b.2),vI (a.1.2.2.2.2.1),vI (a.1.2.2.2.2.2.2.1),vB (decide ((at' a.1.2.1 (wI .i64 ((List.length a.1.2.1:Int) - (1:Int))))=(0:Int))),d.2.2.1]) Z Z (cG Z (cG Z (cG Z (cG Z (cG Z (cG k Z)))))) Z Z Z<|aC Z<|aN<|aV ?_;cases h;exact iA (d.2.2.1,d.2.2.2) Z Z (RV.cell 5 Z Z Z Z) (RV.tmp Z) (bA.ix [3,4] Z Z) aE.nil
end Go.Proofs.YtjkjpdonlpdcaaaGreatDoor
namespace Go.Proofs.YtjkjpdonlpdcaaaGreatDoor
open Go Go.Sx
theorem NJ {z:List oG} {g:GR} (x:VG g) (M:g.2.length<=9) (L:z.map vE=Eu RC) {kind:Int} (C:1<=kind) (D:kind<=2) {w:bE} (j:FY g w oV) {ws:aS} (K:19<=ws.length) (F:ws.length<=800) (J:∀k:Nat,k<ws.length->∃m:Nat,at' ws (k:Int)=(m:Int)∧m<4294967296):
  ∃k c a d b,jQ 1000 (pC z) g kind w ws=some ((BN a,b,c,d),0)∧RR g (jI g) w k c a∧(∀v,v<g.2.length->¬BG g c v)∧(∀t∈a,JB g t)∧d.2.1=((o_ (iR a) g.2.length:Nat):Int)∧k<=ws.length∧a.length=k∧b.length=k+1∧at' b (k:Int)=0:=by
 obtain⟨k,c,a,d,b,s,i,B,o,G,l,A,y,q⟩:=IP (p:=pC z) x (ZB x) L YJ C (by omega) j F J
  (λk c a=>RR g (jI g) w k c a) (abg j)
  (λk c a t G I i H E u r=>adm x i E u (r D))
 have h:yY (bM (pC z) g) RC (jI g) c=0:=by
  rcases q with e|e
  ·have:=Jv (f:=iR a) (n:=g.2.length) i.m.one;have:=i.m.sum;omega
  ·exact e
 exact⟨k,c,a,d,b,s,i,UE h,B,o,G,l,A,by rw[y,h];rfl⟩
theorem NK {z:List oG} {g:GR} (x:VG g) (S:g.2.length<=9) (R:z.map vE=Eu RM) {kind:Int} (J:1<=kind) (C:kind<=2) {u:bE} (s:FY g u mA) {ws:aS} (Q:19<=ws.length) (K:ws.length<=800) (P:∀k:Nat,k<ws.length->∃m:Nat,at' ws (k:Int)=(m:Int)∧m<4294967296):
  ∃k c a i d,jQ 1000 (pM z) g kind u ws=some ((BN a,d,c,i),0)∧OB g (jI g) u k c a∧(∀j,Sa g j->RU g (jI g) j u k c a)∧Sa g c∧(∀t∈a,JB g t)∧i.2.1=((o_ (iR a) g.2.length:Nat):Int)∧k<=ws.length∧a.length=k∧d.length=k+1∧at' d (k:Int)=0:=by
 obtain⟨k,c,a,i,d,D,⟨w,M⟩,I,A,L,y,H,G,B⟩:=IP (p:=pM z) x (ZC x) R YK J (by omega) s K P
  (λk c a=>OB g (jI g) u k c a∧∀j,Sa g j->RU g (jI g) j u k c a) ⟨⟨s,λv _=> .inl ⟨by simp[iR],rfl⟩,by omega,λt h=>by cases h⟩,λj h=>abh x h s⟩
  (λk c a t L O w N E r o=>⟨Zt x w.1 E r (o C),λj h=>adn x h (w.2 j h) E r (o C)⟩)
 have l:yY (bM (pM z) g) RM (jI g) c=0:=by
  rcases B with e|e
  ·have:=Ic (f:=iR a) (b:=2) (n:=g.2.length) λv F=>w.two F;have:=w.sum;omega
  ·exact e
 refine⟨k,c,a,i,d,D,w,M,λv F=>Tb (p:=pM z) λq=> ?_,I,A,L,y,H,by rw[G,l];rfl⟩
 have:(yY (bM (pM z) g) RM (jI g) c).testBit v=true:=(yZ _ RM _ c v).2 ⟨F,q,by unfold jI;rw[Li,decide_eq_true F]⟩;rw[l]at this;simp at this
theorem Jh {p:zL} {g:GR} (hV:VG g) {c0 c:bE} {ws ens:aS} {ch:f_} {cnt:CT} {k:Nat} (hrun:jQ 1000 p g 2 c0 ws=some ((BN ch,ens,c,cnt),0)) (hin:∀t∈ch,JB g t) (hchl:ch.length=k) (hk:k<=800) (hel:ens.length=k+1) (hea:at' ens (k:Int)=0):
  ∃m most b,iI 1000 p g 2 c0 ws=some ((m,most,cnt.2.1,b,true,c),0):=by
 obtain⟨most,hmov,hmost⟩:=Vo (ch:=ch) (λt ht=>by have:=JB.lt hV (hin t ht);omega) (by omega) (b:=900) (λv _=>Nat.le_trans List.countP_le_length (by omega)) ens c cnt;have e1:wI .i64 ((ens.length:Int) - 1)=(k:Int):=by rw[wr (by omega) (by omega)];omega
 unfold iI;rw[bF hrun];dsimp only;rw[if_neg (by decide),bF (show jZ 1000 (BN ch,ens,c,cnt)=_ from hmov),e1,cS (by omega),hea];exact⟨_,_,_,rfl⟩
theorem aai {g:GR} (f:VG g) {S d k:Nat} {l o c:bE} {n:f_} (x:∀u,u<g.2.length->(S.testBit u=true↔pN l u≠pN o u)) (j:∀v,v<g.2.length->¬BG g o v) (y:∀v,v<g.2.length->(row g v).length<=d) (p:RR g (jI g) l k c n):o_ (iR n) g.2.length<=Gz S g.2.length*(1+d):=by
 refine aaq f y p.m.one λv e h=>Classical.byContradiction λq=> ?_;obtain⟨i,s,r⟩:=p.mv v e (by omega);obtain⟨t,w⟩:=Ls f x e q;obtain⟨u,z,b,a⟩:=f.port e s;rw[gV b,t,w u a]at r;exact j v e ⟨i,s,by rw[gV b];exact r⟩
theorem aaj {g:GR} (l:VG g) {S d k:Nat} {n j c:bE} {o:f_} (p:∀u,u<g.2.length->(S.testBit u=true↔pN n u≠pN j u)) (r:∀v,v<g.2.length->(row g v).length<=d) (f:RU g (jI g) j n k c o):o_ (iR o) g.2.length<=Gz S g.2.length*(2+d+d*d):=by
 refine aar l r (λv b=>f.m.two b) (λv b q=> ?_) λv b h=>Classical.byContradiction λq=> ?_
 ·have i:=Ls l p b q;by_cases e:pN j v=0
  ·rcases f.fb v b i e with⟨a,_⟩|⟨a,_⟩<;>omega
  ·have:=(f.fa v b i e).1;omega
 ·obtain⟨i,s⟩:=X_ l p b q;exact h (f.fc v b i s)
theorem acY {g:GR} {a:List EU} (b:vF g a) {x:Nat} (c:x<a.length) (v:Nat):lo g (at' a (x:Int)) v<=hi g (at' a (x:Int)) v:=by
 rcases b.kind x c with k|k|k
 ·have h:=(b.range x c k).2.1;unfold lo hi at h ⊢;rw[k]at h ⊢;simpa using h
 ·unfold lo hi;rw[k];simp
 ·unfold lo hi;rw[k];simp;omega
theorem So {g:GR} {a:List EU} (b:vF g a) {x:Nat} (c:x<a.length) (v:Nat) (y:Int):lo g (at' a (x:Int)) v<=wU (at' a (x:Int)).2.1 (wJ g a v x) y∧wU (at' a (x:Int)).2.1 (wJ g a v x) y<=hi g (at' a (x:Int)) v:=by
 have h:=acY b c v;unfold wU wJ;dsimp only;split
 ·assumption
 ·split
  ·rename_i k;unfold lo hi;rw[k];simp;omega
  ·split<;>omega
section
variable {S:AH} {vars:List EU} {R:List RL} {c:List (List Int)} {t v:Nat}
end
end Go.Proofs.YtjkjpdonlpdcaaaGreatDoor
namespace Go.Proofs.YtjkjpdonlpdcaaaGreatDoor
open Go.Sx
def rJ  (a:bE):Option (bE×Int):=
 some (a,(0:Int))
def lV (U:Nat) (g:yB) (b:yC) (d:fL) (a:Int×bE) (c:(Int×bE)->Option (bE×Int)) (e:Bool):Option (bE×Int):=
 if e=true then(some (([]:bE),(2:Int)))else(ck (0<=((at' b a.1).1)∧((at' b a.1).1)<(List.length a.2:Int)) (ck (0<=((at' b a.1).2.1)∧((at' b a.1).2.1)<(List.length g.2.1:Int)) (ck (0<=((at' b a.1).1)∧((at' b a.1).1)<(List.length d:Int)) (ck (0<=((at' b a.1).2.1)∧((at' b a.1).2.1)<(List.length (at' d ((at' b a.1).1)):Int)) (Option.bind (rW U ((at' g.2.1 ((at' b a.1).2.1)).2.1) ((((at' (at' d ((at' b a.1).1)) ((at' b a.1).2.1)).1),((at' (at' d ((at' b a.1).1)) ((at' b a.1).2.1)).2))) ((at' b a.1).2.2)) λf=>(ck (0<=((at' b a.1).2.1)∧((at' b a.1).2.1)<(List.length (at' a.2 ((at' b a.1).1)):Int)) (c ((wI .i64 (a.1+(1:Int))),(List.set a.2 (Int.toNat ((at' b a.1).1)) (List.set (at' a.2 ((at' b a.1).1)) (Int.toNat ((at' b a.1).2.1)) f))))))))))
def lW (U:Nat) (d:yB) (c:yC) (e:fL) (a:Int×bE) (b:(Int×bE)->Option (bE×Int)):Option (bE×Int):=
 if a.1<(List.length c:Int)then(ck (0<=a.1∧a.1<(List.length c:Int)) (if((at' c a.1).1)<(0:Int)then(lV U d c e a b (true))else(if(List.length a.2:Int)<=((at' c a.1).1)then(lV U d c e a b (true))else(if((at' c a.1).2.1)<(0:Int)then(lV U d c e a b (true))else(lV U d c e a b (decide ((List.length d.2.1:Int)<=((at' c a.1).2.1))))))))else(rJ  (a.2))
def pW (U:Nat) (a:yB) (b:dJ) (d:bE) (f:yC):Option (bE×Int):=
 Option.bind (nK U ((a.1,a.2.1,a.2.2)) ((b.1,b.2)) d) λe=>(if e≠(0:Int)then(some (([]:bE),e))else(Option.bind (jP U ((a.1,a.2.1,a.2.2)) ((b.1,b.2))) λg=>(Option.bind (qW U d) λc=>(bP (lW U a f g) U ((0:Int),c)))))
theorem ZW:aR Tryz.prog 21:=Tryz.call21
theorem GY (U:Nat) {g:yB} {R:dJ} {p2:bE} {d:yC} (s:Value)  (t:Value)  (L:Value)  (M:Value)  (Y:mV)  (O:Value)  (z6:pA)  (P:Value) (r:bE×Int) (h:pW U g R p2 d=some r):
  aW Tryz.prog 21 #[Value.agg #[vS (g.1),s,t],Value.agg #[L,M],O,P] [Sl aJ s g.2.1,Sl aG t g.2.2,PF (Value.agg #[vS g.1,s,t]),Sl bJ L R.1,S2 bG M Y R.2,S2 bJ O z6 p2,Sl fO P d] (λx:Hx=>Value.tuple #[x.1,vI (r.2)]) (λx l=>Ar dD.raw x.1 x.2::jH cI x.2 r.1::l) (λ_ l=>l):=by
 refine aW.of Tryz.func21 Z Tryz.ntmps21 Z λc=>?_;refine aP<|aH (aL.box (cs:=[vS (g.1),s,t]) Z Z) Z λN=>aH (aL.box (cs:=[L,M]) Z Z) Z λb2=>aC Z<|aC Z<|aN<|aM<|aP<|dC 1 Z<|dC 0 Z<|aA Z<|fE h λr3 w4 h=>aH (aL.callQ Un (De U s t L M Y O z6 r3 w4) Z (mK [0,1,2,3,4,5] Z)) Z λx5=>aC Z<|aN<|aP<|aA Z<|p_ Z<|aN ?_;refine dK h Z (λh=>?_) λh=>?_
 ·refine aP<|aA Z<|aC Z<|aC Z<|aN<|aV<|aK<|jK (iD dD.raw) (jK (rR cI) ?_);cases h;exact iA ((lX),([]:gQ)) Z Z (RV.tmp Z) (RV.tmp Z) (bA.ix [1,0] Z Z) aE.nil
 refine cT<|aP<|dC 1 Z<|dC 0 Z<|fE h λq w8 h=>aH (aL.callQ OX (Ad U s t L M Y q w8) Z (mK [0,1,2,3,4] Z)) Z λu=>aC Z<|aN<|aP<|aA Z<|fE h λK V h=>aH (aL.callQ OY (AT U O z6 K V) Z (mK [5] Z)) Z λb=>aC Z<|aN<|aM<|fF (λm=>rJ  m=some r) (λm v=>[(12,b.1)]) (λm v=>[Ar dD.raw b.1 b.2,jH cI b.2 m]) ?_ ?_
 ·refine aP<|aA Z<|jS (aF.fact 6 Z) Z<|aA Z<|aN<|aT<|fJ (lW U g d q) (λa w=>[(4,vP N),(11,u.1),(12,b.1),(27,P),(28,vI (List.length d:Int)),(29,vI (a.1))]) (λa w=>[Ar dD.raw b.1 b.2,jH cI b.2 a.2,Ar dD.raw u.1 u.2,jH bU u.2 q,bX N [vS (g.1),s,t] 42]) ((0:Int),K) () h SF (bA.ix [0,1,2,3,5] Z Z) ?_;intro Q a w h;refine aP<|cW Z<|aN<|aM ?_;refine dK h Z (λh=>?_) λh=>?_
  ·refine cT<|aM<|aT<|aP<|eH h λG h=>aD (bK Z Z (aF.fact 6 Z) Z Z G) Z<|aD (g_ (cs:=[vI ((at' d a.1).1),vI ((at' d a.1).2.1),vI ((at' d a.1).2.2)]) Z (aF.fact 6 Z) Ao Z Z Z Z G) Z<|aH (aL.alloc (cs:=[vI (0:Int),vI (0:Int),vI (0:Int)]) Z Z) Z λy=>bO 0 (vs:=[vI ((at' d a.1).1),vI ((at' d a.1).2.1),vI ((at' d a.1).2.2)]) Z Z Z Z Z Z<|aN<|aM<|aM<|fF (λn=>lV U g d q a (bP (lW U g d q) Q) n=some r) (λn A=>[(4,vP N),(11,u.1),(12,b.1),(14,vP y),(27,P),(28,vI (List.length d:Int)),(29,vI (a.1)),(55,vB (n))]) (λn A=>[bX y [vI ((at' d a.1).1),vI ((at' d a.1).2.1),vI ((at' d a.1).2.2)] 62,Ar dD.raw b.1 b.2,jH cI b.2 a.2,Ar dD.raw u.1 u.2,jH bU u.2 q,bX N [vS (g.1),s,t] 42]) ?_ ?_
   ·refine aQ<|bV Z<|dO 0 Z<|cW Z<|aA Z ?_;refine CP h Z (λ_ h=>?_) λ_ h=>?_
    ·refine aI Z<|aI Z<|aI Z<|aI Z<|aI Z<|eR Z<|aA Z<|aI Z<|aI Z<|aI Z<|eR Z<|aA Z<|aI Z<|aI Z<|aI Z<|aI Z<|aI Z<|aI Z<|eR Z<|aN ?_;exact iP (true) () h SF Z
    refine aU Z (dM Z Z Z Z Z) Z<|aU Z (eS 0 Z Z Z Z Z) Z<|eP Z<|aU Z (kE Z (aX (i:=1) (j:=2) Z Z dL) Z) Z<|aU Z (Eb Z Z) Z<|eY Z<|aA Z ?_;refine CP h Z (λ_ h=>?_) λ_ h=>?_
    ·refine aI Z<|aI Z<|aI Z<|eR Z<|aA Z<|aI Z<|aI Z<|aI Z<|aI Z<|aI Z<|aI Z<|eR Z<|aN ?_;exact iP (true) () h SF Z
    refine aU Z (dM Z Z Z Z Z) Z<|aU Z (eS 0 Z Z Z Z Z) Z<|aU Z (Hg Z Z) Z<|eY Z<|aA Z ?_;refine CP h Z (λ_ h=>?_) λ_ h=>?_
    ·refine aI Z<|aI Z<|aI Z<|aI Z<|aI Z<|aI Z<|eR Z<|aN ?_;exact iP (true) () h SF Z
    refine aU Z (dM Z Z Z Z Z) Z<|aU Z (eS 0 Z Z Z Z Z) Z<|aU Z (dM Z Z Z Z Z) Z<|aU Z (eS 5 Z Z Z Z Z) Z<|aU Z (kR Z (aF.fact 0 Z) Z) Z<|aU Z (Eb Z Z) Z<|eY Z<|aN ?_;exact iP (decide ((List.length g.2.1:Int)<=((at' d a.1).2.1))) () h SF Z
   intro n A h;refine BF h Z (λ_ h=>?_) λ_ h=>?_
   ·refine aP<|aC Z<|aC Z<|aN<|aV<|aK<|bS<|aK<|aK<|bS<|aK<|jK (iD dD.raw) (jK (rR cI) ?_);cases h;exact iA ((lX),([]:gQ)) Z Z (RV.tmp Z) (RV.tmp Z) (bA.ix [1,0] Z Z) aE.nil
   refine cT ?_;refine JR.start [0,0,2,7,15,0,32,0,128,0,512,1920,3968,8064,0,0,32768,114688,245760,0,524288,2080768,4177920,0,8388608,33554304,67108863,134217727] 26 mixedOrders (by decide +kernel) ?_;refine JR.open (by exact rfl) ?_;refine bD Z<|cH Z<|gU 0 Z<|eH h λe h=>cA (cO 2 Z) λB=>?_;refine bL Z (bA.cons 1 Z .nil) .nil (iW 0 Z Z Z Z Z e.1 (by have S:=e.2;have T:=B;(try simp only[List.length_set]at S);(try simp only[List.length_set]at T);(try simp only[List.length_set]);omega)) aO.z ?_;refine cA (cO 2 Z) λC=>bL Z (bA.cons 1 Z .nil) .nil (lP 0 Z Z C Z Z e) aO.z<|cH Z<|gU 0 Z<|cH Z<|gU 5 Z<|cH Z<|gU 0 Z<|eH h λH h=>bL Z .nil (nW 0 Z) (bK Z Z (aF.fact 0 Z) Z Z H) aO.z<|iB Z (lO Z Z Z Z Z)<|bL Z .nil (nW 0 Z) (oH Z (aF.fact 0 Z) Z Z Z qZ H) aO.z<|bD Z<|cH Z<|gU 0 Z<|eH h λf h=>cA (cO 4 Z) λD=>?_;refine bL Z (bA.cons 3 Z .nil) .nil (iW 0 Z Z Z Z Z f.1 (by have S:=f.2;have T:=D;(try simp only[List.length_set]at S);(try simp only[List.length_set]at T);(try simp only[List.length_set]);omega)) aO.z ?_;refine cA (cO 4 Z) λE=>bL Z (bA.cons 3 Z .nil) .nil (lP 0 Z Z E Z Z f) aO.z<|cH Z<|gU 0 Z<|eH h λI h=>cA (Know.len (aF.row (j:=4) Z bI f.1 f.2)) λF=>iB Z (Iq Z Z F Z Z I)<|bL Z (bA.cons 4 Z .nil) .nil (g_ (cs:=[vI ((at' (at' q ((at' d a.1).1)) ((at' d a.1).2.1)).1),vI ((at' (at' q ((at' d a.1).1)) ((at' d a.1).2.1)).2)]) Z (aF.row (j:=0) Z bI f.1 f.2) bI Z Z Z Z I) aO.z<|cH Z<|gU 0 Z<|fE h λp W h=>JR.loud Z Z Z (aL.callQ Uo (Dc U  p W) Z .nil) Z (λX=>(mP [([0],[]),([1],[]),([1],[]),([0],[])] Z)) λX=>bQ 26 Z Z<|eH h λJ h=>aD (bK Z Z (aF.row (j:=2) Z dL e.1 e.2) Z Z J) Z<|KZ (zK (us:=[vI (p)]) (o:=0) (k:=((at' d a.1).1)) 2 p ⟨e.1,by first|exact e.2|simpa using e.2⟩ J Z Z Z Z Z Z Z Z Z Z) λaa=>eN<|oP<|aQ<|cJ Z<|aA Z<|aN ?_;exact mW ((wI .i64 (a.1+(1:Int))),(List.set a.2 (Int.toNat ((at' d a.1).1)) (List.set (at' a.2 ((at' d a.1).1)) (Int.toNat ((at' d a.1).2.1)) p))) () h SF (bA.ix [1,2,3,4,5] Z Z) (aE.refl _ _)
  refine gX ?_;exact b_ (a.2) () h SF (bA.ix [0,1] Z Z) (aE.refl _ _)
 intro m v h;unfold rJ at h;refine aP<|aA Z<|aC Z<|aC Z<|aN<|aV ?_;cases h;exact iA (b.1,b.2) Z Z (RV.tmp Z) (RV.tmp Z) (bA.refl _) aE.nil
end Go.Proofs.YtjkjpdonlpdcaaaGreatDoor
namespace Go.Proofs.YtjkjpdonlpdcaaaGreatDoor
open Go Go.Sx
theorem YE {g:GR} {a:List EU} (l:vF g a) {c:bE} (b:FY g c a) {v:Nat} (j:v<g.2.length) {x:Nat} (m:x<a.length) (y:Int):
  FY g (c.set v ((at' c (v:Int)).set x (wU (at' a (x:Int)).2.1 (wJ g a v x) y))) a:=by
 have f:=b.len;have d:∀u:Nat,at' (c.set v ((at' c (v:Int)).set x (wU (at' a (x:Int)).2.1 (wJ g a v x) y))) (u:Int)=if u=v then(at' c (v:Int)).set x (wU (at' a (x:Int)).2.1 (wJ g a v x) y)else at' c (u:Int):=λu=>uO _ _ _ _ (by rw[f];exact j);refine⟨by rw[List.length_set];exact f,λu h=> ?_,λu h z i=> ?_⟩
 ·rw[d];split
  ·rw[List.length_set];exact b.row v j
  ·exact b.row u h
 ·unfold val;rw[d];by_cases e:u=v
  ·subst e;rw[if_pos Z,uO _ _ _ _ (by rw[b.row u h];exact m)];split
   ·rename_i k;subst k;exact So l i u y
   ·exact b.ok u h z i
  ·rw[if_neg e];exact b.ok u h z i
theorem Pe {p:zL} {g:GR} (m:VG g) (f:vF g p.2.1) (I:1<=p.2.1.length) {c:bE} (e:FY g c p.2.1) {l:yC} (D:l.length<=900) (C:∀k:Nat,k<l.length->(0<=(at' l (k:Int)).1∧(at' l (k:Int)).1<(g.2.length:Int))∧(at' l (k:Int)).2.1=0):
  ∃d,pW 1000 p g c l=some (d,0)∧FY g d p.2.1:=by
 have w:=m.n24;have x:=e.len;have F:=f.len;have E:(Ag g p.2.1).length=g.2.length:=by simp[Ag]
 unfold pW;rw[bF (show nK 1000 _ _ c=_ from Ng m f e),if_neg (by decide),bF (show jP 1000 _ _=_ from Ju m f),bF (Lr c (by omega) (λv h=>by rw[e.row v (by omega)];omega))];obtain⟨⟨i,d⟩,⟨b,a⟩,A⟩:=vL (step:=lW 1000 p l (Ag g p.2.1)) (K:=λz=>some (z.2,(0:Int))) l.length (λk z=>z.1=(k:Int)∧FY g z.2 p.2.1) (λk z r B j=>by
  obtain⟨i,d⟩:=z;obtain⟨b,a⟩:=j;dsimp only at b a;subst b;obtain⟨⟨G,H⟩,q⟩:=C k B;obtain⟨v,n⟩:∃v:Nat,(at' l (k:Int)).1=(v:Int):=⟨(at' l (k:Int)).1.toNat,by omega⟩
  have h:v<g.2.length:=by omega
  have y:=a.len;have o:=a.row v h;have s:at' (Ag g p.2.1) (v:Int)=Bl g p.2.1 v:=x_ _ h;have t:at' (Bl g p.2.1 v) ((0:Nat):Int)=wJ g p.2.1 v 0:=x_ _ (by omega);have u:(Bl g p.2.1 v).length=p.2.1.length:=by simp[Bl]
  refine⟨((k+1:Nat),d.set v ((at' d (v:Int)).set 0 (wU (at' p.2.1 ((0:Nat):Int)).2.1 (wJ g p.2.1 v 0) (at' l (k:Int)).2.2))),⟨rfl,YE f a h (by omega) _⟩,?_⟩
  unfold lW lV;dsimp only;rw[if_pos (by omega),cS (by omega),n,q,if_neg (by omega),if_neg (by omega),if_neg (by omega),decide_eq_false (by omega),if_neg (by decide),cS (by omega),cS (by omega),cS (by omega),s,cS (by rw[u];omega),show(0:Int)=((0:Nat):Int)from rfl,t,bF (MZ 1000 _ _ _),cS (by omega),dG (by omega)];rfl) (λz r j=>by
  obtain⟨i,d⟩:=z;obtain⟨b,a⟩:=j;dsimp only at b;subst b;unfold lW rJ;dsimp only;rw[if_neg (by omega)]) 1000 ((0:Int),c) ⟨rfl,e⟩ (by omega)
 exact⟨d,A,a⟩
end Go.Proofs.YtjkjpdonlpdcaaaGreatDoor
namespace Go.Sx
open Go.RowKit Go.ChangeShapes Go.WideShapes Go.ChangeAt Go.Proofs Go.Joins Go.Deep
section
variable {H:Type} {enc:TypeId×Value->H} {P:Program} {w:World} {base:Nat} {spare:Nat->Bool} {held:Bool}
theorem JK {a:Type} (l:List a) (d:a):l=(List.range l.length).map λi=>l.getD i d:=by
 apply List.ext_getElem?;intro i;by_cases h:i<l.length
 ·simp[h]
 ·simp[h]
theorem Vw {r:Reach} {x:Nat} {t:TypeId} {b:Array Field} {v:Value} {d:DataW H} {p:List MemPlace} (s:P.underlying t=some (.struct b)) (c:oneCellFields P b=true) (z:P.cellsOf t=b.size)
  (E:Value.okWide P w r x t v) (h:DataW.Trod enc P w base spare held t v d p):
  ∃(V:Nat->Value) (Y:Nat->DataW H×List MemPlace) (n:Nat),v = .agg ((List.range b.size).map V).toArray∧∀(i:Nat) (f:Field),b[i]? = some f->DataW.trod enc P w base spare held n f.type [V i]=some (Y i):=by
 obtain⟨a,rfl,l⟩:=okWide_struct s E;obtain⟨m,A⟩:=h;obtain⟨u,n,_,_,_,q,B⟩:=DataW.trod_struct s A;refine⟨λi=>a.toList.getD i undef,λi=>u.getD i (.nil,[]),n,?_,λi f j=> ?_⟩
 ·congr 1;apply Array.toList_inj.1;show a.toList=(List.range b.size).map λi=>a.toList.getD i undef;have y:b.size=a.toList.length:=by rw[<-z,<-l];rfl
  rw[y];exact JK a.toList undef
 ·have D:i<b.size:=(Array.getElem?_eq_some_iff.1 j).1;obtain⟨o,k⟩:=hone_of c i f j;have g:=B i f j;have e:(Value.cells (.agg a)).toList=a.toList:=rfl;have C:i<a.toList.length:=by rw[Array.length_toList];omega
  rw[o,k,e,take1_drop _ _ undef C]at g;rw[g];have F:i<u.length:=by omega
  simp[F]
theorem Vf {k:IntKind} {e:TypeId} (a:P.underlying e=some (.int k)) {n:Nat} {v:Value} {x:DataW H×List MemPlace} (h:DataW.trod enc P w base spare held n e [v]=some x):∃y:Int,v = .int k y:=by
 obtain⟨y,b,_,_⟩:=DataW.trod_int a h;exact⟨y,by simpa using b⟩
theorem Ku {e:TypeId} (a:P.underlying e=some .bool) {n:Nat} {v:Value} {x:DataW H×List MemPlace} (h:DataW.trod enc P w base spare held n e [v]=some x):∃y:Bool,v = .bool y:=by
 obtain⟨y,b,_⟩:=DataW.trod_bool a h;exact⟨y,by simpa using b⟩
end
section
variable {H:Type} {enc:TypeId×Value->H} {P:Program} {w:World} {base:Nat} {spare:Nat->Bool} {held:Bool}
theorem aau {u k l:IntKind} {t:TypeId} {e f g:Field} (J:P.underlying t=some (.struct #[e,f,g])) (d:oneCellFields P #[e,f,g]=true) (I:P.cellsOf t=3)
  (E:P.underlying e.type=some (.int u)) (F:P.underlying f.type=some (.int k)) (G:P.underlying g.type=some (.int l)) (n:Nat) (o:List Value) (x:DataW H×List MemPlace) (h:DataW.trod enc P w base spare held n t o=some x):
  ∃y:Int×Int×Int,((eG.int u).pair ((eG.int k).pair (eG.int l))).R w (λ_=>True) o y:=by
 obtain⟨O,m,_,_,A,j,s⟩:=DataW.trod_struct J h;have p:=s 0 e Z;have q:=s 1 f Z;have r:=s 2 g Z;obtain⟨L,B⟩:=hone_of d 0 e Z;obtain⟨M,C⟩:=hone_of d 1 f Z;obtain⟨N,D⟩:=hone_of d 2 g Z;rw[L,B]at p;rw[M,C]at q;rw[N,D]at r;rw[I]at A;have K:O.length=3:=j;rw[List.getElem?_eq_getElem (by omega)]at p q r;obtain⟨a,v,_,_⟩:=DataW.trod_int E p;obtain⟨b,z,_,_⟩:=DataW.trod_int F q;obtain⟨c,i,_,_⟩:=DataW.trod_int G r
 match o,A with
 | [d0,d1,d2],_=>
  simp at v z i;refine⟨(a,b,c),[.int u a],[.int k b,.int l c],?_,rfl,[.int k b],[.int l c],rfl,rfl,rfl⟩
  rw[v,z,i];rfl
end
end Go.Sx
namespace Go.Proofs.YtjkjpdonlpdcaaaGreatDoor
open Go Go.Sx Go.Gx
set_option maxRecDepth 100000
def tC (a:Nat):Option (Bool):=some (true)
theorem Uf:aR Tryz.prog 16:=Tryz.call16
theorem Us:okT (Hh DU gp2 4000 16 [] H0)=true:=by kernel_rfl
theorem DY (a:Nat) (r:Bool) (h:tC a=some r):
  aW Tryz.prog 16 #[] [Gb 0 (cellsOf Cy qP)] (λx:Unit=>Value.bool (r)) (λx l=>l) (λ_ l=>l):=by
 obtain rfl:=Option.some.inj h;obtain⟨d,c⟩:=Vv Us;rw[CK AC]at c;exact LE Pq Uf (λf e h=>h.bool_inv) λT b=>Fl (gs:=gl T) agr c (eX.start b Z) .nil
end Go.Proofs.YtjkjpdonlpdcaaaGreatDoor
namespace Go.Proofs.YtjkjpdonlpdcaaaGreatDoor
open Go.Sx
def uR (U:Nat)  : Option (ByteArray):=
 some (ByteArray.mk #[112,114,111,103,114,97,109,32,105,110,100,101,112,101,110,100,101,110,116,59,10,118,97,114,32,109,32,58,32,98,111,111,108,59,10,114,117,108,101,32,108,101,97,118,101,58,32,109,32,38,38,32,115,111,109,101,40,113,46,109,41,32,45,62,32,109,32,58,61,32,102,97,108,115,101,59,10,114,117,108,101,32,101,110,116,101,114,58,32,33,109,32,38,38,32,33,115,111,109,101,40,113,46,109,41,32,45,62,32,109,32,58,61,32,116,114,117,101,59,10])
theorem aac:aR Tryz.prog 62:=Tryz.call62
theorem EM (U:Nat)  (r:ByteArray) (h:uR U  = some r):
  aW Tryz.prog 62 #[] [] (λx:Unit=>vS (r)) (λx l=>l) (λ_ l=>l):=by
 refine aW.of Tryz.func62 Z Tryz.ntmps62 Z λc=>?_;unfold uR at h;refine aP<|aC Z<|aN<|aP<|aC Z<|aN<|aV ?_;cases h;exact lL Z
def xA (U:Nat)  : Option (ByteArray):=
 some (ByteArray.mk #[112,114,111,103,114,97,109,32,99,111,108,111,117,114,105,110,103,59,10,118,97,114,32,99,32,58,32,48,32,46,46,32,110,59,10,114,117,108,101,32,102,105,120,58,32,115,111,109,101,40,113,46,99,32,61,61,32,99,41,32,45,62,32,99,32,58,61,32,109,101,120,40,113,46,99,41,59,10])
theorem aad:aR Tryz.prog 63:=Tryz.call63
theorem GX (U:Nat)  (r:ByteArray) (h:xA U  = some r):
  aW Tryz.prog 63 #[] [] (λx:Unit=>vS (r)) (λx l=>l) (λ_ l=>l):=by
 refine aW.of Tryz.func63 Z Tryz.ntmps63 Z λc=>?_;unfold xA at h;refine aP<|aC Z<|aN<|aP<|aC Z<|aN<|aV ?_;cases h;exact lL Z
def zD (U:Nat) (a:Int):Option (ByteArray):=
 if a=(0:Int)then(none)else(if a=(1:Int)then(none)else(if a=(2:Int)then(none)else(if a=(3:Int)then(none)else(if a=(4:Int)then(none)else(if a=(5:Int)then(none)else(if a=(6:Int)then(none)else(if a=(7:Int)then(none)else(if a=(8:Int)then(Option.bind (uR U) λb=>(some (b)))else(if a=(9:Int)then(Option.bind (xA U) λc=>(some (c)))else(if a=(10:Int)then(none)else(if a=(11:Int)then(none)else(if a=(12:Int)then(none)else(if a=(13:Int)then(none)else(none))))))))))))))
theorem ZV:aR Tryz.prog 18:=Tryz.call18
theorem Mf (U:Nat) {f:Int} (r:ByteArray) (h:zD U f=some r):
  aW Tryz.prog 18 #[vI (f)] [] (λx:Unit=>vS (r)) (λx l=>l) (λ_ l=>l):=by
 refine aW.of Tryz.func18 Z Tryz.ntmps18 Z λc=>?_;refine aP<|aC Z<|aN<|aM<|aP<|aA Z<|aN<|aT<|aP<|bR Z<|aC Z<|aN ?_;refine dK h Z (λh=>?_) λh=>?_
 ·refine aP ?_;cases h
 refine aP<|bR Z<|aC Z<|aN ?_;refine dK h Z (λh=>?_) λh=>?_
 ·refine aP ?_;cases h
 refine aP<|bR Z<|aC Z<|aN ?_;refine dK h Z (λh=>?_) λh=>?_
 ·refine aP ?_;cases h
 refine aP<|bR Z<|aC Z<|aN ?_;refine dK h Z (λh=>?_) λh=>?_
 ·refine aP ?_;cases h
 refine aP<|bR Z<|aC Z<|aN ?_;refine dK h Z (λh=>?_) λh=>?_
 ·refine aP ?_;cases h
 refine aP<|bR Z<|aC Z<|aN ?_;refine dK h Z (λh=>?_) λh=>?_
 ·refine aP ?_;cases h
 refine aP<|bR Z<|aC Z<|aN ?_;refine dK h Z (λh=>?_) λh=>?_
 ·refine aP ?_;cases h
 refine aP<|bR Z<|aC Z<|aN ?_;refine dK h Z (λh=>?_) λh=>?_
 ·refine aP ?_;cases h
 refine aP<|bR Z<|aC Z<|aN ?_;refine dK h Z (λh=>?_) λh=>?_
 ·refine aP<|fE h λa d h=>aH (aL.callQ aac (EM U  a d) Z .nil) Z λg=>aC Z<|aN<|aV<|bS<|aK ?_;cases h;exact lL Z
 refine aP<|bR Z<|aC Z<|aN ?_;refine dK h Z (λh=>?_) λh=>?_
 ·refine aP<|fE h λb e h=>aH (aL.callQ aad (GX U  b e) Z .nil) Z λi=>aC Z<|aN<|aV<|bS<|aK ?_;cases h;exact lL Z
 refine aP<|bR Z<|aC Z<|aN ?_;refine dK h Z (λh=>?_) λh=>?_
 ·refine aP ?_;cases h
 refine aP<|bR Z<|aC Z<|aN ?_;refine dK h Z (λh=>?_) λh=>?_
 ·refine aP ?_;cases h
 refine aP<|bR Z<|aC Z<|aN ?_;refine dK h Z (λh=>?_) λh=>?_
 ·refine aP ?_;cases h
 refine aP<|bR Z<|aC Z<|aN ?_;refine dK h Z (λh=>?_) λh=>?_
 ·refine aP ?_;cases h
 refine dR<|oP<|aP ?_;cases h
def zE (U:Nat) (a:Int):Option VW:=
 if a=(0:Int)then(none)else(if a=(1:Int)then(none)else(if a=(2:Int)then(none)else(if a=(3:Int)then(none)else(if a=(4:Int)then(none)else(if a=(5:Int)then(none)else(if a=(6:Int)then(none)else(if a=(7:Int)then(none)else(if a=(8:Int)then(Option.bind (BP U) λb=>(some (b)))else(if a=(9:Int)then(Option.bind (BQ U) λc=>(some (c)))else(if a=(10:Int)then(none)else(if a=(11:Int)then(none)else(if a=(12:Int)then(none)else(if a=(13:Int)then(none)else(none))))))))))))))
theorem Iw:aR Tryz.prog 19:=Tryz.call19
theorem wB (U:Nat) {i:Int} (r:VX) (h:zE U i=some r):
  aW Tryz.prog 19 #[vI (i)] [] (λx:Value=>x) (λx l=>Ar jY x r::l) (λ_ l=>l):=by
 refine aW.of Tryz.func19 Z Tryz.ntmps19 Z λc=>?_;refine aP<|aC Z<|aN<|aM<|aP<|aA Z<|aN<|aT<|aP<|bR Z<|aC Z<|aN ?_;refine dK h Z (λh=>?_) λh=>?_
 ·refine aP ?_;cases h
 refine aP<|bR Z<|aC Z<|aN ?_;refine dK h Z (λh=>?_) λh=>?_
 ·refine aP ?_;cases h
 refine aP<|bR Z<|aC Z<|aN ?_;refine dK h Z (λh=>?_) λh=>?_
 ·refine aP ?_;cases h
 refine aP<|bR Z<|aC Z<|aN ?_;refine dK h Z (λh=>?_) λh=>?_
 ·refine aP ?_;cases h
 refine aP<|bR Z<|aC Z<|aN ?_;refine dK h Z (λh=>?_) λh=>?_
 ·refine aP ?_;cases h
 refine aP<|bR Z<|aC Z<|aN ?_;refine dK h Z (λh=>?_) λh=>?_
 ·refine aP ?_;cases h
 refine aP<|bR Z<|aC Z<|aN ?_;refine dK h Z (λh=>?_) λh=>?_
 ·refine aP ?_;cases h
 refine aP<|bR Z<|aC Z<|aN ?_;refine dK h Z (λh=>?_) λh=>?_
 ·refine aP ?_;cases h
 refine aP<|bR Z<|aC Z<|aN ?_;refine dK h Z (λh=>?_) λh=>?_
 ·refine aP<|fE h λa d h=>aH (aL.callQ aae (Ma U  a d) Z .nil) Z λf=>aC Z<|aN<|aV<|bS<|aK ?_;cases h;exact jE (f) Z Z (RV.tmp Z) (bA.refl _) aE.nil
 refine aP<|bR Z<|aC Z<|aN ?_;refine dK h Z (λh=>?_) λh=>?_
 ·refine aP<|fE h λb e h=>aH (aL.callQ aaf (Mb U  b e) Z .nil) Z λg=>aC Z<|aN<|aV<|bS<|aK ?_;cases h;exact jE (g) Z Z (RV.tmp Z) (bA.refl _) aE.nil
 refine aP<|bR Z<|aC Z<|aN ?_;refine dK h Z (λh=>?_) λh=>?_
 ·refine aP ?_;cases h
 refine aP<|bR Z<|aC Z<|aN ?_;refine dK h Z (λh=>?_) λh=>?_
 ·refine aP ?_;cases h
 refine aP<|bR Z<|aC Z<|aN ?_;refine dK h Z (λh=>?_) λh=>?_
 ·refine aP ?_;cases h
 refine aP<|bR Z<|aC Z<|aN ?_;refine dK h Z (λh=>?_) λh=>?_
 ·refine aP ?_;cases h
 refine dR<|oP<|aP ?_;cases h
def iK (U:Nat) (a:Int) (b:dJ) (e:bE):Option (Bool):=
 if a=(0:Int)then(none)else(if a=(1:Int)then(none)else(if a=(2:Int)then(none)else(if a=(3:Int)then(none)else(if a=(4:Int)then(none)else(if a=(5:Int)then(none)else(if a=(6:Int)then(none)else(if a=(7:Int)then(none)else(if a=(8:Int)then(Option.bind (j_ U ((b.1,b.2)) e) λc=>(some (c)))else(if a=(9:Int)then(Option.bind (lT U ((b.1,b.2)) e) λd=>(some (d)))else(if a=(10:Int)then(none)else(if a=(11:Int)then(none)else(if a=(12:Int)then(none)else(if a=(13:Int)then(none)else(none))))))))))))))
theorem Ug:aR Tryz.prog 20:=Tryz.call20
theorem Ek (U:Nat) {n:Int} {e:dJ} {o:bE} (a:Value)  (b:Value)  (k:mV)  (d:Value)  (m:pA) (r:Bool) (h:iK U n e o=some r):
  aW Tryz.prog 20 #[vI (n),Value.agg #[a,b],d] [Sl bJ a e.1,S2 bG b k e.2,S2 bJ d m o] (λx:Unit=>vB (r)) (λx l=>l) (λ_ l=>l):=by
 refine aW.of Tryz.func20 Z Tryz.ntmps20 Z λc=>?_;refine aP<|aH (aL.box (cs:=[a,b]) Z Z) Z λs=>aC Z<|aN<|aM<|aP<|aA Z<|aN<|aT<|aP<|bR Z<|aC Z<|aN ?_;refine dK h Z (λh=>?_) λh=>?_
 ·refine aP<|dC 0 Z<|aA Z ?_;cases h
 refine aP<|bR Z<|aC Z<|aN ?_;refine dK h Z (λh=>?_) λh=>?_
 ·refine aP<|dC 0 Z<|aA Z ?_;cases h
 refine aP<|bR Z<|aC Z<|aN ?_;refine dK h Z (λh=>?_) λh=>?_
 ·refine aP<|dC 0 Z<|aA Z ?_;cases h
 refine aP<|bR Z<|aC Z<|aN ?_;refine dK h Z (λh=>?_) λh=>?_
 ·refine aP<|dC 0 Z<|aA Z ?_;cases h
 refine aP<|bR Z<|aC Z<|aN ?_;refine dK h Z (λh=>?_) λh=>?_
 ·refine aP<|dC 0 Z<|aA Z ?_;cases h
 refine aP<|bR Z<|aC Z<|aN ?_;refine dK h Z (λh=>?_) λh=>?_
 ·refine aP<|dC 0 Z<|aA Z ?_;cases h
 refine aP<|bR Z<|aC Z<|aN ?_;refine dK h Z (λh=>?_) λh=>?_
 ·refine aP<|dC 0 Z<|aA Z ?_;cases h
 refine aP<|bR Z<|aC Z<|aN ?_;refine dK h Z (λh=>?_) λh=>?_
 ·refine aP<|dC 0 Z<|aA Z ?_;cases h
 refine aP<|bR Z<|aC Z<|aN ?_;refine dK h Z (λh=>?_) λh=>?_
 ·refine aP<|dC 0 Z<|aA Z<|fE h λf i h=>aH (aL.callQ aag (DX U a b k d m f i) Z (mK [0,1,2] Z)) Z λp=>aC Z<|aN<|aV<|bS<|aK ?_;cases h;exact wD Z
 refine aP<|bR Z<|aC Z<|aN ?_;refine dK h Z (λh=>?_) λh=>?_
 ·refine aP<|dC 0 Z<|aA Z<|fE h λg j h=>aH (aL.callQ aah (FK U a b k d m g j) Z (mK [0,1,2] Z)) Z λq=>aC Z<|aN<|aV<|bS<|aK ?_;cases h;exact wD Z
 refine aP<|bR Z<|aC Z<|aN ?_;refine dK h Z (λh=>?_) λh=>?_
 ·refine aP<|dC 0 Z<|aA Z ?_;cases h
 refine aP<|bR Z<|aC Z<|aN ?_;refine dK h Z (λh=>?_) λh=>?_
 ·refine aP<|dC 0 Z<|aA Z ?_;cases h
 refine aP<|bR Z<|aC Z<|aN ?_;refine dK h Z (λh=>?_) λh=>?_
 ·refine aP<|dC 0 Z<|aA Z ?_;cases h
 refine aP<|bR Z<|aC Z<|aN ?_;refine dK h Z (λh=>?_) λh=>?_
 ·refine aP<|dC 0 Z<|aA Z ?_;cases h
 refine dR<|oP<|aP<|dC 0 Z<|aA Z ?_;cases h
end Go.Proofs.YtjkjpdonlpdcaaaGreatDoor