/- Models and proofs. Conditions: none. -/
import Derived.Test.YtmdlcmbplnhdnaaGreatDoorZROn2
import Derived.Test.YtmdlcmbplnhdnaaGreatDoorZROn6
import Derived.Test.YtmdlcmbplnhdnaaGreatDoorZROn5
set_option linter.unusedVariables false
set_option linter.unusedSimpArgs false
set_option maxHeartbeats 4000000
set_option maxRecDepth 20000
namespace Go.Proofs.YtmdlcmbplnhdnaaGreatDoor
open Go.Sx
def rS  (a:aP):Option aP:=
 some (a)
def rT (a:kG) (c:qD->Option aP) (b:aP):Option aP:=
 c ((wI .i64 (a.1+(1:Int))),b)
def oS (d:cQ) (a:kG) (e:qD->Option aP) (b:kG) (c:qD->Option aP):Option aP:=
 if b.1<(List.length (at' d.2 a.1):Int)then(ck (0<=b.1∧b.1<(List.length (at' d.2 a.1):Int)) (ck (0<=a.1∧a.1<(List.length b.2:Int)) (ck (0<=((at' (at' d.2 a.1) b.1).1)) (ck (0<=a.1∧a.1<(List.length b.2:Int)) (c ((wI .i64 (b.1+(1:Int))),(List.set b.2 (Int.toNat a.1) (LX .u32 (at' b.2 a.1) (BG .u32 (1:Int) ((at' (at' d.2 a.1) b.1).1))))))))))else(rT a e (b.2))
def kJ (U:Nat) (c:cQ) (a:kG) (b:qD->Option aP):Option aP:=
 if a.1<(List.length c.2:Int)then(ck (0<=a.1∧a.1<(List.length c.2:Int)) (bK (oS c a b) U ((0:Int),a.2)))else(rS  (a.2))
def nE (U:Nat) (a:cQ):Option aP:=
 ck (0<=(List.length a.2:Int)∧(List.length a.2:Int)<=1099511627) (bK (kJ U a) U ((0:Int),(List.replicate (Int.toNat (List.length a.2:Int)) (0:Int))))
theorem aco:aT Tryz.prog 79:=Tryz.call79
theorem HQ (U:Nat) {d:cQ} (v:Value)  (j:Value)  (y:mZ) (r:aP) (h:nE U d=some r):
  aY Tryz.prog 79 #[Value.agg #[v,j]] [Sl bP v d.1,S2 bA j y d.2] (λx:Value=>x) (λx l=>Ar oJ x r::l) (λ_ l=>l):=by
 refine aY.of Tryz.func79 Z Tryz.ntmps79 Z λc=>?_;refine aU<|aG (aL.box (cs:=[v,j]) Z Z) Z λD=>aD Z<|aM<|aU<|bU Z<|dL 0 Z<|aC (jW Z (aE.fact 1 Z) Z) Z<|dH h λB h=>aG (pM (e:=oJ) (0:Int) Z Z Z Z B Z Z Z) Z λi=>aD Z<|aM<|aJ<|fF (λk=>rS  k=some r) (λk w=>[(3,i)]) (λk w=>[Ar oJ i k]) ?_ ?_
 ·refine aU<|bU Z<|dL 1 Z<|aC (jW Z (aE.fact 1 Z) Z) Z<|aA Z<|aM<|aV<|e_ (kJ U d) (λa m=>[(3,i),(13,j),(14,vI (List.length d.2:Int)),(15,vI (a.1))]) (λa m=>[Ar oJ i a.2]) ((0:Int),(List.replicate (Int.toNat (List.length d.2:Int)) (0:Int))) () h SF (aZ.ix [0] Z Z) ?_;intro t a m h;refine aU<|cX Z<|aM<|aJ ?_;refine fC h Z (λh=>?_) λh=>?_
  ·refine cV<|aJ<|fF (λg=>rT a (bK (kJ U d) t) g=some r) (λg n=>[(3,i),(13,j),(14,vI (List.length d.2:Int)),(15,vI (a.1))]) (λg n=>[Ar oJ i g]) ?_ ?_
   ·refine aV<|aU<|aA Z<|dH h λf h=>aC (cL Z Z (aE.fact 1 Z) Z Z f) Z<|aC (cT Z (aE.fact 1 Z) Z Z f) Z<|aD Z<|aD Z<|aM<|aU<|aA Z<|aC (jC Z (aE.el (aE.fact 1 Z) f.1 f.2) Z) Z<|aA Z<|aM<|aV<|e_ (oS d a (bK (kJ U d) t)) (λb o=>[(3,i),(4,vI (a.1)),(13,j),(14,vI (List.length d.2:Int)),(15,vI (a.1)),(20,(at' y a.1).1),(21,vI (List.length (at' d.2 a.1):Int)),(22,vI (b.1))]) (λb o=>[Ar oJ i b.2]) ((0:Int),a.2) () h SF (aZ.refl _) ?_;intro C b o h;refine aU<|cX Z<|aM<|aJ ?_;refine fC h Z (λh=>?_) λh=>?_
    ·refine cV<|aJ<|aV<|aU<|dH h λp h=>aC (bB Z Z (aE.el (aE.fact 1 Z) f.1 f.2) Z Z p) Z<|aC (jG (cs:=[vI ((at' (at' d.2 a.1) b.1).1),vI ((at' (at' d.2 a.1) b.1).2)]) Z (aE.el (aE.fact 1 Z) f.1 f.2) bR Z Z Z Z p) Z<|aG (aL.alloc (cs:=UG) Z Z) Z λA=>bQ 0 (vs:=[vI ((at' (at' d.2 a.1) b.1).1),vI ((at' (at' d.2 a.1) b.1).2)]) Z Z Z Z Z Z<|aM ?_;refine JR.start [0,0,3,7,0,16,48,127,255,511] 7 mixedOrders (by decide +kernel) ?_;refine JR.open (by exact rfl) ?_;refine bG Z<|bG Z<|dH h λq h=>bJ Z (aZ.cons 1 Z .nil) .nil (bB Z Z (bD (aE.res 0 Z) sT) Z Z q) aK.z<|bJ Z (aZ.cons 1 Z .nil) .nil (bY Z (bD (aE.res 0 Z) sT) Z Z Z Gv q) aK.z<|cY Z<|jO 0 Z<|dH h λu h=>iH Z (NN Z Z u)<|bN 7 Z Z<|aC (YR Z Z) Z<|dH h λs h=>aC (bB Z Z (bD (aE.res 1 Z) sT) Z Z s) Z<|Bg 1 (LX .u32 (at' b.2 a.1) (BG .u32 (1:Int) ((at' (at' d.2 a.1) b.1).1))) s Z Z Z Z Z Z Z<|eR<|o_<|aR<|cP Z<|aA Z<|aM ?_;exact nM ((wI .i64 (b.1+(1:Int))),(List.set b.2 (Int.toNat a.1) (LX .u32 (at' b.2 a.1) (BG .u32 (1:Int) ((at' (at' d.2 a.1) b.1).1))))) () h SF (aZ.ix [1] Z Z) (aF.refl _ _)
    refine u_<|gU<|gU<|Az<|o_ ?_;exact jP (b.2) () h SF Z
   intro g n h;unfold rT at h;refine aR<|cP Z<|aA Z<|aM ?_;exact AT ((wI .i64 (a.1+(1:Int))),g) () h SF Z
  refine gK ?_;exact jP (a.2) () h SF Z
 intro k w h;unfold rS at h;refine aU<|aA Z<|aD Z<|aM<|aS ?_;cases h;exact iI (i) Z Z (RV.tmp Z) (aZ.refl _) aF.nil
end Go.Proofs.YtmdlcmbplnhdnaaGreatDoor
namespace Go.Proofs.YtmdlcmbplnhdnaaGreatDoor
open Go Go.Sx
structure Tt (m k:Nat):Prop where
 bit:m.testBit k=true
 low:∀j,j<k->m.testBit j=false
theorem My {m:Nat} (h:m≠0):∃k,Tt m k:=by
 obtain⟨i,c⟩:=Nat.exists_testBit_of_ne_zero h;obtain⟨k,_,a,b⟩:=FI (p:=λi=>m.testBit i=true) i c;exact⟨k,a,λj d=>by simpa using b j d⟩
theorem OD {m k:Nat} (h:Tt m k) (i:Nat):(m - 1).testBit i=if i<k then true else if i=k then false else m.testBit i:=by
 have b:m=2^(k+1)*(m / 2^(k+1))+2^k:=by
  refine Nat.eq_of_testBit_eq λi=> ?_;have a:2^k<2^(k+1):=Nat.pow_lt_pow_right (by omega) (by omega);rw[Nat.testBit_two_pow_mul_add _ a,Nat.testBit_two_pow,Nat.testBit_div_two_pow];rcases Nat.lt_trichotomy i k with q|q|q
  ·rw[if_pos (by omega),h.low i q,decide_eq_false (by omega)]
  ·subst q;rw[if_pos (by omega),h.bit,decide_eq_true Z]
  ·rw[if_neg (by omega),show i - (k+1)+(k+1)=i by omega]
 have c:0<2^k:=Nat.pow_pos (by omega);have a:2^k - 1<2^(k+1):=by rw[Nat.pow_succ];omega
 have e:m - 1=2^(k+1)*(m / 2^(k+1))+(2^k - 1):=by omega
 rw[e,Nat.testBit_two_pow_mul_add _ a,Nat.testBit_two_pow_sub_one,Nat.testBit_div_two_pow];rcases Nat.lt_trichotomy i k with q|q|q
 ·rw[if_pos (by omega),if_pos q,decide_eq_true q]
 ·subst q;rw[if_pos (by omega),if_neg (by omega),if_pos Z,decide_eq_false (by omega)]
 ·rw[if_neg (by omega),if_neg (by omega),if_neg (by omega),show i - (k+1)+(k+1)=i by omega]
theorem aiB {m:Nat} (b:m<4294967296) (a:m≠0):wI .u32 (0 - (m:Int))=((4294967296 - m:Nat):Int):=by
 rw[DF];have:IntKind.u32.wrap (0 - (m:Int))=(0 - (m:Int))%4294967296:=rfl;rw[this];omega
theorem afK {m:Nat} (b:m<4294967296) (a:m≠0):wI .u32 ((m:Int) - 1)=((m - 1:Nat):Int):=by
 rw[show(m:Int) - 1=((m - 1:Nat):Int) by omega,DF,Lw _ (by omega)]
theorem adf {m k:Nat} (a:m<4294967296) (h:Tt m k):dK .u32 (m:Int) (wI .u32 (0 - (m:Int)))=((2^k:Nat):Int):=by
 have b:m≠0:=λe=>by have:=h.bit;rw[e]at this;simp at this
 have c:k<32:=Gz a h.bit;rw[aiB a b,CW a (by omega)];congr 1;refine Nat.eq_of_testBit_eq λi=> ?_;rw[Nat.testBit_and,show 4294967296 - m=2^32 - ((m - 1)+1) by omega,Nat.testBit_two_pow_sub_succ (by omega),Nat.testBit_two_pow,OD h];rcases Nat.lt_trichotomy i k with q|q|q
 ·rw[h.low i q,decide_eq_false (show¬k=i by omega)];rfl
 ·subst q;rw[h.bit,if_neg (by omega),if_pos Z,decide_eq_true c,decide_eq_true Z];rfl
 ·rw[if_neg (by omega),if_neg (by omega),decide_eq_false (show¬k=i by omega)];cases m.testBit i<;>simp
theorem Qp {m k:Nat} (a:m<4294967296) (h:Tt m k):∃b:Nat,dK .u32 (m:Int) (wI .u32 ((m:Int) - 1))=(b:Int)∧b<4294967296∧∀i,b.testBit i=(m.testBit i&&decide (i≠k)):=by
 have c:m≠0:=λe=>by have:=h.bit;rw[e]at this;simp at this
 refine⟨m &&& (m - 1),by rw[afK a c,CW a (by omega)],Qj a,λi=> ?_⟩
 rw[Nat.testBit_and,OD h];rcases Nat.lt_trichotomy i k with q|q|q
 ·rw[h.low i q];rfl
 ·subst q;simp
 ·rw[if_neg (by omega),if_neg (by omega)];have:decide (i≠k)=true:=decide_eq_true (by omega);rw[this];cases m.testBit i<;>rfl
theorem adG:∀k:Fin 32,((0:Int)<=qW .u32 (wI .u32 ((((2^k.val:Nat):Int))*125613361)) 27∧qW .u32 (wI .u32 ((((2^k.val:Nat):Int))*125613361)) 27<((32:Nat):Int))∧wI .i64 (at' wD (qW .u32 (wI .u32 ((((2^k.val:Nat):Int))*125613361)) 27))=(k.val:Int):=by decide +kernel
theorem abt (f:Nat) {m k:Nat} (a:m<4294967296) (h:Tt m k):jH f (m:Int)=some (k:Int):=by
 have d:m≠0:=λe=>by have:=h.bit;rw[e]at this;simp at this
 obtain⟨b,c⟩:=adG ⟨k,Gz a h.bit⟩;unfold jH;rw[if_neg (by omega),cC (by decide),adf a h,cC ⟨b,rfl⟩,c]
structure Nt (g:GR) (r:aP):Prop where
 len:r.length=g.2.length
 at':∀v:Nat,v<g.2.length->∃m:Nat,Go.Sx.at' r (v:Int)=(m:Int)∧m<4294967296∧∀u,m.testBit u=true↔Kg g v u
theorem adl {g:GR} (I:VG g):∃r,nE 1000 g=some r∧Nt g r:=by
 have R:=I.n24;unfold nE;rw[cC (by omega)];obtain⟨⟨a,r⟩,⟨y,B,C⟩,J⟩:=zT (step:=kJ 1000 g) (K:=λz=>some z.2) g.2.length
  (λk z=>z.1=(k:Int)∧z.2.length=g.2.length∧∀v:Nat,v<g.2.length->∃m:Nat,Go.Sx.at' z.2 (v:Int)=(m:Int)∧m<4294967296∧∀u,m.testBit u=true↔v<k∧Kg g v u) (λk z E M G=>by
  obtain⟨a,r⟩:=z;obtain⟨y,B,C⟩:=G;dsimp only at y B C;subst y;have O:=(I.node k M).deg;obtain⟨⟨b,U⟩,⟨s,d,c⟩,J⟩:=zT (step:=oS g ((k:Int),r) E) (K:=λz=>E (((k+1:Nat):Int),z.2)) (row g k).length
   (λj z=>z.1=(j:Int)∧z.2.length=g.2.length∧∀v:Nat,v<g.2.length->∃m:Nat,Go.Sx.at' z.2 (v:Int)=(m:Int)∧m<4294967296∧∀u,m.testBit u=true↔(v<k∧Kg g v u)∨(v=k∧∃i,i<j∧(fY (row g k) i).1=(u:Int))) (λj z F S H=>by
   obtain⟨b,q⟩:=z;obtain⟨s,d,c⟩:=H;dsimp only at s d c;subst s;obtain⟨w,V,x,N⟩:=I.port M S;obtain⟨m,T,l,t⟩:=c k M;refine⟨(((j+1:Nat):Int),q.set k (((m ||| 2^w:Nat)):Int)),⟨rfl,by simpa using d,λv f=> ?_⟩,?_⟩
   ·show∃P,Go.Sx.at' (q.set k _) (v:Int)=_∧_;rw[sL q k v _ (by omega)];by_cases e:v=k
    ·subst e;refine⟨_,if_pos Z,abl l (HB (by omega)),λu=> ?_⟩
     rw[Nat.testBit_or,Nat.testBit_two_pow,Bool.or_eq_true,t u,decide_eq_true_eq];constructor
     ·rintro((h|⟨_,i,A,h⟩)|h)
      ·exact .inl h
      ·exact .inr ⟨rfl,i,by omega,h⟩
      ·exact .inr ⟨rfl,j,by omega,by rw[x,h]⟩
     ·rintro(h|⟨_,i,A,h⟩)
      ·exact .inl (.inl h)
      ·by_cases L:i=j
       ·subst L;right;rw[x]at h;omega
       ·exact .inl (.inr ⟨rfl,i,by omega,h⟩)
    ·obtain⟨P,n,o,p⟩:=c v f;refine⟨P,by rw[if_neg e];exact n,o,λu=> ?_⟩
     rw[p u];constructor
     ·rintro(h|⟨h,_⟩)
      ·exact .inl h
      ·exact absurd h e
     ·rintro(h|⟨h,_⟩)
      ·exact .inl h
      ·exact absurd h e
   ·unfold oS;dsimp only;rw[if_pos (show(j:Int)<((row g k).length:Int) by omega),cC (show 0<=(j:Int)∧(j:Int)<((row g k).length:Int) by omega),cC (by omega),show Go.Sx.at' (Go.Sx.at' g.2 (k:Int)) (j:Int)=fY (row g k) j from rfl,x,cC (by omega),cC (by omega),T,Ql l (by omega),dZ (by omega),Int.toNat_natCast]) (λz F H=>by
   obtain⟨b,q⟩:=z;obtain⟨s,d,c⟩:=H;dsimp only at s d c;subst s;unfold oS rT;dsimp only;rw[if_neg (show¬((row g k).length:Int)<((row g k).length:Int) by omega),dZ (by omega)]) 1000 ((0:Int),r) ⟨rfl,B,λv f=>by
    obtain⟨m,n,o,p⟩:=C v f;refine⟨m,n,o,λu=> ?_⟩
    rw[p u];constructor
    ·exact λh=> .inl h
    ·rintro(h|⟨_,i,A,_⟩)
     ·exact h
     ·omega⟩ (by omega)
  dsimp only at s d c;refine⟨(((k+1:Nat):Int),U),⟨rfl,d,λv f=> ?_⟩,?_⟩
  ·obtain⟨m,n,o,p⟩:=c v f;refine⟨m,n,o,λu=> ?_⟩
   rw[p u];constructor
   ·rintro(⟨Q,D⟩|⟨rfl,i,A,h⟩)
    ·exact⟨by omega,D⟩
    ·exact⟨by omega,i,A,h⟩
   ·rintro⟨Q,D⟩;by_cases e:v=k
    ·subst e;obtain⟨i,A,h⟩:=D;exact .inr ⟨rfl,i,A,h⟩
    ·exact .inl ⟨by omega,D⟩
  ·unfold kJ;dsimp only;rw[if_pos (by omega),cC (by omega)];exact J) (λz E G=>by
  obtain⟨a,r⟩:=z;obtain⟨y,B,C⟩:=G;dsimp only at y;subst y;unfold kJ rS;dsimp only;rw[if_neg (by omega)]) 1000 ((0:Int),List.replicate (Int.toNat (g.2.length:Int)) (0:Int)) ⟨rfl,by simp,λv f=>⟨0,by
   rw[Int.toNat_natCast,kV (by simpa using f)];simp,by omega,λu=>by simp⟩⟩ (by omega)
 refine⟨r,J,B,λv f=> ?_⟩
 obtain⟨m,n,o,p⟩:=C v f;exact⟨m,n,o,λu=>by rw[p u];exact⟨λh=>h.2,λh=>⟨f,h⟩⟩⟩
def Na (g:GR) (m:Nat):Prop:=∀i,m.testBit i=true->i<g.2.length
theorem Na.lt {g:GR} (b:VG g) {m:Nat} (h:Na g m):m<16777216:=by
 have a:=b.n24;refine Nat.lt_of_lt_of_le (Nat.lt_pow_two_of_testBit (n:=24) m λi d=> ?_) (Nat.le_refl _);cases c:m.testBit i with
 |false=>rfl
 |true=>have:=h i c;omega
theorem afc {m:Nat} (h:∀i,i<32->m.testBit i=false) (b:m<4294967296):m=0:=by
 refine Nat.eq_of_testBit_eq λi=> ?_;rw[Nat.zero_testBit];rcases Nat.lt_or_ge i 32 with q|q
 ·exact h i q
 ·cases a:m.testBit i with
  |false=>rfl
  |true=>have:=Gz b a;omega
theorem QL {g:GR} (z:VG g) {r:aP} (y:Nt g r) {t:Nat} (C:Na g t) (n:∀v u,t.testBit v=true->t.testBit u=true->¬Kg g v u) (F:Nat):∀(d s a b:Nat),s+d=32->b<4294967296->(∀i,i<s->b.testBit i=false)->(∀i,b.testBit i=true->t.testBit i=true)->d<a->
  bK (fS F r (t:Int)) a (b:Int)=some true:=by
 have J:=z.n24;have p:t<4294967296:=by have:=C.lt z;omega
 intro d
 induction d using Nat.strongRecOn with
 | _ d ih =>
  intro s a b P B o c O;obtain⟨a,rfl⟩:∃f,a=f+1:=⟨a - 1,by omega⟩
  show fS F r (t:Int) (b:Int) (bK _ a)=_;unfold fS jA;by_cases G:b=0
  ·rw[if_neg (by omega)]
  obtain⟨k,l⟩:=My G;have w:=C k (c k l.bit);have K:s<=k:=by
   rcases Nat.lt_or_ge k s with q|q
   ·have:=l.bit;rw[o k q]at this;cases this
   ·exact q
  obtain⟨m,L,h,j⟩:=y.at' k w;rw[if_pos (by omega),bF (abt F B l),cC (by have:=y.len;omega),L,CW h p];have M:m &&& t=0:=by
   refine afc (λi _=> ?_) (Qj h);rw[Nat.testBit_and];cases H:m.testBit i with
   |false=>rfl
   |true=>
    cases I:t.testBit i with
    |false=>rfl
    |true=>exact absurd ((j i).1 H) (n k i (c k l.bit) I)
  rw[M,if_neg (by simp)];obtain⟨N,D,E,x⟩:=Qp B l;rw[D];have A:k<32:=by omega
  refine ih (32 - (k+1)) (by omega) (k+1) a N (by omega) E (λi n=> ?_) (λi n=> ?_) (by omega)
  ·rw[x];by_cases e:i=k
   ·simp[e]
   ·rw[l.low i (by omega)];rfl
  ·rw[x,Bool.and_eq_true]at n;exact c i n.1
theorem HM {g:GR} (a:VG g) {r:aP} (d:Nt g r) {t:Nat} (c:Na g t) (b:∀v u,t.testBit v=true->t.testBit u=true->¬Kg g v u):gN 1000 r (t:Int)=some true:=
 QL a d c b 1000 32 0 1000 t (by omega) (by have:=c.lt a;omega) (λi b=>by omega) (λi h=>h) (by omega)
theorem Oc {g:GR} (M:VG g) {r:aP} (T:Nt g r) {W:Nat} (U:Na g W) (F:Nat):∀(d s a b t:Nat),s+d=32->b<4294967296->t<4294967296->(∀i,i<s->b.testBit i=false)->(∀i,b.testBit i=true->W.testBit i=true)->(∀i,t.testBit i=true->W.testBit i=true)->(∀v u,t.testBit v=true->t.testBit u=true->¬Kg g v u)->(W≠0->t≠0∨b=W)->d<a->
  ∃C:Nat,bK (dR F r) a ((b:Int),(t:Int))=some (C:Int)∧C<4294967296∧(∀i,C.testBit i=true->W.testBit i=true)∧(∀v u,C.testBit v=true->C.testBit u=true->¬Kg g v u)∧(W≠0->C≠0):=by
 have aa:=M.n24;intro d
 induction d using Nat.strongRecOn with
 | _ d ih =>
  intro s a b t hs V c I w n j O hf;obtain⟨a,rfl⟩:∃f,a=f+1:=⟨a - 1,by omega⟩
  have P:bK (dR F r) (a+1) ((b:Int),(t:Int))=dR F r ((b:Int),(t:Int)) (bK (dR F r) a):=rfl;rw[P];unfold dR lG iU;dsimp only;by_cases S:b=0
  ·rw[if_neg (by omega)];refine⟨t,rfl,c,n,j,λX=> ?_⟩
   rcases O X with h|h
   ·exact h
   ·exact absurd (h.symm.trans S) X
  obtain⟨k,D⟩:=My S;have E:=w k D.bit;have G:=U k E;have ab:s<=k:=by
   rcases Nat.lt_or_ge k s with q|q
   ·have:=D.bit;rw[I k q]at this;cases this
   ·exact q
  obtain⟨m,hm,J,A⟩:=T.at' k G;obtain⟨L,Y,Q,R⟩:=Qp V D;have p:k<32:=by omega
  have x:∀i,i<k+1->L.testBit i=false:=λi l=>by
   rw[R];by_cases e:i=k
   ·simp[e]
   ·rw[D.low i (by omega)];rfl
  have z:∀i,L.testBit i=true->W.testBit i=true:=λi l=>by
   rw[R,Bool.and_eq_true]at l;exact w i l.1
  rw[if_pos (by omega),bF (abt F V D),cC (by have:=T.len;omega),hm,CW J c,Y];by_cases K:m &&& t=0
  ·rw[K,if_pos (by rfl),cC (by omega),Ql c p];have H:(t ||| 2^k).testBit k=true:=by rw[Nat.testBit_or,Nat.testBit_two_pow];simp
   have y:∀u,t.testBit u=true->¬Kg g k u:=λu o N=>by
    have:=congrArg (λq=>q.testBit u) K;simp only[Nat.testBit_and,Nat.zero_testBit,(A u).2 N,o]at this;cases this
   refine ih (32 - (k+1)) (by omega) (k+1) a L (t ||| 2^k) (by omega) Q (abl c (HB p)) x z (λi l=> ?_) (λv u B o=> ?_) (λ_=> .inl λe=>by rw[e]at H;simp at H) (by omega)
   ·rw[Nat.testBit_or,Nat.testBit_two_pow,Bool.or_eq_true,decide_eq_true_eq]at l;rcases l with l|rfl
    ·exact n i l
    ·exact E
   ·rw[Nat.testBit_or,Nat.testBit_two_pow,Bool.or_eq_true,decide_eq_true_eq]at B o;rcases B with B|rfl
    ·rcases o with o|rfl
     ·exact j v u B o
     ·exact λN=>y v B (M.back (U v (n v B)) N)
    ·rcases o with o|rfl
     ·exact y u o
     ·rintro⟨i,l,he⟩;exact((M.node k G).links i l).2.1 he
  ·rw[if_neg (by omega)];refine ih (32 - (k+1)) (by omega) (k+1) a L t (by omega) Q c x z n j (λ_=> .inl λe=> ?_) (by omega);rw[e]at K;exact K (Nat.and_zero m)
theorem Rb {g:GR} (D:VG g) {r:aP} (M:Nt g r) {a:Int} (aa:1<=a) (ab:a<=4) {e w:Nat} (E:Na g e) (Q:w<4294967296):
  ∃t:Nat,eG 1000 r a (e:Int) (w:Int)=some (t:Int)∧(∀i,t.testBit i=true->e.testBit i=true)∧(e≠0->t≠0∧eZ 1000 r a (e:Int) (t:Int)=some true∧(a<=2->∀v u,t.testBit v=true->t.testBit u=true->¬Kg g v u)∧(a=4->t=e)):=by
 have N:=E.lt D;have f:e<4294967296:=by omega
 -- the wish
 obtain⟨W,V,m,l,o,X⟩:∃W:Nat,eG 1000 r a (e:Int) (w:Int)=iS 1000 r a (e:Int) (W:Int)∧W<4294967296∧(∀i,W.testBit i=true->e.testBit i=true)∧(e≠0->W≠0)∧(e=0->W=0):=by
  unfold eG;rw[CW Q f];by_cases G:w &&& e=0
  ·rw[G,if_pos (show((0:Nat):Int)=0 from rfl)];by_cases c:e=0
   ·refine⟨0,by rw[c];rfl,by omega,λi h=>by simp at h,λh=>absurd c h,λ_=>rfl⟩
   ·obtain⟨k,p⟩:=My c;have n:=Gz f p.bit;refine⟨2^k,by rw[adf f p],HB n,λi h=> ?_,λ_=>Nat.ne_of_gt (Nat.pow_pos (by omega)),λh=>absurd h c⟩
    rw[Nat.testBit_two_pow,decide_eq_true_eq]at h;rw[<-h];exact p.bit
  ·rw[if_neg (by omega)];refine⟨w &&& e,rfl,Qj Q,λi h=> ?_,λ_=>G,λh=>by rw[h];exact Nat.and_zero w⟩
   rw[Nat.testBit_and,Bool.and_eq_true]at h;exact h.2
 have s:Na g W:=λi F=>E i (l i F);have d:∀(t:Nat),t≠0->t<4294967296->(∀i,t.testBit i=true->e.testBit i=true)->∀b,(if a=1 then some (decide ((dK .u32 (t:Int) (wI .u32 ((t:Int) - 1)))=0))else if a=2 then(Option.bind (gN 1000 r (t:Int)) λr7=>some r7)else if a=4 then some (decide ((t:Int)=(e:Int)))else some true)=some b->eZ 1000 r a (e:Int) (t:Int)=some b:=by
  intro t G J A b Y;unfold eZ lF;have hd:Er t e=0:=by
   refine Nat.eq_of_testBit_eq λi=> ?_;rw[KH J f,Nat.zero_testBit];cases H:t.testBit i with
   |false=>rfl
   |true=>rw[A i H];rfl
  rw[if_neg (by omega),NP,hd,if_neg (by simp)];exact Y
 rw[V];unfold iS;by_cases y:a=1
 ·rw[if_pos y];by_cases x:W=0
  ·refine⟨0,by rw[x];rfl,λi h=>by simp at h,λh=>absurd x (o h)⟩
  ·obtain⟨k,p⟩:=My x;have n:=Gz m p.bit;have U:Tt (2^k) k:=⟨by rw[Nat.testBit_two_pow];simp,λj hj=>by rw[Nat.testBit_two_pow];exact decide_eq_false (by omega)⟩
   refine⟨2^k,by rw[adf m p],λi h=> ?_,λc=>⟨Nat.ne_of_gt (Nat.pow_pos (by omega)),?_,λ_ v u P O z=> ?_,λh=>by omega⟩⟩
   ·rw[Nat.testBit_two_pow,decide_eq_true_eq]at h;rw[<-h];exact l k p.bit
   ·refine d _ (Nat.ne_of_gt (Nat.pow_pos (by omega))) (HB n) (λi h=> ?_) true ?_
    ·rw[Nat.testBit_two_pow,decide_eq_true_eq]at h;rw[<-h];exact l k p.bit
    ·obtain⟨m',R,e2,S⟩:=Qp (HB n) U;rw[if_pos y,R];have:m'=0:=Nat.eq_of_testBit_eq λi=>by
      rw[S,Nat.testBit_two_pow,Nat.zero_testBit];by_cases q:k=i
      ·simp[q]
      ·simp[q]
     rw[this];rfl
   ·rw[Nat.testBit_two_pow,decide_eq_true_eq]at P O;subst P;subst O;obtain⟨i,F,E⟩:=z;exact((D.node k (s k p.bit)).links i F).2.1 E
 rw[if_neg y];by_cases B:a=2
 ·rw[if_pos B];obtain⟨t,H,T,I,K,L⟩:=Oc D M s 1000 32 0 1000 W 0 (by omega) m (by omega) (λi F=>by omega) (λi h=>h) (λi h=>by simp at h) (λv u h=>by simp at h) (λ_=> .inr Z) (by omega);refine⟨t,H,λi h=>l i (I i h),λc=>⟨L (o c),?_,λ_=>K,λh=>by omega⟩⟩
  refine d t (L (o c)) T (λi h=>l i (I i h)) true ?_;rw[if_neg y,if_pos B,bF (HM D M (λi h=>s i (I i h)) K)]
 rw[if_neg B];by_cases C:a=4
 ·rw[if_pos C];refine⟨e,rfl,λi h=>h,λc=>⟨c,d e c f (λi h=>h) true ?_,λh=>by omega,λ_=>rfl⟩⟩
  rw[if_neg y,if_neg B,if_pos C];simp
 ·rw[if_neg C];refine⟨W,rfl,l,λc=>⟨o c,d W (o c) m l true ?_,λh=>by omega,λh=>absurd h C⟩⟩
  rw[if_neg y,if_neg B,if_neg C]
end Go.Proofs.YtmdlcmbplnhdnaaGreatDoor
namespace Go.Proofs.YtmdlcmbplnhdnaaGreatDoor
open Go.Sx
def xL  (a:Int):Option (Int):=
 some (a)
def tC (c:aP) (a:fH) (b:i_->Option (Int)):Option (Int):=
 if a.2<(List.length c:Int)then(ck (0<=a.2∧a.2<(List.length c:Int)) (b ((max a.1 (at' c a.2)),(wI .i64 (a.2+(1:Int))))))else(xL  (a.1))
def zF (U:Nat) (a:aP):Option (Int):=
 if(List.length a:Int)<(1:Int)then(none)else(ck (0<=(0:Int)∧(0:Int)<(List.length a:Int)) (bK (tC a) U ((at' a (0:Int)),(1:Int))))
theorem Zl:aT Tryz.prog 121:=Tryz.call121
theorem MS (U:Nat) {f:aP} (g:Value) (r:Int) (h:zF U f=some r):
  aY Tryz.prog 121 #[g] [Sl bP g f] (λx:Unit=>vI (r)) (λx l=>l) (λ_ l=>l):=by
 refine aY.of Tryz.func121 Z Tryz.ntmps121 Z λc=>?_;refine aU<|aD Z<|aM<|aJ<|aU<|aA Z<|kP (aE.fact 0 Z) Z<|cX Z<|aM ?_;refine fC h Z (λh=>?_) λh=>?_
 ·refine aR ?_;cases h
 refine cV<|aU<|aA Z<|dH h λj h=>aC (bB Z Z (aE.fact 0 Z) Z Z j) Z<|aC (bY Z (aE.fact 0 Z) Z Z Z dJ j) Z<|aD Z<|aM<|aJ<|fF (λb=>xL  b=some r) (λb i=>[(3,vI (b))]) (λb i=>[]) ?_ ?_
 ·refine aU<|aD Z<|aM<|aV<|e_ (tC f) (λa d=>[(0,g),(3,vI (a.1)),(4,vI (a.2))]) (λa d=>[]) ((at' f (0:Int)),(1:Int)) () h SF (aZ.refl _) ?_;intro k a d h;refine aJ<|aU<|aA Z<|aA Z<|kP (aE.fact 0 Z) Z<|cX Z<|aM ?_;refine fC h Z (λh=>?_) λh=>?_
  ·refine cV<|aJ<|aV<|aR<|aA Z<|aA Z<|aA Z<|dH h λe h=>aC (bB Z Z (aE.fact 0 Z) Z Z e) Z<|aC (bY Z (aE.fact 0 Z) Z Z Z dJ e) Z<|aC (NL Z Z) Z<|aD Z<|eR<|o_<|aR<|aA Z<|cP Z<|aD Z<|aM ?_;exact AT ((max a.1 (at' f a.2)),(wI .i64 (a.2+(1:Int)))) () h SF Z
  refine gK ?_;exact jP (a.1) () h SF Z
 intro b i h;unfold xL at h;refine aU<|aA Z<|aD Z<|aM<|aS ?_;cases h;exact lI Z
def nR (U:Nat) (a:DC) (b:cQ) (d:Int):Option i_:=
 Option.bind (zF U b.1) λc=>(some (a.2.2.1,(wI .i64 ((wI .i64 (a.2.2.2.1+(wI .i64 (a.2.2.2.2.1*(List.length b.1:Int)))))+(wI .i64 (a.2.2.2.2.2*c))))))
theorem Zk:aT Tryz.prog 120:=Tryz.call120
theorem Ga (U:Nat) {a:DC} {d:cQ} {f:Int} (b:Value)  (e:Value)  (k:mZ) (r:fH) (h:nR U a d f=some r):
  aY Tryz.prog 120 #[Value.agg #[vS (a.1),vI (a.2.1),vI (a.2.2.1),vI (a.2.2.2.1),vI (a.2.2.2.2.1),vI (a.2.2.2.2.2)],Value.agg #[b,e],vI (f)] [Sl bP b d.1,S2 bA e k d.2] (λx:Unit=>Value.tuple #[vI (r.1),vI (r.2)]) (λx l=>l) (λ_ l=>l):=by
 refine aY.of Tryz.func120 Z Tryz.ntmps120 Z λc=>?_;refine aU<|aG (aL.box (cs:=[vS (a.1),vI (a.2.1),vI (a.2.2.1),vI (a.2.2.2.1),vI (a.2.2.2.2.1),vI (a.2.2.2.2.2)]) Z Z) Z λm=>aG (aL.box (cs:=[b,e]) Z Z) Z λn=>aD Z<|aD Z<|aM<|aJ ?_;refine JR.start [0,1,0,4,0,16,0,64,192,496,1020,0,2048,0,8192,24576,63488,131068,57347,524287] 19 mixedOrders (by decide +kernel) ?_;refine JR.open (by exact rfl) ?_;refine cY Z<|jO 1 Z<|cY Z<|jO 1 Z<|cY Z<|jO 1 Z<|cY Z<|jO 0 Z<|bJ Z .nil (nA 0 Z) (jC Z (aE.fact 0 Z) Z) aK.z<|iH Z (AS Z Z)<|iH Z (uD Z Z)<|cY Z<|jO 1 Z<|cY Z<|jO 0 Z<|fN h λg i h=>JR.loud Z Z Z (aL.callQ Zl (MS U b g i) Z (qB [0] Z)) Z (λj=>(uZ [([1],[]),([],[0]),([0],[]),([1],[]),([1],[]),([1],[])] Z)) λj=>iH Z (AS Z Z)<|iH Z (uD Z Z)<|iH Z (lJ Z)<|bN 19 Z Z<|aD Z<|aM<|aS ?_;cases h;exact mS () Z Z (RV.tmp Z) (RV.tmp Z) .nil aF.nil
def qN (U:Nat) (a:DC) (b:cQ) (c:Int):Option i_:=
 some ((0:Int),(1:Int))
theorem Zm:aT Tryz.prog 122:=Tryz.call122
theorem Gc (U:Nat) {a:DC} {b:cQ} {f:Int} (d:Value)  (e:Value)  (g:mZ) (r:fH) (h:qN U a b f=some r):
  aY Tryz.prog 122 #[Value.agg #[vS (a.1),vI (a.2.1),vI (a.2.2.1),vI (a.2.2.2.1),vI (a.2.2.2.2.1),vI (a.2.2.2.2.2)],Value.agg #[d,e],vI (f)] [Sl bP d b.1,S2 bA e g b.2] (λx:Unit=>Value.tuple #[vI (r.1),vI (r.2)]) (λx l=>l) (λ_ l=>l):=by
 refine aY.of Tryz.func122 Z Tryz.ntmps122 Z λc=>?_;unfold qN at h;refine aU<|aG (aL.box (cs:=[vS (a.1),vI (a.2.1),vI (a.2.2.1),vI (a.2.2.2.1),vI (a.2.2.2.2.1),vI (a.2.2.2.2.2)]) Z Z) Z λi=>aG (aL.box (cs:=[d,e]) Z Z) Z λj=>aD Z<|aD Z<|aM<|aU<|aD Z<|aD Z<|aM<|aS ?_;cases h;exact mS () Z Z (RV.tmp Z) (RV.tmp Z) .nil aF.nil
def nS (U:Nat) (c:DC) (b:cQ) (a:Int):Option i_:=
 ck (0<=a∧a<(List.length b.2:Int)) (some ((-1:Int),(wI .i64 ((List.length (at' b.2 a):Int) - (1:Int)))))
theorem Zn:aT Tryz.prog 123:=Tryz.call123
theorem Ge (U:Nat) {a:DC} {d:cQ} {g:Int} (e:Value)  (f:Value)  (i:mZ) (r:fH) (h:nS U a d g=some r):
  aY Tryz.prog 123 #[Value.agg #[vS (a.1),vI (a.2.1),vI (a.2.2.1),vI (a.2.2.2.1),vI (a.2.2.2.2.1),vI (a.2.2.2.2.2)],Value.agg #[e,f],vI (g)] [Sl bP e d.1,S2 bA f i d.2] (λx:Unit=>Value.tuple #[vI (r.1),vI (r.2)]) (λx l=>l) (λ_ l=>l):=by
 refine aY.of Tryz.func123 Z Tryz.ntmps123 Z λc=>?_;refine aU<|aG (aL.box (cs:=[vS (a.1),vI (a.2.1),vI (a.2.2.1),vI (a.2.2.2.1),vI (a.2.2.2.2.1),vI (a.2.2.2.2.2)]) Z Z) Z λj=>aG (aL.box (cs:=[e,f]) Z Z) Z λk=>aD Z<|aD Z<|aM<|aJ ?_;refine JR.start [0,1,0,7,15,31,63,0,255] 8 mixedOrders (by decide +kernel) ?_;refine JR.open (by exact rfl) ?_;refine cY Z<|jO 0 Z<|bG Z<|dH h λb h=>bJ Z .nil (nA 1 Z) (cL Z Z (aE.fact 0 Z) Z Z b) aK.z<|bJ Z .nil (nA 1 Z) (cT Z (aE.fact 0 Z) Z Z b) aK.z<|bJ Z .nil (nA 1 Z) (jC Z (aE.el (aE.fact 0 Z) b.1 b.2) Z) aK.z<|iH Z (nW Z Z)<|iH Z (lJ Z)<|bN 8 Z Z<|aD Z<|aM<|aS ?_;cases h;exact mS () Z Z (RV.tmp Z) (RV.tmp Z) .nil aF.nil
def wT  (a:Unit):Option i_:=
 some ((0:Int),(-1:Int))
def lU (c:Int) (a:(Int)->Option i_) (b:Unit):Option i_:=
 a (wI .i64 (c+(1:Int)))
def eB (U:Nat) (a:DC) (d:cQ) (h:Int) (b:Int) (c:(Int)->Option i_):Option i_:=
 if b<(List.length ([((1:Int),(120:Nat)),((2:Int),(122:Nat)),((3:Int),(123:Nat))]):Int)then(ck (0<=b∧b<(List.length ([((1:Int),(120:Nat)),((2:Int),(122:Nat)),((3:Int),(123:Nat))]):Int)) (if b=(0:Int)then(if(1:Int)=a.2.1 then(Option.bind (nR U ((a.1,a.2.1,a.2.2.1,a.2.2.2.1,a.2.2.2.2.1,a.2.2.2.2.2)) ((d.1,d.2)) h) λe=>(some (e.1,e.2)))else(lU b c (())))else(if b=(1:Int)then(if(2:Int)=a.2.1 then(Option.bind (qN U ((a.1,a.2.1,a.2.2.1,a.2.2.2.1,a.2.2.2.2.1,a.2.2.2.2.2)) ((d.1,d.2)) h) λf=>(some (f.1,f.2)))else(lU b c (())))else(if(3:Int)=a.2.1 then(Option.bind (nS U ((a.1,a.2.1,a.2.2.1,a.2.2.2.1,a.2.2.2.2.1,a.2.2.2.2.2)) ((d.1,d.2)) h) λg=>(some (g.1,g.2)))else(lU b c (()))))))else(wT  (()))
def jR (U:Nat) (a:DC) (b:cQ) (c:Int):Option i_:=
 bK (eB U a b c) U (0:Int)
theorem VN:aT Tryz.prog 93:=Tryz.call93
theorem Cv (U:Nat) {a:DC} {p:cQ} {m:Int} (g:Value)  (i:Value)  (y:mZ) (r:fH) (h:jR U a p m=some r):
  aY Tryz.prog 93 #[Value.agg #[vS (a.1),vI (a.2.1),vI (a.2.2.1),vI (a.2.2.2.1),vI (a.2.2.2.2.1),vI (a.2.2.2.2.2)],Value.agg #[g,i],vI (m)] [Sl bP g p.1,S2 bA i y p.2] (λx:Unit=>Value.tuple #[vI (r.1),vI (r.2)]) (λx l=>l) (λ_ l=>l):=by
 refine aY.of Tryz.func93 Z Tryz.ntmps93 Z λc=>?_;unfold jR at h;refine aU<|aG (aL.box (cs:=[vS (a.1),vI (a.2.1),vI (a.2.2.1),vI (a.2.2.2.1),vI (a.2.2.2.2.1),vI (a.2.2.2.2.2)]) Z Z) Z λt=>aG (aL.box (cs:=[g,i]) Z Z) Z λu=>aD Z<|aD Z<|aM<|aU ?_;refine aC (BD (r:=Value.agg #[vI (1:Int),Value.func (.func 120) #[] #[]]) Z Z (by intro w;simp[Instr.build,Instr.fill,eL,dU,dC,eM,eN,dV,f_])) Z ?_;refine aC (BD (r:=Value.agg #[vI (2:Int),Value.func (.func 122) #[] #[]]) Z Z (by intro w;simp[Instr.build,Instr.fill,eL,dU,dC,eM,eN,dV,f_])) Z ?_;refine aC (BD (r:=Value.agg #[vI (3:Int),Value.func (.func 123) #[] #[]]) Z Z (by intro w;simp[Instr.build,Instr.fill,eL,dU,dC,eM,eN,dV,f_])) Z ?_;refine aG (bZ (e:=HW) ([(((1:Int),((120:Nat)))),(((2:Int),((122:Nat)))),(((3:Int),((123:Nat))))]) [(0,Value.agg #[vI (1:Int),Value.func (.func 120) #[] #[]]),(1,Value.agg #[vI (2:Int),Value.func (.func 122) #[] #[]]),(2,Value.agg #[vI (3:Int),Value.func (.func 123) #[] #[]])] Z Z Z Z (Wt (vI (1:Int)) (Value.func (.func 120) #[] #[]) (vI (2:Int)) (Value.func (.func 122) #[] #[]) (vI (3:Int)) (Value.func (.func 123) #[] #[])) Z Z Z) Z λv=>aD Z<|aM<|aJ<|fF (λs=>wT  s=some r) (λs G=>[]) (λs G=>[]) ?_ ?_
 ·refine aU<|aA Z<|aC (jC Z (bD (aE.res 0 Z) Ay) Z) Z<|aA Z<|aM<|aV<|e_ (eB U a p m) (λk H=>[(2,vI (m)),(3,vP t),(4,vP u),(15,v),(16,vI (List.length ([((1:Int),(120:Nat)),((2:Int),(122:Nat)),((3:Int),(123:Nat))]):Int)),(17,vI (k))]) (λk H=>[Ar HW v ([((1:Int),(120:Nat)),((2:Int),(122:Nat)),((3:Int),(123:Nat))]),bV u [g,i] 29,bV t [vS (a.1),vI (a.2.1),vI (a.2.2.1),vI (a.2.2.2.1),vI (a.2.2.2.2.1),vI (a.2.2.2.2.2)] 71]) (0:Int) () h SF (aZ.refl _) ?_;intro z k H h;refine aU<|cX Z<|aM<|aJ ?_;refine fC h Z (λh=>?_) λh=>?_
  ·refine cV<|aJ<|fF (λj=>lU k (bK (eB U a p m) z) j=some r) (λj n=>[(2,vI (m)),(3,vP t),(4,vP u),(15,v),(16,vI (List.length ([((1:Int),(120:Nat)),((2:Int),(122:Nat)),((3:Int),(123:Nat))]):Int)),(17,vI (k))]) (λj n=>[Ar HW v ([((1:Int),(120:Nat)),((2:Int),(122:Nat)),((3:Int),(123:Nat))]),bV u [g,i] 29,bV t [vS (a.1),vI (a.2.1),vI (a.2.2.1),vI (a.2.2.2.1),vI (a.2.2.2.2.1),vI (a.2.2.2.2.2)] 71]) ?_ ?_
   ·refine aV<|aU<|dH h λf h=>aC (bB Z Z (bD (aE.res 0 Z) Ay) Z Z f) Z ?_;by_cases b:k=(0:Int)
    ·have h:=QJ b h;refine aC (jG (cs:=[vI (1:Int),Value.func (.func 120) #[] #[]]) Z (bD (aE.res 0 Z) Ay) Ay (by rw[b];rfl) Z Z Z f) Z ?_;refine aG (aL.alloc (cs:=[vI (0:Int),Value.nilFunc]) Z Z) Z λI=>bQ 0 (vs:=[vI (1:Int),Value.func (.func 120) #[] #[]]) Z Z Z Z Z Z<|aM<|aU<|bU Z<|dL 0 Z<|bU Z<|dL 3 Z<|cN Z<|aM ?_;refine fC h Z (λh=>?_) λh=>?_
     ·refine aU<|bU Z<|dL 0 Z<|fG 3 Z<|fG 2 Z<|aA Z<|fN h λA D h=>aG (uN (vs:=[Value.agg #[vS (a.1),vI (a.2.1),vI (a.2.2.1),vI (a.2.2.2.1),vI (a.2.2.2.2.1),vI (a.2.2.2.2.2)],Value.agg #[g,i],vI (m)]) (cs:=[]) Zk Z (Ga U g i y A D) Z (qB [0,1] Z) (λ_ _=>rfl)) Z λL=>iK Z<|iK Z<|aD Z<|aD Z<|aM<|aS<|bM<|aI<|aI<|bM<|aI ?_;cases h;exact mS () Z Z (RV.tmp Z) (RV.tmp Z) .nil aF.nil
     refine dX<|o_ ?_;exact cU () (()) h SF (aZ.ix [1,2,3] Z Z) (aF.refl _ _)
    have h:=ifN b h;by_cases d:k=(1:Int)
    ·have h:=QJ d h;refine aC (jG (cs:=[vI (2:Int),Value.func (.func 122) #[] #[]]) Z (bD (aE.res 0 Z) Ay) Ay (by rw[d];rfl) Z Z Z f) Z ?_;refine aG (aL.alloc (cs:=[vI (0:Int),Value.nilFunc]) Z Z) Z λJ=>bQ 0 (vs:=[vI (2:Int),Value.func (.func 122) #[] #[]]) Z Z Z Z Z Z<|aM<|aU<|bU Z<|dL 0 Z<|bU Z<|dL 3 Z<|cN Z<|aM ?_;refine fC h Z (λh=>?_) λh=>?_
     ·refine aU<|bU Z<|dL 0 Z<|fG 3 Z<|fG 2 Z<|aA Z<|fN h λB E h=>aG (uN (vs:=[Value.agg #[vS (a.1),vI (a.2.1),vI (a.2.2.1),vI (a.2.2.2.1),vI (a.2.2.2.2.1),vI (a.2.2.2.2.2)],Value.agg #[g,i],vI (m)]) (cs:=[]) Zm Z (Gc U g i y B E) Z (qB [0,1] Z) (λ_ _=>rfl)) Z λM=>iK Z<|iK Z<|aD Z<|aD Z<|aM<|aS<|bM<|aI<|aI<|bM<|aI ?_;cases h;exact mS () Z Z (RV.tmp Z) (RV.tmp Z) .nil aF.nil
     refine dX<|o_ ?_;exact cU () (()) h SF (aZ.ix [1,2,3] Z Z) (aF.refl _ _)
    have h:=ifN d h;have o:k=(2:Int):=by have q:=f;simp only[List.length_cons,List.length_nil]at q;omega
    refine aC (jG (cs:=[vI (3:Int),Value.func (.func 123) #[] #[]]) Z (bD (aE.res 0 Z) Ay) Ay (by rw[o];rfl) Z Z Z f) Z ?_;refine aG (aL.alloc (cs:=[vI (0:Int),Value.nilFunc]) Z Z) Z λK=>bQ 0 (vs:=[vI (3:Int),Value.func (.func 123) #[] #[]]) Z Z Z Z Z Z<|aM<|aU<|bU Z<|dL 0 Z<|bU Z<|dL 3 Z<|cN Z<|aM ?_;refine fC h Z (λh=>?_) λh=>?_
    ·refine aU<|bU Z<|dL 0 Z<|fG 3 Z<|fG 2 Z<|aA Z<|fN h λC F h=>aG (uN (vs:=[Value.agg #[vS (a.1),vI (a.2.1),vI (a.2.2.1),vI (a.2.2.2.1),vI (a.2.2.2.2.1),vI (a.2.2.2.2.2)],Value.agg #[g,i],vI (m)]) (cs:=[]) Zn Z (Ge U g i y C F) Z (qB [0,1] Z) (λ_ _=>rfl)) Z λN=>iK Z<|iK Z<|aD Z<|aD Z<|aM<|aS<|bM<|aI<|aI<|bM<|aI ?_;cases h;exact mS () Z Z (RV.tmp Z) (RV.tmp Z) .nil aF.nil
    refine dX<|o_ ?_;exact cU () (()) h SF (aZ.ix [1,2,3] Z Z) (aF.refl _ _)
   intro j n h;unfold lU at h;refine aR<|cP Z<|aA Z<|aM ?_;exact AT (wI .i64 (k+(1:Int))) () h SF Z
  refine gK ?_;exact cU () (()) h SF .nil (aF.refl _ _)
 intro s G h;unfold wT at h;refine aU<|aD Z<|aD Z<|aM<|aS ?_;cases h;exact mS () Z Z (RV.tmp Z) (RV.tmp Z) (aZ.refl _) aF.nil
def tK  (a:gE):Option (gE):=
 some (a)
def tM (b:Int×gE) (a:(Int×gE)->Option (gE)) (c:gE):Option (gE):=
 a ((wI .i64 (b.1+(1:Int))),c)
def nC (U:Nat) (d:Bc) (g:cQ) (b:Int×gE) (e:(Int×gE)->Option (gE)) (a:Int×gE) (f:(Int×gE)->Option (gE)):Option (gE):=
 if a.1<(List.length d.2.1:Int)then(ck (0<=a.1∧a.1<(List.length d.2.1:Int)) (ck (0<=b.1∧b.1<(List.length a.2:Int)) (ck (0<=b.1∧b.1<(List.length a.2:Int)) (Option.bind (jR U ((((at' d.2.1 a.1).1),((at' d.2.1 a.1).2.1),((at' d.2.1 a.1).2.2.1),((at' d.2.1 a.1).2.2.2.1),((at' d.2.1 a.1).2.2.2.2.1),((at' d.2.1 a.1).2.2.2.2.2))) ((g.1,g.2)) b.1) λc=>(ck (0<=a.1∧a.1<(List.length (at' a.2 b.1):Int)) (ck (0<=a.1∧a.1<(List.length (at' (List.set a.2 (Int.toNat b.1) (List.set (at' a.2 b.1) (Int.toNat a.1) (c.1,((at' (at' a.2 b.1) a.1).2)))) b.1):Int)) (f ((wI .i64 (a.1+(1:Int))),(List.set (List.set a.2 (Int.toNat b.1) (List.set (at' a.2 b.1) (Int.toNat a.1) (c.1,((at' (at' a.2 b.1) a.1).2)))) (Int.toNat b.1) (List.set (at' (List.set a.2 (Int.toNat b.1) (List.set (at' a.2 b.1) (Int.toNat a.1) (c.1,((at' (at' a.2 b.1) a.1).2)))) b.1) (Int.toNat a.1) (((at' (at' (List.set a.2 (Int.toNat b.1) (List.set (at' a.2 b.1) (Int.toNat a.1) (c.1,((at' (at' a.2 b.1) a.1).2)))) b.1) a.1).1),c.2)))))))))))else(tM b e (a.2))
def lH (U:Nat) (c:Bc) (d:cQ) (a:Int×gE) (b:(Int×gE)->Option (gE)):Option (gE):=
 if a.1<(List.length (List.replicate (Int.toNat (List.length d.1:Int)) ([]:eW)):Int)then(ck (0<=(List.length c.2.1:Int)∧(List.length c.2.1:Int)<=1099511627) (ck (0<=a.1∧a.1<(List.length a.2:Int)) (bK (nC U c d a b) U ((0:Int),(List.set a.2 (Int.toNat a.1) (List.replicate (Int.toNat (List.length c.2.1:Int)) ((0:Int),(0:Int))))))))else(tK  (a.2))
def mK (U:Nat) (b:Bc) (a:cQ):Option (gE):=
 ck (0<=(List.length a.1:Int)∧(List.length a.1:Int)<=1099511627) (bK (lH U b a) U ((0:Int),(List.replicate (Int.toNat (List.length a.1:Int)) ([]:eW))))
theorem VJ:aT Tryz.prog 67:=Tryz.call67
theorem Du (U:Nat) {d:Bc} {q:cQ} (v:Value)  (y:Value)  (A:Value)  (C:Value)  (z4:mZ) (r:gE) (h:mK U d q=some r):
  aY Tryz.prog 67 #[Value.agg #[vS (d.1),v,y],Value.agg #[A,C]] [Sl aQ v d.2.1,Sl aH y d.2.2,PF (Value.agg #[vS d.1,v,y]),Sl bP A q.1,S2 bA C z4 q.2] (λx:Kc=>x.1) (λx l=>Ar cO.raw x.1 x.2::kN bT x.2 r::l) (λ_ l=>l):=by
 refine aY.of Tryz.func67 Z Tryz.ntmps67 Z λc=>?_;refine aU<|aG (aL.box (cs:=[vS (d.1),v,y]) Z Z) Z λD=>aG (aL.box (cs:=[A,C]) Z Z) Z λE=>aD Z<|aM<|aU<|bU Z<|dL 0 Z<|kP (aE.fact 3 Z) Z<|dH h λj3 h=>jD (xT bT (Int.toNat (List.length q.1:Int)))<|aG (pM (e:=cO.raw) (lC) Z Z Z Z j3 Z Z Z) Z λu=>aD Z<|aM<|aJ<|Ei (B:=fM) (λF=>tK  F=some r) (λF H=>[(5,u)]) (λF H=>[Ar cO.raw u H,kN bT H F]) ?_ ?_
 ·refine aU<|aA Z<|aC (jW Z (bS (i:=0) (j:=1) Z Z bR) Z) Z<|aA Z<|aM<|aV<|e_ (B:=fM) (lH U d q) (λb m=>[(2,vP D),(3,vP E),(5,u),(14,vI (List.length (List.replicate (Int.toNat (List.length q.1:Int)) ([]:eW)):Int)),(15,vI (b.1))]) (λb m=>[Ar cO.raw u m,kN bT m b.2,bV E [A,C] 29,bV D [vS (d.1),v,y] 60]) ((0:Int),(List.replicate (Int.toNat (List.length q.1:Int)) ([]:eW))) (List.replicate (Int.toNat (List.length q.1:Int)) (lC)) h SF (aZ.refl _) ?_;intro S b m h;refine aU<|cX Z<|aM<|aJ ?_;refine fC h Z (λh=>?_) λh=>?_
  ·refine cV<|aJ<|Ei (B:=fM) (λp=>tM b (bK (lH U d q) S) p=some r) (λp s=>[(2,vP D),(3,vP E),(5,u),(14,vI (List.length (List.replicate (Int.toNat (List.length q.1:Int)) ([]:eW)):Int)),(15,vI (b.1))]) (λp s=>[Ar cO.raw u s,kN bT s p,bV E [A,C] 29,bV D [vS (d.1),v,y] 60]) ?_ ?_
   ·refine aV<|aU<|aA Z<|aD Z<|aM<|aU<|aA Z<|aA Z<|bU Z<|dL 3 Z<|kP (aE.fact 0 Z) Z<|dH h λT h=>aG (pM (e:=bT) (((0:Int),(0:Int))) Z Z Z Z T Z Z Z) Z λw=>dH h λt h=>aC (cL Z Z (bS (i:=1) (j:=2) Z Z bR) Z Z t) Z<|bX (Know.one ((bD (aE.res 0 Z) bR))) λO=>jD (wP (k:=b.1) 2 0 Z Z Z t) ?_;refine pK 0 1 ⟨t.1,by first|exact t.2|simpa using t.2⟩ Z Z Z Z Z (by simp) O Z ?_;refine aM<|aU<|bU Z<|dL 3 Z<|kP (aE.fact 0 Z) Z<|aA Z<|aM<|aV<|e_ (nC U d q b (bK (lH U d q) S)) (λa G=>[(2,vP D),(3,vP E),(5,u),(6,vI (b.1)),(14,vI (List.length (List.replicate (Int.toNat (List.length q.1:Int)) ([]:eW)):Int)),(15,vI (b.1)),(26,v),(27,vI (List.length d.2.1:Int)),(28,vI (a.1))]) (λa G=>[Ar cO.raw u (List.set m (Int.toNat b.1) w),kN bT (List.set m (Int.toNat b.1) w) a.2,bV E [A,C] 29,bV D [vS (d.1),v,y] 60]) ((0:Int),(List.set b.2 (Int.toNat b.1) (List.replicate (Int.toNat (List.length d.2.1:Int)) ((0:Int),(0:Int))))) () h SF (aZ.refl _) ?_;intro ac a G h;refine aU<|cX Z<|aM<|aJ ?_;refine fC h Z (λh=>?_) λh=>?_
    ·refine cV<|aJ<|aV<|aU<|aA Z<|dH h λP h=>aC (bB Z Z (aE.fact 0 Z) Z Z P) Z<|aC (jG (cs:=[vS ((at' d.2.1 a.1).1),vI ((at' d.2.1 a.1).2.1),vI ((at' d.2.1 a.1).2.2.1),vI ((at' d.2.1 a.1).2.2.2.1),vI ((at' d.2.1 a.1).2.2.2.2.1),vI ((at' d.2.1 a.1).2.2.2.2.2)]) Z (aE.fact 0 Z) g_ Z Z Z Z P) Z<|aG (aL.alloc (cs:=vD3) Z Z) Z λab=>aD Z<|bQ 0 (vs:=[vS ((at' d.2.1 a.1).1),vI ((at' d.2.1 a.1).2.1),vI ((at' d.2.1 a.1).2.2.1),vI ((at' d.2.1 a.1).2.2.2.1),vI ((at' d.2.1 a.1).2.2.2.2.1),vI ((at' d.2.1 a.1).2.2.2.2.2)]) Z Z Z Z Z Z<|aM ?_;refine JR.start [0,0,3,7,0,0,0,96,224,0,0,0,0,7168,15360,31744,31744,31,196095,458239,992,2097151,4194303] 21 mixedOrders (by decide +kernel) ?_;refine JR.open (by exact rfl) ?_;refine bG Z<|bG Z<|dH h λn h=>c_ (dA 2 Z) λI=>?_;refine bJ Z (aZ.cons 1 Z .nil) .nil (fD 0 Z Z Z Z Z n.1 (by have V:=n.2;have W:=I;(try simp only[List.length_set]at V);(try simp only[List.length_set]at W);(try simp only[List.length_set]);omega)) aK.z ?_;refine c_ (dA 2 Z) λJ=>bJ Z (aZ.cons 1 Z .nil) .nil (gW 0 Z Z J Z Z n) aK.z<|bG Z<|bG Z<|bG Z<|dH h λg h=>c_ (dA 2 Z) λK=>?_;refine bJ Z (aZ.cons 1 Z .nil) .nil (fD 0 Z Z Z Z Z g.1 (by have V:=g.2;have W:=K;(try simp only[List.length_set]at V);(try simp only[List.length_set]at W);(try simp only[List.length_set]);omega)) aK.z ?_;refine c_ (dA 2 Z) λL=>bJ Z (aZ.cons 1 Z .nil) .nil (gW 0 Z Z L Z Z g) aK.z<|bG Z<|pG 0 Z<|pG 3 Z<|bG Z<|fN h λf X h=>JR.loud Z Z Z (aL.callQ VN (Cv U A C z4 f X) Z (qB [3,4] Z)) Z (λY=>(uZ [([1],[]),([1],[]),([1],[]),([1],[])] Z)) λY=>iH Z (fZ Z)<|iH Z (lE Z Z)<|iH Z (lE Z Z)<|dH h λQ h=>c_ (Know.len (aE.row (j:=2) Z bR n.1 n.2)) λM=>iH Z (NJ Z Z M Z Z Q) ?_;refine iH Z (DN (i:=0) Z Z Z Z Z (by decide)) ?_;refine CO Z Z Z (zM (us:=[vI (f.1)]) (o:=0) (k:=b.1) 2 ((f.1,((at' (at' a.2 b.1) a.1).2))) ⟨n.1,by first|exact n.2|simpa using n.2⟩ Q Z Z Z Z Z Z Z Z Z Z) (λaa=>(uZ [] Z)) λaa=>dH h λR h=>c_ (Know.len (aE.row (j:=2) Z bR g.1 (by first|exact g.2|simpa using g.2))) λN=>?_;refine iH Z (NJ Z Z N Z Z R)<|bN 21 Z Z ?_;refine aC (DN (i:=1) Z Z Z Z Z (by decide)) Z ?_;refine LF (zM (us:=[vI (f.2)]) (o:=1) (k:=b.1) 2 ((((at' (at' (List.set a.2 (Int.toNat b.1) (List.set (at' a.2 b.1) (Int.toNat a.1) (f.1,((at' (at' a.2 b.1) a.1).2)))) b.1) a.1).1),f.2)) ⟨g.1,by first|exact g.2|simpa using g.2⟩ R Z Z Z Z Z Z Z Z Z Z) λad=>eR<|o_<|aR<|cP Z<|aA Z<|aM ?_;exact nM ((wI .i64 (a.1+(1:Int))),(List.set (List.set a.2 (Int.toNat b.1) (List.set (at' a.2 b.1) (Int.toNat a.1) (f.1,((at' (at' a.2 b.1) a.1).2)))) (Int.toNat b.1) (List.set (at' (List.set a.2 (Int.toNat b.1) (List.set (at' a.2 b.1) (Int.toNat a.1) (f.1,((at' (at' a.2 b.1) a.1).2)))) b.1) (Int.toNat a.1) (((at' (at' (List.set a.2 (Int.toNat b.1) (List.set (at' a.2 b.1) (Int.toNat a.1) (f.1,((at' (at' a.2 b.1) a.1).2)))) b.1) a.1).1),f.2)))) () h SF (aZ.ix [1,2,3,4] Z Z) (aF.refl _ _)
    refine u_<|gU<|gU<|Az<|o_ ?_;exact jP (a.2) (List.set m (Int.toNat b.1) w) h SF Z
   intro p s h;unfold tM at h;refine aR<|cP Z<|aA Z<|aM ?_;exact AT ((wI .i64 (b.1+(1:Int))),p) (s) h SF Z
  refine gK ?_;exact cU (b.2) (m) h SF (aZ.ix [0,1] Z Z) (aF.refl _ _)
 intro F H h;unfold tK at h;refine aU<|aA Z<|aD Z<|aM<|aS ?_;cases h;exact iI (u,H) Z Z (RV.tmp Z) (aZ.refl _) aF.nil
def vF  (a:Unit):Option (Int):=
 some (0:Int)
def oT (b:Int) (a:(Int)->Option (Int)) (c:Unit):Option (Int):=
 a (wI .i64 (b+(1:Int)))
def vG (b:Int) (a:(Int)->Option (Int)) (c:Bool):Option (Int):=
 if c=true then(some (9:Int))else(oT b a (()))
def l_ (U:Nat) (c:Bc) (e:cQ) (a:Int) (b:(Int)->Option (Int)):Option (Int):=
 if a<(List.length c.2.1:Int)then(ck (0<=a∧a<(List.length c.2.1:Int)) (if((at' c.2.1 a).2.1)≠(1:Int)then(oT a b (()))else(Option.bind (jR U ((((at' c.2.1 a).1),((at' c.2.1 a).2.1),((at' c.2.1 a).2.2.1),((at' c.2.1 a).2.2.2.1),((at' c.2.1 a).2.2.2.2.1),((at' c.2.1 a).2.2.2.2.2))) ((e.1,e.2)) (0:Int)) λd=>(if d.2<d.1 then(vG a b (true))else(vG a b (decide ((4096:Int)<(wI .i64 ((wI .i64 (d.2 - d.1))+(1:Int))))))))))else(vF  (()))
def sZ (U:Nat) (a:Bc) (b:cQ):Option (Int):=
 Option.bind (AZ U ((a.1,a.2.1,a.2.2))) λc=>(if(!c)=true then(some (8:Int))else(Option.bind (gQ U ((b.1,b.2))) λd=>(if(!d)=true then(some (1:Int))else(bK (l_ U a b) U (0:Int)))))
theorem acv:aT Tryz.prog 90:=Tryz.call90
theorem Kp (U:Nat) {b:Bc} {n:cQ} (g:Value)  (v:Value)  (i:Value)  (j:Value)  (y:mZ) (r:Int) (h:sZ U b n=some r):
  aY Tryz.prog 90 #[Value.agg #[vS (b.1),g,v],Value.agg #[i,j]] [Sl aQ g b.2.1,Sl aH v b.2.2,PF (Value.agg #[vS b.1,g,v]),Sl bP i n.1,S2 bA j y n.2] (λx:Unit=>vI (r)) (λx l=>l) (λ_ l=>l):=by
 refine aY.of Tryz.func90 Z Tryz.ntmps90 Z λc=>?_;refine aU<|aG (aL.box (cs:=[vS (b.1),g,v]) Z Z) Z λF=>aG (aL.box (cs:=[i,j]) Z Z) Z λm=>aD Z<|aM<|aJ<|aU<|fG 1 Z<|fN h λA C h=>aG (aL.callQ RO (Kt U g v A C) Z (qB [0,1,2] Z)) Z λG=>aC (sV Z) Z<|aM ?_;refine Bm h Z (λ_ h=>?_) λ_ h=>?_
 ·refine aU<|aD Z<|aM<|aS<|aI ?_;cases h;exact vZ Z
 refine cV<|aJ<|aU<|fG 0 Z<|fN h λB D h=>aG (aL.callQ Mb (xN U i j y B D) Z (qB [3,4] Z)) Z λH=>aC (sV Z) Z<|aM ?_;refine Bm h Z (λ_ h=>?_) λ_ h=>?_
 ·refine aU<|aD Z<|aM<|aS<|aI ?_;cases h;exact vZ Z
 refine cV<|aJ<|fF (λe=>vF  e=some r) (λe o=>[]) (λe o=>[]) ?_ ?_
 ·refine aU<|bU Z<|dL 1 Z<|kP (aE.fact 0 Z) Z<|aA Z<|aM<|aV<|e_ (l_ U b n) (λa p=>[(3,vP m),(16,g),(17,vI (List.length b.2.1:Int)),(18,vI (a))]) (λa p=>[bV m [i,j] 29]) (0:Int) () h SF (aZ.ix [0] Z Z) ?_;intro u a p h;refine aU<|cX Z<|aM<|aJ ?_;refine fC h Z (λh=>?_) λh=>?_
  ·refine cV<|aJ<|fF (λf=>oT a (bK (l_ U b n) u) f=some r) (λf q=>[(3,vP m),(16,g),(17,vI (List.length b.2.1:Int)),(18,vI (a))]) (λf q=>[bV m [i,j] 29]) ?_ ?_
   ·refine aV<|aU<|dH h λt h=>aC (bB Z Z (aE.fact 0 Z) Z Z t) Z<|aC (jG (cs:=[vS ((at' b.2.1 a).1),vI ((at' b.2.1 a).2.1),vI ((at' b.2.1 a).2.2.1),vI ((at' b.2.1 a).2.2.2.1),vI ((at' b.2.1 a).2.2.2.2.1),vI ((at' b.2.1 a).2.2.2.2.2)]) Z (aE.fact 0 Z) g_ Z Z Z Z t) Z<|aG (aL.alloc (cs:=vD3) Z Z) Z λz=>bQ 0 (vs:=[vS ((at' b.2.1 a).1),vI ((at' b.2.1 a).2.1),vI ((at' b.2.1 a).2.2.1),vI ((at' b.2.1 a).2.2.2.1),vI ((at' b.2.1 a).2.2.2.2.1),vI ((at' b.2.1 a).2.2.2.2.2)]) Z Z Z Z Z Z<|aM<|aJ<|aU<|bU Z<|dL 0 Z<|pI Z<|aM ?_;refine fC h Z (λh=>?_) λh=>?_
    ·refine u_<|gU<|Az<|AA ?_;exact cU () (()) h SF (aZ.ix [1] Z Z) (aF.refl _ _)
    refine cV<|aU<|fG 0 Z<|fG 1 Z<|fN h λk w h=>aG (aL.callQ VN (Cv U i j y k w) Z (qB [3,4] Z)) Z λE=>aA Z<|iK Z<|iK Z<|aD Z<|aD Z<|aM<|aJ<|fF (λd=>vG a (bK (l_ U b n) u) d=some r) (λd s=>[(3,vP m),(16,g),(17,vI (List.length b.2.1:Int)),(18,vI (a)),(40,vB (d))]) (λd s=>[bV m [i,j] 29]) ?_ ?_
    ·refine aR<|aA Z<|aA Z<|cX Z<|aA Z ?_;refine EN h Z (λ_ h=>?_) λ_ h=>?_
     ·refine aN Z<|aN Z<|aN Z<|aN Z<|aN Z<|fK Z<|aM ?_;exact cU (true) () h SF (aZ.ix [1] Z Z) (aF.refl _ _)
     refine eX Z<|eX Z<|aW Z (nW Z Z) Z<|aW Z (uD Z Z) Z<|aW Z (wL Z Z) Z<|iL Z<|aM ?_;exact cU (decide ((4096:Int)<(wI .i64 ((wI .i64 (k.2 - k.1))+(1:Int))))) () h SF (aZ.ix [1] Z Z) (aF.refl _ _)
    intro d s h;refine Bm h Z (λ_ h=>?_) λ_ h=>?_
    ·refine aU<|aD Z<|aM<|aS<|bM<|aI<|aI<|bM<|aI ?_;cases h;exact vZ Z
    refine dX<|o_ ?_;exact jP () (()) h SF Z
   intro f q h;unfold oT at h;refine aR<|cP Z<|aA Z<|aM ?_;exact AT (wI .i64 (a+(1:Int))) () h SF Z
  refine gK ?_;exact cU () (()) h SF .nil (aF.refl _ _)
 intro e o h;unfold vF at h;refine aU<|aD Z<|aM<|aS ?_;cases h;exact lI Z
def tU  (a:Unit):Option (Bool):=
 some (true)
def tV (c:Int) (b:(Int)->Option (Bool)) (a:Bool):Option (Bool):=
 if a=true then(some (false))else(b (wI .i64 (c+(1:Int))))
def nG (c:eW) (d:aP) (a:Int) (b:(Int)->Option (Bool)):Option (Bool):=
 if a<(List.length d:Int)then(ck (0<=a∧a<(List.length d:Int)) (ck (0<=a∧a<(List.length c:Int)) (if(at' d a)<((at' c a).1)then(tV a b (true))else(ck (0<=a∧a<(List.length c:Int)) (tV a b (decide (((at' c a).2)<(at' d a))))))))else(tU  (()))
def vQ (U:Nat) (a:eW) (b:aP):Option (Bool):=
 if(List.length b:Int)≠(List.length a:Int)then(some (false))else(bK (nG a b) U (0:Int))
theorem Zj:aT Tryz.prog 119:=Tryz.call119
theorem JV (U:Nat) {k:eW} {d:aP} (n:Value)  (o:Value) (r:Bool) (h:vQ U k d=some r):
  aY Tryz.prog 119 #[n,o] [Sl bA n k,Sl bP o d] (λx:Unit=>vB (r)) (λx l=>l) (λ_ l=>l):=by
 refine aY.of Tryz.func119 Z Tryz.ntmps119 Z λc=>?_;refine aU<|aD Z<|aM<|aJ<|aU<|aA Z<|kP (aE.fact 1 Z) Z<|aA Z<|kP (aE.fact 0 Z) Z<|pI Z<|aM ?_;refine fC h Z (λh=>?_) λh=>?_
 ·refine aU<|aD Z<|aM<|aS<|aI ?_;cases h;exact lI Z
 refine cV<|aJ<|fF (λm=>tU  m=some r) (λm p=>[]) (λm p=>[]) ?_ ?_
 ·refine aU<|aA Z<|kP (aE.fact 1 Z) Z<|aA Z<|aM<|aV<|e_ (nG k d) (λb q=>[(0,n),(12,o),(13,vI (List.length d:Int)),(14,vI (b))]) (λb q=>[]) (0:Int) () h SF (aZ.refl _) ?_;intro s b q h;refine aU<|cX Z<|aM<|aJ ?_;refine fC h Z (λh=>?_) λh=>?_
  ·refine cV<|aJ<|aV<|aU<|aA Z<|dH h λf h=>aC (bB Z Z (aE.fact 1 Z) Z Z f) Z<|aC (bY Z (aE.fact 1 Z) Z Z Z dJ f) Z<|aD Z<|aD Z<|aM<|aJ<|fF (λa=>tV b (bK (nG k d) s) a=some r) (λa e=>[(0,n),(12,o),(13,vI (List.length d:Int)),(14,vI (b)),(34,vB (a))]) (λa e=>[]) ?_ ?_
   ·refine aR<|aA Z<|aA Z<|aA Z<|dH h λg h=>aC (bB Z Z (aE.fact 0 Z) Z Z g) Z ?_;refine aC (DN (i:=0) Z Z Z Z Z (by decide)) Z ?_;refine aC (qM Z (aE.fact 0 Z) Z Z Z BA g) Z<|cX Z<|aA Z ?_;refine EN h Z (λ_ h=>?_) λ_ h=>?_
    ·refine aN Z<|aN Z<|aN Z<|aN Z<|aN Z<|aN Z<|aN Z<|fK Z<|aM ?_;exact jP (true) () h SF Z
    refine eX Z<|eX Z<|eX Z<|dH h λj h=>aW Z (bB Z Z (aE.fact 0 Z) Z Z j) Z ?_;refine aW Z (DN (i:=1) Z Z Z Z Z (by decide)) Z ?_;refine aW Z (qM Z (aE.fact 0 Z) Z Z Z Qa j) Z<|aW Z (wL Z Z) Z<|iL Z<|aM ?_;exact jP (decide (((at' k b).2)<(at' d b))) () h SF Z
   intro a e h;refine Bm h Z (λ_ h=>?_) λ_ h=>?_
   ·refine aU<|aD Z<|aM<|aS<|bM<|aI<|aI<|bM<|aI ?_;cases h;exact lI Z
   refine dX<|o_<|aR<|cP Z<|aA Z<|aM ?_;exact AT (wI .i64 (b+(1:Int))) () h SF Z
  refine gK ?_;exact jP () (()) h SF Z
 intro m p h;unfold tU at h;refine aU<|aD Z<|aM<|aS ?_;cases h;exact lI Z
def rZ  (a:Unit):Option (Bool):=
 some (true)
def pB (U:Nat) (c:gE) (e:bI) (a:Int) (b:(Int)->Option (Bool)):Option (Bool):=
 if a<(List.length c:Int)then(ck (0<=a∧a<(List.length c:Int)) (ck (0<=a∧a<(List.length e:Int)) (Option.bind (vQ U (at' c a) (at' e a)) λd=>(if(!d)=true then(some (false))else(b (wI .i64 (a+(1:Int))))))))else(rZ  (()))
def tT (U:Nat) (a:gE) (b:bI):Option (Bool):=
 if(List.length b:Int)≠(List.length a:Int)then(some (false))else(bK (pB U a b) U (0:Int))
theorem acw:aT Tryz.prog 91:=Tryz.call91
theorem HS (U:Nat) {f:gE} {g:bI} (j:Value)  (p:mZ)  (k:Value)  (q:sD) (r:Bool) (h:tT U f g=some r):
  aY Tryz.prog 91 #[j,k] [S2 bA j p f,S2 bP k q g] (λx:Unit=>vB (r)) (λx l=>l) (λ_ l=>l):=by
 refine aY.of Tryz.func91 Z Tryz.ntmps91 Z λc=>?_;refine aU<|aD Z<|aM<|aJ<|aU<|aA Z<|aC (jW Z (aE.fact 1 Z) Z) Z<|aA Z<|aC (jW Z (aE.fact 0 Z) Z) Z<|pI Z<|aM ?_;refine fC h Z (λh=>?_) λh=>?_
 ·refine aU<|aD Z<|aM<|aS<|aI ?_;cases h;exact lI Z
 refine cV<|aJ<|fF (λe=>rZ  e=some r) (λe n=>[]) (λe n=>[]) ?_ ?_
 ·refine aU<|aA Z<|aC (jW Z (aE.fact 0 Z) Z) Z<|aA Z<|aM<|aV<|e_ (pB U f g) (λd o=>[(1,k),(12,j),(13,vI (List.length f:Int)),(14,vI (d))]) (λd o=>[]) (0:Int) () h SF (aZ.refl _) ?_;intro t d o h;refine aU<|cX Z<|aM<|aJ ?_;refine fC h Z (λh=>?_) λh=>?_
  ·refine cV<|aJ<|aV<|aU<|aA Z<|dH h λa h=>aC (cL Z Z (aE.fact 0 Z) Z Z a) Z<|aC (cT Z (aE.fact 0 Z) Z Z a) Z<|aD Z<|aD Z<|aM<|aU<|aA Z<|aA Z<|aA Z<|dH h λb h=>aC (cL Z Z (aE.fact 1 Z) Z Z b) Z<|aC (cT Z (aE.fact 1 Z) Z Z b) Z<|fN h λi m h=>aG (aL.callQ Zj (JV U ((at' p d).1) ((at' q d).1) i m) Z (aF.cons (aE.el (aE.fact 0 Z) a.1 a.2) (aF.cons (aE.el (aE.fact 1 Z) b.1 b.2) .nil))) Z λs=>aC (sV Z) Z<|aM ?_;refine Bm h Z (λ_ h=>?_) λ_ h=>?_
   ·refine aU<|aD Z<|aM<|aS<|bM<|aI<|aI<|bM<|aI ?_;cases h;exact lI Z
   refine dX<|o_<|aR<|cP Z<|aA Z<|aM ?_;exact AT (wI .i64 (d+(1:Int))) () h SF Z
  refine gK ?_;exact jP () (()) h SF Z
 intro e n h;unfold rZ at h;refine aU<|aD Z<|aM<|aS ?_;cases h;exact lI Z
def rB (U:Nat) (a:Bc) (b:cQ) (e:bI):Option (Int):=
 Option.bind (sZ U ((a.1,a.2.1,a.2.2)) ((b.1,b.2))) λd=>(if d≠(0:Int)then(some (d))else(Option.bind (mK U ((a.1,a.2.1,a.2.2)) ((b.1,b.2))) λf=>(Option.bind (tT U f e) λc=>(if(!c)=true then(some (10:Int))else(some (0:Int))))))
theorem acj:aT Tryz.prog 65:=Tryz.call65
theorem JU (U:Nat) {a:Bc} {g:cQ} {p:bI} (b:Value)  (d:Value)  (e:Value)  (f:Value)  (o:mZ)  (m:Value)  (t:sD) (r:Int) (h:rB U a g p=some r):
  aY Tryz.prog 65 #[Value.agg #[vS (a.1),b,d],Value.agg #[e,f],m] [Sl aQ b a.2.1,Sl aH d a.2.2,PF (Value.agg #[vS a.1,b,d]),Sl bP e g.1,S2 bA f o g.2,S2 bP m t p] (λx:Unit=>vI (r)) (λx l=>l) (λ_ l=>l):=by
 refine aY.of Tryz.func65 Z Tryz.ntmps65 Z λc=>?_;refine aU<|aG (aL.box (cs:=[vS (a.1),b,d]) Z Z) Z λz=>aG (aL.box (cs:=[e,f]) Z Z) Z λA=>aD Z<|aM<|aJ<|aU<|fG 1 Z<|fG 0 Z<|fN h λu v h=>aG (aL.callQ acv (Kp U b d e f o u v) Z (qB [0,1,2,3,4] Z)) Z λB=>aD Z<|aM<|aU<|aA Z<|pI Z<|aM ?_;refine fC h Z (λh=>?_) λh=>?_
 ·refine aU<|aA Z<|aD Z<|aM<|aS<|aI ?_;cases h;exact vZ Z
 refine cV<|aJ<|aU<|fG 1 Z<|fG 0 Z<|fN h λq w h=>aG (aL.callQ VJ (Du U b d e f o q w) Z (qB [0,1,2,3,4] Z)) Z λs=>aA Z<|fN h λk n h=>aG (aL.callQ acw (HS U s.1 (List.zip s.2 q) m t k n) Z (aF.cons (bS (i:=0) (j:=1) Z Z bR) (qB [5] Z))) Z λy=>aC (sV Z) Z<|aM ?_;refine Bm h Z (λ_ h=>?_) λ_ h=>?_
 ·refine aU<|aD Z<|aM<|aS<|aI ?_;cases h;exact vZ Z
 refine cV<|aU<|aD Z<|aM<|aS ?_;cases h;exact vZ Z
def vW  (a:bI):Option bI:=
 some (a)
def rE (c:bI) (a:Int×bI) (b:(Int×bI)->Option bI):Option bI:=
 if a.1<(List.length c:Int)then(ck (0<=a.1∧a.1<(List.length c:Int)) (ck ((List.length ([]:aP):Int)+(List.length (at' c a.1):Int)<=1099511627) (ck (0<=a.1∧a.1<(List.length a.2:Int)) (b ((wI .i64 (a.1+(1:Int))),(List.set a.2 (Int.toNat a.1) (([]:aP)++(at' c a.1))))))))else(vW  (a.2))
def lS (U:Nat) (a:bI):Option bI:=
 ck (0<=(List.length a:Int)∧(List.length a:Int)<=1099511627) (bK (rE a) U ((0:Int),(List.replicate (Int.toNat (List.length a:Int)) ([]:aP))))
theorem Ma:aT Tryz.prog 53:=Tryz.call53
theorem xO (U:Nat) {g:bI} (t:Value)  (w:sD) (r:bI) (h:lS U g=some r):
  aY Tryz.prog 53 #[t] [S2 bP t w g] (λx:Kc=>x.1) (λx l=>Ar cO.raw x.1 x.2::kN b_ x.2 r::l) (λ_ l=>l):=by
 refine aY.of Tryz.func53 Z Tryz.ntmps53 Z λc=>?_;refine aU<|aD Z<|aM<|aU<|aA Z<|aC (jW Z (aE.fact 0 Z) Z) Z<|dH h λu h=>jD (xT b_ (Int.toNat (List.length g:Int)))<|aG (pM (e:=cO.raw) (lC) Z Z Z Z u Z Z Z) Z λp=>aD Z<|aM<|aJ<|Ei (B:=fM) (λm=>vW  m=some r) (λm n=>[(3,p)]) (λm n=>[Ar cO.raw p n,kN b_ n m]) ?_ ?_
 ·refine aU<|aA Z<|aC (jW Z (aE.fact 0 Z) Z) Z<|aA Z<|aM<|aV<|e_ (B:=fM) (rE g) (λa b=>[(3,p),(9,t),(10,vI (List.length g:Int)),(11,vI (a.1))]) (λa b=>[Ar cO.raw p b,kN b_ b a.2]) ((0:Int),(List.replicate (Int.toNat (List.length g:Int)) ([]:aP))) (List.replicate (Int.toNat (List.length g:Int)) (lC)) h SF (aZ.refl _) ?_;intro v a b h;refine aU<|cX Z<|aM<|aJ ?_;refine fC h Z (λh=>?_) λh=>?_
  ·refine cV<|aJ<|aV<|aU<|aA Z<|dH h λf h=>aC (cL Z Z (aE.fact 0 Z) Z Z f) Z<|aC (cT Z (aE.fact 0 Z) Z Z f) Z<|aD Z<|aD Z<|aM<|aR<|aA Z<|aA Z<|aA Z<|jD (iC b_)<|dH h λq h=>aG (eJ 0 cZ Z Z Z (aE.el (aE.fact 0 Z) f.1 f.2) Z Z Z Z q Z) Z λs=>dH h λd h=>aC (cL Z Z (bS (i:=1) (j:=2) Z Z cZ) Z Z d) Z<|bX (Know.one ((bD (aE.res 0 Z) cZ))) λo=>jD (wP (k:=a.1) 2 0 Z Z Z d) ?_;refine pK 0 1 ⟨d.1,by first|exact d.2|simpa using d.2⟩ Z Z Z Z Z (by simp) o Z ?_;refine eR<|o_<|aR<|cP Z<|aA Z<|aM ?_;exact AT ((wI .i64 (a.1+(1:Int))),(List.set a.2 (Int.toNat a.1) (([]:aP)++(at' g a.1)))) (List.set b (Int.toNat a.1) s) h SF Z
  refine gK ?_;exact jP (a.2) (b) h SF Z
 intro m n h;unfold vW at h;refine aU<|aA Z<|aD Z<|aM<|aS ?_;cases h;exact iI (p,n) Z Z (RV.tmp Z) (aZ.refl _) aF.nil
end Go.Proofs.YtmdlcmbplnhdnaaGreatDoor
namespace Go.Proofs.YtmdlcmbplnhdnaaGreatDoor
open Go Go.Sx
abbrev sU:=ByteArray×(List CG)×(List wJ)
structure sI (g:GR) (vars:List CG):Prop where
 len:vars.length<=20
 small:∀x,x<vars.length->CS (at' vars (x:Int))
 kind:∀x,x<vars.length->(at' vars (x:Int)).2.1=1∨(at' vars (x:Int)).2.1=2∨(at' vars (x:Int)).2.1=3
 range:∀x,x<vars.length->(at' vars (x:Int)).2.1=1 -> -100000<=lo g (at' vars (x:Int)) 0∧lo g (at' vars (x:Int)) 0<=hi g (at' vars (x:Int)) 0∧hi g (at' vars (x:Int)) 0 - lo g (at' vars (x:Int)) 0+1<=4096
theorem adh {g:GR} (a:VG g):zF 1000 g.1=some (jT g g.1.length):=by
 have d:=a.n24;have b:=a.len;have h:=a.n1;have f:0<=at' g.1 ((0:Nat):Int):=(a.node 0 (by omega)).id.1;unfold zF;rw[if_neg (by omega),cC (by omega)];have:=eO (step:=tC g.1) (K:=some (jT g g.1.length)) (g.1.length - 1) (λk=>(jT g (k+1),((k+1:Nat):Int))) (λk c i=>by
  unfold tC;dsimp only;rw[if_pos (by omega),cC (by omega),dZ (by omega)];rfl) (λc=>by
  unfold tC xL;dsimp only;rw[if_neg (by omega),show g.1.length - 1+1=g.1.length by omega]) 1000 (by omega)
 have e:jT g (0+1)=at' g.1 (0:Int):=by
  show max (jT g 0) (at' g.1 ((0:Nat):Int))=_;simp only[jT];have:at' g.1 ((0:Nat):Int)=at' g.1 (0:Int):=rfl;omega
 rw[e]at this;exact this
theorem KC {g:GR} (c:VG g) {x:CG} (o:CS x) (n:x.2.1=1∨x.2.1=2∨x.2.1=3) {v:Nat} (p:v<g.2.length):jR 1000 x g (v:Int)=some (lo g x v,hi g x v):=by
 obtain⟨⟨B,C⟩,⟨r,s⟩,t,u⟩:=o;have l:=c.n24;have d:=c.len;have e:=JA c g.1.length (by omega);have w:0<=x.2.2.2.2.1*(g.1.length:Int):=Int.mul_nonneg r (by omega);have y:x.2.2.2.2.1*(g.1.length:Int)<=100000*24:=Int.mul_le_mul s (by omega) (by omega) (by omega);have z:0<=x.2.2.2.2.2*jT g g.1.length:=Int.mul_nonneg t e.1;have A:x.2.2.2.2.2*jT g g.1.length<=100000*255:=Int.mul_le_mul u e.2 e.1 (by omega);have i:nR 1000 x g (v:Int)=some (x.2.2.1,x.2.2.2.1+x.2.2.2.2.1*(g.2.length:Int)+x.2.2.2.2.2*jT g g.1.length):=by
  unfold nR;rw[bF (adh c),wr (x:=x.2.2.2.2.1*_) (by omega) (by omega),wr (x:=x.2.2.2.2.2*_) (by omega) (by omega),wr (x:=x.2.2.2.1+_) (by omega) (by omega),wr (by omega) (by omega),d]
 have j:nS 1000 x g (v:Int)=some (-1,((row g v).length:Int) - 1):=by
  have k:=(c.node v p).deg;unfold nS;rw[cC (by omega)];show some ((-1:Int),wI .i64 (((row g v).length:Int) - 1))=_;rw[wr (by omega) (by omega)]
 have q:∀(f:Nat) (a:Int),bK (eB 1000 x g (v:Int)) (f+1) a=eB 1000 x g (v:Int) a (bK (eB 1000 x g (v:Int)) f):=λf a=>rfl;have b:∀(f:Nat) (a:Int),a=0∨a=1∨a=2->bK (eB 1000 x g (v:Int)) (f+1) a=if a=0 then(if 1=x.2.1 then nR 1000 x g (v:Int)else bK (eB 1000 x g (v:Int)) f 1)else if a=1 then(if 2=x.2.1 then qN 1000 x g (v:Int)else bK (eB 1000 x g (v:Int)) f 2)else(if 3=x.2.1 then nS 1000 x g (v:Int)else bK (eB 1000 x g (v:Int)) f 3):=by
  intro f a m;rw[q];generalize bK (eB 1000 x g (v:Int)) f=G;unfold eB lU;rcases m with rfl|rfl|rfl
  ·rw[if_pos (by decide),cC (by decide),if_pos Z,if_pos Z];split
   ·rw[i];rfl
   ·rfl
  ·rw[if_pos (by decide),cC (by decide),if_neg (show¬(1:Int)=0 by decide),if_pos Z,if_neg (show¬(1:Int)=0 by decide),if_pos Z];split
   ·rfl
   ·rfl
  ·rw[if_pos (by decide),cC (by decide),if_neg (show¬(2:Int)=0 by decide),if_neg (show¬(2:Int)=1 by decide),if_neg (show¬(2:Int)=0 by decide),if_neg (show¬(2:Int)=1 by decide)];split
   ·rw[j];rfl
   ·rfl
 unfold jR lo hi;rcases n with h|h|h
 ·rw[b 999 0 (.inl Z),if_pos Z,if_pos h.symm,i,h,if_neg (by decide),if_neg (by decide),if_neg (by decide),if_neg (by decide)]
 ·rw[b 999 0 (.inl Z),if_pos Z,if_neg (by omega),b 998 1 (.inr (.inl Z)),if_neg (by decide),if_pos Z,if_pos h.symm,h,if_pos Z,if_pos Z];rfl
 ·rw[b 999 0 (.inl Z),if_pos Z,if_neg (by omega),b 998 1 (.inr (.inl Z)),if_neg (by decide),if_pos Z,if_neg (by omega),b 997 2 (.inr (.inr Z)),if_neg (by decide),if_neg (by decide),if_pos h.symm,j,h,if_neg (by decide),if_pos Z,if_neg (by decide),if_pos Z]
def lR (g:GR) (a:List CG) (v x:Nat):fH:=(lo g (at' a (x:Int)) v,hi g (at' a (x:Int)) v)
def Ej (g:GR) (a:List CG) (v:Nat):eW:=(List.range a.length).map (lR g a v)
def Cn (g:GR) (a:List CG):gE:=(List.range g.2.length).map (Ej g a)
theorem lA {a:Type} [Inhabited a] (f:Nat->a) {n k:Nat} (h:k<n):at' ((List.range n).map f) (k:Int)=f k:=by
 rw[kV (by simpa using h)];simp
theorem xJ {a:Type} (f:Nat->a) (z:a) (n k:Nat) (h:k<n):((List.range k).map f++List.replicate (n - k) z).set k (f k)=(List.range (k+1)).map f++List.replicate (n - (k+1)) z:=by
 rw[show n - k=(n - (k+1))+1 by omega,List.replicate_succ,List.set_append_right _ _ (by simp),List.range_succ];simp
theorem Pm {g:GR} (m:VG g) {p:sU} (n:sI g p.2.1):mK 1000 p g=some (Cn g p.2.1):=by
 have s:=m.n24;have d:=m.len;have w:=n.len;let a:=p.2.1;let Q:Nat->gE:=λk=>(List.range k).map (Ej g a)++List.replicate (g.2.length - k) [];have c:∀k,k<=g.2.length->(Q k).length=g.2.length:=λk f=>by simp[Q];omega
 let R:Nat->Nat->eW:=λk j=>(List.range j).map (lR g a k)++List.replicate (a.length - j) (0,0);have l:∀k j,j<=a.length->(R k j).length=a.length:=λk j b=>by simp[R];omega
 unfold mK;rw[cC (by omega)];rw[show List.replicate (Int.toNat (g.1.length:Int)) ([]:eW)=Q 0 by simp[Q,d]];refine eO (step:=lH 1000 p g) (K:=some (Cn g a)) g.2.length (λk=>((k:Int),Q k)) (λk e f=> ?_) (λe=> ?_) 1000 (by omega)
 ·unfold lH;dsimp only;rw[if_pos (by simp;omega),cC (by omega),cC (by rw[c k (by omega)];omega)];refine Eq.trans (?_:_=bK (nC 1000 p g ((k:Int),Q k) e) 1000 ((0:Int),(Q k).set k (R k 0))) ?_
  ·rw[Int.toNat_natCast,Int.toNat_natCast];simp[R,a]
  refine eO (step:=nC 1000 p g ((k:Int),Q k) e) (K:=e (((k+1:Nat):Int),Q (k+1))) a.length (λj=>((j:Int),(Q k).set k (R k j))) (λj h b=> ?_) (λh=> ?_) 1000 (by show p.2.1.length<1000;omega)
  ·have u:j<p.2.1.length:=b;have t:=KC m (n.small j b) (n.kind j b) f;have v:k<(Q k).length:=by rw[c k (by omega)];exact f
   have o:∀X:eW,at' ((Q k).set k X) (k:Int)=X:=λX=>by rw[sL _ _ _ _ v,if_pos Z]
   have i:j<(R k j).length:=by rw[l k j (by omega)];exact b
   unfold nC;dsimp only;rw[if_pos (by omega),cC (by omega),cC (by simp only[List.length_set];omega),cC (by simp only[List.length_set];omega),bF (show jR 1000 _ g (k:Int)=_ from t),Int.toNat_natCast,Int.toNat_natCast];simp only[o,List.set_set];rw[cC (by omega),cC (by simp only[List.length_set];omega),dZ (by omega)];have:(R k j).set j (lo g (at' p.2.1 (j:Int)) k,hi g (at' p.2.1 (j:Int)) k)=R k (j+1):=xJ (lR g a k) (0,0) a.length j b;rw[sL _ _ _ _ i,if_pos Z];dsimp only;rw[this]
  ·unfold nC tM;dsimp only;rw[if_neg (show¬((a.length:Nat):Int)<(p.2.1.length:Int)from Int.lt_irrefl _),dZ (by omega)];have q:R k a.length=Ej g a k:=by simp[R,Ej]
   have r:(Q k).set k (Ej g a k)=Q (k+1):=xJ (Ej g a) [] g.2.length k f;rw[q,r]
 ·unfold lH tK;dsimp only;rw[if_neg (by simp;omega)];simp[Q,Cn]
theorem ZU {g:GR} (c:VG g) {p:sU} (b:sI g p.2.1):sZ 1000 p g=some 0:=by
 have i:=c.n1;have h:=b.len;unfold sZ;rw[bF (show AZ 1000 _=some true from rfl),if_neg (by decide),bF (show gQ 1000 g=some true from(UA g).1 c),if_neg (by decide)];refine eO (step:=l_ 1000 p g) (K:=some 0) p.2.1.length (λk=>(k:Int)) (λk e d=> ?_) (λe=> ?_) 1000 (by omega)
 ·unfold l_ oT vG oT;rw[if_pos (by omega),cC (by omega),dZ (by omega)];by_cases a:(at' p.2.1 (k:Int)).2.1=1
  ·obtain⟨j,l,m⟩:=b.range k d a;have f:=KC c (b.small k d) (b.kind k d) (v:=0) (by omega);rw[if_neg (by simpa using a),bF (show jR 1000 _ g (0:Int)=_ from f)];dsimp only;rw[if_neg (by omega),wr (x:=hi g (at' p.2.1 (k:Int)) 0 - lo g (at' p.2.1 (k:Int)) 0) (by omega) (by omega),wr (by omega) (by omega),if_neg (by rw[decide_eq_true_eq];omega)]
  ·rw[if_pos a]
 ·unfold l_ vF;rw[if_neg (by omega)]
theorem XR {g:GR} {a:List CG} (i:a.length<=20) {v:Nat} {l:aP} (c:l.length=a.length) (d:∀x,x<a.length->lo g (at' a (x:Int)) v<=at' l (x:Int)∧at' l (x:Int)<=hi g (at' a (x:Int)) v):vQ 1000 (Ej g a v) l=some true:=by
 have f:(Ej g a v).length=a.length:=by simp[Ej]
 unfold vQ;rw[if_neg (by rw[f,c];simp)];refine eO (step:=nG (Ej g a v) l) (K:=some true) l.length (λk=>(k:Int)) (λk b h=> ?_) (λb=> ?_) 1000 (by omega)
 ·have e:at' (Ej g a v) (k:Int)=lR g a v k:=lA _ (by omega);have:=d k (by omega);unfold nG tV;rw[if_pos (by omega),cC (by omega),cC (by omega),e];rw[if_neg (show¬at' l (k:Int)<(lR g a v k).1 from Int.not_lt.2 this.1),cC (by omega),if_neg (by rw[decide_eq_true_eq];exact Int.not_lt.2 this.2),dZ (by omega)]
 ·unfold nG tU;rw[if_neg (by omega)]
theorem VR {g:GR} (a:VG g) {p:sU} (f:sI g p.2.1) {c:bI} (b:Au g c p.2.1):rB 1000 p g c=some 0:=by
 have i:=a.n24;have l:(Cn g p.2.1).length=g.2.length:=by simp[Cn]
 have d:=b.len;unfold rB;rw[bF (show sZ 1000 _ _=some 0 from ZU a f),if_neg (by decide),bF (show mK 1000 _ _=_ from Pm a f)];have:tT 1000 (Cn g p.2.1) c=some true:=by
  unfold tT;rw[if_neg (by rw[l,d];simp)];refine eO (step:=pB 1000 (Cn g p.2.1) c) (K:=some true) g.2.length (λk=>(k:Int)) (λk h e=> ?_) (λh=> ?_) 1000 (by omega)
  ·have j:at' (Cn g p.2.1) (k:Int)=Ej g p.2.1 k:=lA _ e;unfold pB;rw[if_pos (by omega),cC (by omega),cC (by omega),j,bF (XR f.len (b.row k e) (b.ok k e)),if_neg (by decide),dZ (by omega)]
  ·unfold pB rZ;rw[if_neg (by omega)]
 rw[bF this,if_neg (by decide)]
theorem Sc (c:bI) (h:c.length<=900) (e:∀v,v<c.length->(at' c (v:Int)).length<=1000):lS 1000 c=some c:=by
 unfold lS;rw[cC (by omega)];let Q:Nat->bI:=λk=>(List.range k).map (λv:Nat=>at' c (v:Int))++List.replicate (c.length - k) [];rw[show List.replicate (Int.toNat (c.length:Int)) ([]:aP)=Q 0 by simp[Q]];refine eO (step:=rE c) (K:=some c) c.length (λk=>((k:Int),Q k)) (λk b a=> ?_) (λb=> ?_) 1000 (by omega)
 ·have g:(Q k).length=c.length:=by simp[Q];omega
  have:=e k a;unfold rE;dsimp only;rw[if_pos (by omega),cC (by omega),cC (by simp;omega),cC (by omega),dZ (by omega),Int.toNat_natCast,List.nil_append];have:(Q k).set k (at' c (k:Int))=Q (k+1):=xJ (λv:Nat=>at' c (v:Int)) [] c.length k a;rw[this]
 ·unfold rE vW;dsimp only;rw[if_neg (by omega)];congr 1;refine List.ext_getElem (by simp[Q]) λi f d=> ?_;simp[Q,kV d]
def UE (x:Int):Int:=max (-1073741824) (min x 1073741824)
def unD (o x:Int):Int:=if o=18 then wI .i64 (0 - x)else zO (decide (x=0))
def aaz (a b:Int):Int:=if b=0 then 0 else if Int.tmod a b≠0∧((decide (a<0)) != (decide (b<0)))=true then wI .i64 (wI .i64 (Int.tdiv a b) - 1)else wI .i64 (Int.tdiv a b)
def acD (o x y:Int):Bool:=if o=35 then decide (x=y)else if o=36 then decide (x≠y)else if o=37 then decide (x<y)else if o=38 then decide (x<=y)else if o=39 then decide (y<x)else decide (y<=x)
def biD (o x y:Int):Int:=
 if o=30 then UE (wI .i64 (x*y))else if o=31 then UE (aaz x y)else if o=32 then(if y=0 then 0 else UE (wI .i64 (x - wI .i64 (y*aaz x y))))else if o=33 then UE (wI .i64 (x+y))else if o=34 then UE (wI .i64 (x - y))
 else if o=41 then zO (decide (x≠0)&&decide (y≠0))else if o=42 then zO (decide (x≠0)||decide (y≠0))else zO (acD o x y)
theorem Yb (f:Nat) (o x:Int):zE f o x=some (unD o x):=by
 unfold zE unD;split
 ·rfl
 ·rw[bF (tE f _)]
theorem XD (f:Nat) (a b:Int):qC f a b=some (aaz a b):=by
 unfold qC aaz;by_cases c:b=0
 ·rw[if_pos c,if_pos c]
 ·rw[if_neg c,if_neg c,cC c,cC c];by_cases d:Int.tmod a b=0
  ·rw[if_neg (by simpa using d),if_neg (by simp[d])];rfl
  ·rw[if_pos d];unfold rW oW;by_cases e:((decide (a<0)) != (decide (b<0)))=true
   ·rw[if_pos e,if_pos ⟨d,e⟩]
   ·rw[if_neg e,if_neg (λq=>e q.2)]
theorem acE (f:Nat) (o x y:Int):tS f o x y=some (acD o x y):=by
 unfold tS acD
 repeat' split
 all_goals rfl
theorem TH (f:Nat) (o x y:Int):xH f o x y=some (biD o x y):=by
 unfold xH biD;by_cases h:o=30
 ·rw[if_pos h,if_pos h];rfl
 rw[if_neg h,if_neg h];by_cases h:o=31
 ·rw[if_pos h,if_pos h,bF (XD f x y)];rfl
 rw[if_neg h,if_neg h];by_cases h:o=32
 ·rw[if_pos h,if_pos h];by_cases b:y=0
  ·rw[if_pos b,if_pos b]
  ·rw[if_neg b,if_neg b,bF (XD f x y)];rfl
 rw[if_neg h,if_neg h];by_cases h:o=33
 ·rw[if_pos h,if_pos h];rfl
 rw[if_neg h,if_neg h];by_cases h:o=34
 ·rw[if_pos h,if_pos h];rfl
 rw[if_neg h,if_neg h];by_cases h:o=41
 ·rw[if_pos h,if_pos h];by_cases a:x=0
  ·rw[if_neg (by simpa using a),bF (tE f _)];simp[a,oU]
  ·rw[if_pos a,bF (tE f _)];simp[a,oU]
 rw[if_neg h,if_neg h];by_cases h:o=42
 ·rw[if_pos h,if_pos h];by_cases a:x=0
  ·rw[if_neg (by simpa using a),bF (tE f _)];simp[a,oV]
  ·rw[if_pos a,bF (tE f _)];simp[a,oV]
 rw[if_neg h,if_neg h,bF (acE f o x y),bF (tE f _)]
def E.den (L:Int->Int->Int->Int) (b:Nat):E->Int->Int
 |lf o a,p=>L o a p
 |un o x,p=>unD o (x.den L b p)
 |ag o x,_=>Sk o ((List.range b).map λq=>x.den L b ((q:Nat):Int))
 |bi o x y,p=>biD o (x.den L b p) (y.den L b p)
 |ite x y z,p=>if x.den L b p≠0 then y.den L b p else z.den L b p
def E.wf (c:Nat):Bool->E->Bool
 |b,lf o a=>decide (1<=o)&&decide (o<=17)&&(b||decide (o<=10))&&((decide (o≠5)&&decide (o≠12))||(decide (0<=a)&&decide (a<(c:Int))))
 |b,un o x=>decide (18<=o)&&decide (o<=19)&&x.wf c b
 |_,ag o x=>(decide (o=20)||decide (o=21)||decide (o=22)||decide (o=23)||decide (o=24)||decide (o=26)||decide (o=27))&&x.wf c true
 |b,bi o x y=>decide (30<=o)&&decide (o<=42)&&x.wf c b&&y.wf c b
 |b,ite x y z=>x.wf c b&&y.wf c b&&z.wf c b
theorem Yy {i:Nat}:∀{e:E} {b:Bool},e.wf i b=true->e.arOk=true:=by
 intro e
 induction e with
 |lf o a=>intro b h;simp[E.wf,E.arOk]at h ⊢;omega
 |un o x f=>intro b h;simp[E.wf,E.arOk]at h ⊢;exact⟨h.1,f h.2⟩
 |ag o x f=>intro b h;simp[E.wf,E.arOk]at h ⊢;exact⟨by omega,f h.2⟩
 |bi o x y c d=>intro b h;simp[E.wf,E.arOk]at h ⊢;exact⟨⟨h.1.1,c h.1.2⟩,d h.2⟩
 |ite x y z c d g=>intro b h;simp[E.wf,E.arOk]at h ⊢;exact⟨⟨c h.1.1,d h.1.2⟩,g h.2⟩
def Xk (W:WLK) (p:Int):Int:=(at' (at' W.1.2.1.2 W.2.2.1) p).1
def W_ (W:WLK) (o a p:Int):Int:=
 if o=1 then a else if o=2 then 1 else if o=3 then 0 else if o=4 then -1 else if o=5 then at' (at' W.2.1 W.2.2.1) a else if o=12 then at' (at' W.2.1 (Xk W p)) a
 else if o=6 then(W.1.2.1.1.length:Int)else if o=7 then W.1.2.2.1 else if o=8 then at' W.1.2.1.1 W.2.2.1 else if o=9 then((at' W.1.2.1.2 W.2.2.1).length:Int)else if o=10 then zO (decide (W.2.2.1=0))else if o=11 then p
 else if o=13 then at' W.1.2.1.1 (Xk W p)else if o=14 then((at' W.1.2.1.2 (Xk W p)).length:Int)else if o=15 then zO (decide (Xk W p=0))else if o=16 then(at' (at' W.1.2.1.2 W.2.2.1) p).2 else at' (at' W.1.2.2.2 W.2.2.1) p
structure WOk (W:WLK) (nv n v:Nat):Prop where
 node:W.2.2.1=(v:Int)
 lt:v<n
 ports:W.1.2.1.2.length=n
 ids:W.1.2.1.1.length=n
 c:W.2.1.length=n
 row:∀u:Nat,u<n->(at' W.2.1 (u:Int)).length=nv
 to:∀u:Nat,u<n->∀i:Nat,i<(at' W.1.2.1.2 (u:Int)).length->0<=(at' (at' W.1.2.1.2 (u:Int)) (i:Int)).1∧(at' (at' W.1.2.1.2 (u:Int)) (i:Int)).1<(n:Int)
 bl:W.1.2.2.2.length=n
 br:∀u:Nat,u<n->(at' W.1.2.2.2 (u:Int)).length=(at' W.1.2.1.2 (u:Int)).length
def Vd (b:Bool) (a:Nat) (p:Int):Prop:=b=true->∃q:Nat,p=(q:Int)∧q<a
theorem aak {W:WLK} {k n v:Nat} (h:WOk W k n v) (f:Nat) {b:Bool} {o a p:Int} (s:(E.lf o a).wf k b=true) (r:Vd b (at' W.1.2.1.2 (v:Int)).length p):lM f W (o,a) p=some (W_ W o a p):=by
 obtain⟨y,c,A,B,C,l,m,F,w⟩:=h;simp only[E.wf,Bool.and_eq_true,Bool.or_eq_true,decide_eq_true_eq]at s;obtain⟨⟨⟨G,H⟩,d⟩,I⟩:=s;have z:(at' W.2.1 (v:Int)).length=k:=l v c;unfold lM W_ Xk;dsimp only;rw[y];by_cases e:o=1
 ·simp only[if_pos e]
 simp only[if_neg e];by_cases e:o=2
 ·simp only[if_pos e]
 simp only[if_neg e];by_cases e:o=3
 ·simp only[if_pos e]
 simp only[if_neg e];by_cases e:o=4
 ·simp only[if_pos e]
 simp only[if_neg e];by_cases e:o=5
 ·simp only[if_pos e];rw[cC (by omega),cC (by omega)]
 simp only[if_neg e];by_cases e:o=12
 ·have i:b=true:=by
   rcases d with d|d
   ·exact d
   ·omega
  obtain⟨q,rfl,j⟩:=r i;have g:=m v c q j;obtain⟨u,x⟩:∃u:Nat,(at' (at' W.1.2.1.2 (v:Int)) (q:Int)).1=(u:Int):=⟨_,(Int.toNat_of_nonneg g.1).symm⟩
  simp only[if_pos e];rw[x]at g ⊢;have D:=l u (by omega);rw[cC (by omega),cC (by omega),cC (by omega),cC (by omega)]
 simp only[if_neg e];unfold qZ;dsimp only;by_cases e:o=6
 ·simp only[if_pos e];rfl
 simp only[if_neg e];by_cases e:o=7
 ·simp only[if_pos e];rfl
 simp only[if_neg e];by_cases e:o=8
 ·simp only[if_pos e];rw[cC (by omega)];rfl
 simp only[if_neg e];by_cases e:o=9
 ·simp only[if_pos e];rw[cC (by omega)];rfl
 simp only[if_neg e];by_cases e:o=10
 ·simp only[if_pos e];rw[bF (tE f _)];rfl
 simp only[if_neg e];by_cases e:o=11
 ·simp only[if_pos e];rfl
 simp only[if_neg e];have i:b=true:=by
  rcases d with d|d
  ·exact d
  ·omega
 obtain⟨q,rfl,j⟩:=r i;have g:=m v c q j;rw[cC (by omega),cC (by omega)];by_cases e:o=13
 ·simp only[if_pos e];rw[cC (by omega)];rfl
 simp only[if_neg e];by_cases e:o=14
 ·simp only[if_pos e];rw[cC (by omega)];rfl
 simp only[if_neg e];by_cases e:o=15
 ·simp only[if_pos e];rw[bF (tE f _)];rfl
 simp only[if_neg e];by_cases e:o=16
 ·simp only[if_pos e];rfl
 simp only[if_neg e];have t:=w v c;rw[cC (by omega),cC (by omega)];rfl
theorem Yq {W:WLK} {nv n v:Nat} (h:WOk W nv n v) {deg:Nat} (m:(at' W.1.2.1.2 (v:Int)).length=deg) (L:deg<=24) (S:W.2.2.2.length<=800):
  ∀(e:E) (b:Bool) (c k:Nat) (p:Int) (g d:eW),W.2.2.2=g++(e.ts++d)->g.length=k->e.wf nv b=true->Vd b deg p->e.depth+850<=c->
   bO c W (k:Int) p=some (e.den (W_ W) deg p,(((k+e.ts.length:Nat)):Int)):=by
 obtain⟨Q,ab,h1,h2,h3,h4,h5,_,_⟩:=id h;have i:∀{t:fH} {l g d:eW} {k:Nat},W.2.2.2=g++((t::l)++d)->g.length=k->at' W.2.2.2 (k:Int)=t∧(k:Int)<(W.2.2.2.length:Int):=by
  intro t l g d k j r;refine⟨RJ (rest:=l++d) (by simpa using j) r,?_⟩
  rw[j];simp;omega
 intro e
 induction e with
 |lf o a=>
  intro b c k p g d j r u w B;obtain⟨c,rfl⟩:∃f,c=f+1:=⟨c - 1,by omega⟩
  obtain⟨A,s⟩:=i (l:=[]) j r;show cR (bO c) c W (k:Int) p=_;unfold cR;rw[cC ⟨by omega,s⟩,A];dsimp only;have X:=u;simp only[E.wf,Bool.and_eq_true,Bool.or_eq_true,decide_eq_true_eq]at X;have hl:=aak h c u (m▸w);rw[if_pos (by omega),bF (show lM c _ (o,a) p=some (W_ W o a p)from hl),dZ (by omega)];rfl
 |un o x ih=>
  intro b c k p g d j r u w B;obtain⟨c,rfl⟩:∃f,c=f+1:=⟨c - 1,by omega⟩
  obtain⟨A,s⟩:=i (l:=x.ts) j r;show cR (bO c) c W (k:Int) p=_;unfold cR;rw[cC ⟨by omega,s⟩,A];dsimp only;simp only[E.wf,Bool.and_eq_true,decide_eq_true_eq]at u;simp only[E.depth]at B;have F:=ih b c (k+1) p (g++[(o,0)]) d (by rw[j];simp[E.ts]) (by simp[r]) u.2 w (by omega);rw[if_neg (by omega),if_pos (by omega),dZ (by omega),bF (show bO c _ _ p=_ from F),bF (Yb c _ _)];simp only[E.den,E.ts,List.length_cons];rw[show k+1+x.ts.length=k+(x.ts.length+1) by omega]
 |bi o x y G H=>
  intro b c k p g d j r u w B;obtain⟨c,rfl⟩:∃f,c=f+1:=⟨c - 1,by omega⟩
  obtain⟨A,s⟩:=i (l:=x.ts++y.ts) j r;show cR (bO c) c W (k:Int) p=_;unfold cR;rw[cC ⟨by omega,s⟩,A];dsimp only;simp only[E.wf,Bool.and_eq_true,decide_eq_true_eq]at u;simp only[E.depth]at B;have F:=G b c (k+1) p (g++[(o,0)]) (y.ts++d) (by rw[j];simp[E.ts]) (by simp[r]) u.1.2 w (by omega);have Y:=H b c (k+1+x.ts.length) p (g++(o,0)::x.ts) d (by rw[j];simp[E.ts]) (by simp[r];omega) u.2 w (by omega);rw[if_neg (by omega),if_neg (by omega),if_neg (by omega),if_pos (by omega),dZ (by omega),bF (show bO c _ _ p=_ from F),bF (show bO c _ _ p=_ from Y),bF (TH c _ _ _)];simp only[E.den,E.ts,List.length_cons,List.length_append];rw[show k+1+x.ts.length+y.ts.length=k+(x.ts.length+y.ts.length+1) by omega]
 |ite x y z G H aa=>
  intro b c k p g d j r u w B;obtain⟨c,rfl⟩:∃f,c=f+1:=⟨c - 1,by omega⟩
  obtain⟨A,s⟩:=i (l:=x.ts++(y.ts++z.ts)) j r;show cR (bO c) c W (k:Int) p=_;unfold cR;rw[cC ⟨by omega,s⟩,A];dsimp only;simp only[E.wf,Bool.and_eq_true]at u;simp only[E.depth]at B;have F:=G b c (k+1) p (g++[(43,0)]) (y.ts++z.ts++d) (by rw[j];simp[E.ts]) (by simp[r]) u.1.1 w (by omega);have Y:=H b c (k+1+x.ts.length) p (g++(43,0)::x.ts) (z.ts++d) (by rw[j];simp[E.ts]) (by simp[r];omega) u.1.2 w (by omega);have hz:=aa b c (k+1+x.ts.length+y.ts.length) p (g++(43,0)::(x.ts++y.ts)) d (by rw[j];simp[E.ts]) (by simp[r];omega) u.2 w (by omega);rw[if_neg (by decide),if_neg (by decide),if_neg (by decide),if_neg (by decide),dZ (by omega),bF (show bO c _ _ p=_ from F),bF (show bO c _ _ p=_ from Y),bF (show bO c _ _ p=_ from hz)];simp only[E.den,E.ts,List.length_cons,List.length_append];rw[show k+1+x.ts.length+y.ts.length+z.ts.length=k+(x.ts.length+(y.ts.length+z.ts.length)+1) by omega];split<;>rfl
 | ag o x ih =>
  intro b c k p g d j r u w B;obtain⟨c,rfl⟩:∃f,c=f+1:=⟨c - 1,by omega⟩
  obtain⟨A,s⟩:=i (l:=x.ts) j r;have T:=Yy u;have R:=u;simp only[E.wf,Bool.and_eq_true,Bool.or_eq_true,decide_eq_true_eq]at R;simp only[E.depth]at B;have P:(E.ag o x).ts.length=x.ts.length+1:=rfl;have M:=congrArg List.length j;simp only[List.length_append]at M;show cR (bO c) c W (k:Int) p=_;unfold cR;rw[cC ⟨by omega,s⟩,A];dsimp only;rw[if_neg (by omega),if_neg (by omega),if_pos (by omega),cC (by omega)];let D:Nat->Int:=λq=>x.den (W_ W) deg ((q:Nat):Int);let V:Nat->aP:=λq=>(List.range q).map D++List.replicate (24 - q) 0;have J:∀q,q<=24->(V q).length=24:=λq U=>by simp[V];omega
  have O:∀q,q<24->(V q).set q (D q)=V (q+1):=λq U=>by
   show((List.range q).map D++List.replicate (24 - q) 0).set q (D q)=(List.range (q+1)).map D++List.replicate (24 - (q+1)) 0;rw[show 24 - q=(24 - (q+1))+1 by omega,List.replicate_succ,List.set_append_right _ _ (by simp),List.range_succ];simp
  let N:Nat->Int:=λq=>if q=0 then 0 else(((k+1+x.ts.length:Nat)):Int)
  refine Eq.trans (eO (step:=kA c W (k:Int) (bO c)) (K:=some ((E.ag o x).den (W_ W) deg p,(((k+(E.ag o x).ts.length:Nat)):Int))) deg (λq=>(N q,(q:Int),V q)) (λq ag U=> ?_) (λag=> ?_) c (by omega)) Z
  ·unfold kA;dsimp only;have F:=ih true c (k+1) ((q:Nat):Int) (g++[(o,0)]) d (by rw[j];simp[E.ts]) (by simp[r]) R.2 (λ_=>⟨q,rfl,U⟩) (by omega);rw[if_pos (by rw[Q,m];omega),dZ (by omega),bF (show bO c _ _ _=_ from F),cC ⟨by omega,J q (by omega)⟩,dZ (by omega),Int.toNat_natCast];show ag (_,_,(V q).set q (D q))=_;rw[O q (by omega)];simp only[N];rw[if_neg (by omega)]
  ·unfold kA;dsimp only;rw[if_neg (by rw[Q,m];omega)];have C:List.take deg (V deg)=(List.range deg).map D:=by
    show List.take deg ((List.range deg).map D++_)=_;exact List.take_left' (by simp)
   have I:∀y:Int,y=(((k+1+x.ts.length:Nat)):Int)->j_ c W (k:Int) (N deg,V deg) y=some ((E.ag o x).den (W_ W) deg p,(((k+(E.ag o x).ts.length:Nat)):Int)):=by
    rintro y rfl;unfold j_;dsimp only;rw[Q,m,cC ⟨by omega,by omega,by rw[J deg L];omega⟩,A,Int.toNat_natCast,C,bF (ZV c o _ (by omega) (by simp;omega) (by omega))];unfold mT;rw[P,show k+1+x.ts.length=k+(x.ts.length+1) by omega];rfl
   unfold qL;dsimp only;by_cases h0:deg=0
   ·rw[if_pos (by rw[Q,m];omega),bF (acL c (E.ag o x) T j r S (by omega))];exact I _ (by rw[P];omega)
   ·rw[if_neg (by rw[Q,m];omega)];exact I _ (by simp only[N];rw[if_neg h0])
end Go.Proofs.YtmdlcmbplnhdnaaGreatDoor
namespace Go.Proofs.YtmdlcmbplnhdnaaGreatDoor
open Go.Sx
def fP (U:Nat) (a:Uy) (b:bI) (c:Int) (d:eW):Option (Int):=
 Option.bind (bO U ((((((a.1.1,a.1.2.1,a.1.2.2)),((a.2.1.1,a.2.1.2)),a.2.2.1,a.2.2.2)),b,c,d)) (0:Int) (-1:Int)) λe=>(some (e.1))
theorem RP:aT Tryz.prog 124:=Tryz.call124
theorem wM (U:Nat) {d:Uy} {s:bI} {f:Int} {t:eW} (a:Nat)  (m:Value)  (n:Value)  (o:Value)  (p:Value)  (u:mZ)  (q:Value)  (v:sD)  (e:Value)  (y:sD)  (b:Value) (r:Int) (h:fP U d s f t=some r):
  aY Tryz.prog 124 #[vP a,e,vI (f),b] [bV a [vS (d.1.1),m,n,o,p,vI (d.2.2.1),q] 137,Sl aQ m d.1.2.1,Sl aH n d.1.2.2,Sl bP o d.2.1.1,S2 bA p u d.2.1.2,S2 bP q v d.2.2.2,S2 bP e y s,Sl bA b t] (λx:Unit=>vI (r)) (λx l=>l) (λ_ l=>l):=by
 refine aY.of Tryz.func124 Z Tryz.ntmps124 Z λc=>?_;refine aU<|aD Z<|aM<|aU<|aA Z<|aA Z<|aA Z<|aA Z<|bX (Know.one (aE.sl (aE.fact 6 Z))) λg=>bX (Know.one ((aE.fact 7 Z))) λi=>?_;refine aC (abM (r:=Value.agg #[Value.pointer (some ⟨a,0,none⟩),e,vI (f),b]) Z Z Z Z (by intro w;simp[Instr.build,Instr.fill,eL,dU,dC,eM,eN,dV,f_,fJ g,fJ i])) Z ?_;refine aG (aL.alloc (cs:=[Value.pointer none,lC,vI (0:Int),lC]) Z Z) Z λz=>bX (Know.one (aE.sl (aE.fact 6 Z))) λj=>bX (Know.one ((aE.fact 7 Z))) λk=>bQ 0 (vs:=[vP a,e,vI (f),b]) Z Z (kR Z (kR j (kR Z (kR k Z)))) Z Z Z<|aM<|aU<|fN h λA B h=>aG (aL.callQ AC (Dq U z a m n o p u q v e y b A B) Z (aF.cons (aE.res 0 Z) (qB [0,1,2,3,4,5,6,7] Z))) Z λC=>aA Z<|iK Z<|iK Z<|aD Z<|aD Z<|aM<|aU<|aA Z<|aD Z<|aM<|aS ?_;cases h;exact vZ Z
def kE (U:Nat) (a:Uy) (c:bI) (d:Int) (b:Int):Option (Bool):=
 ck (0<=b∧b<(List.length a.1.2.2:Int)) (Option.bind (fP U ((((a.1.1,a.1.2.1,a.1.2.2)),((a.2.1.1,a.2.1.2)),a.2.2.1,a.2.2.2)) c d ((at' a.1.2.2 b).2.1.2)) λe=>(some (decide (e≠(0:Int)))))
theorem acy:aT Tryz.prog 94:=Tryz.call94
theorem CJ (U:Nat) {a:Uy} {n:bI} {o:Int} {e:Int} (b:Nat)  (f:Value)  (g:Value)  (i:Value)  (j:Value)  (p:mZ)  (k:Value)  (q:sD)  (m:Value)  (s:sD) (r:Bool) (h:kE U a n o e=some r):
  aY Tryz.prog 94 #[vP b,m,vI (o),vI (e)] [bV b [vS (a.1.1),f,g,i,j,vI (a.2.2.1),k] 137,Sl aQ f a.1.2.1,Sl aH g a.1.2.2,Sl bP i a.2.1.1,S2 bA j p a.2.1.2,S2 bP k q a.2.2.2,S2 bP m s n] (λx:Unit=>vB (r)) (λx l=>l) (λ_ l=>l):=by
 refine aY.of Tryz.func94 Z Tryz.ntmps94 Z λc=>?_;refine aU<|aD Z<|aM<|aU<|aA Z<|aA Z<|aA Z<|aA Z<|aC (bW Z) Z<|bU Z<|bU Z<|aC (dB Z (aE.fact 0 Z) Z Z Z) Z<|aA Z<|dH h λd h=>aC (bB Z Z (aE.fact 2 Z) Z Z d) Z<|aC (oL Z Z Z Z Z) Z<|aC (qM Z (aE.fact 2 Z) Z Z Z yW d) Z<|fN h λt u h=>aG (aL.callQ RP (wM U b f g i j p k q m s ((at' a.1.2.2 e).2.1.1) t u) Z (aF.cons (aE.fact 0 Z) (aF.cons (aE.fact 1 Z) (aF.cons (aE.fact 2 Z) (aF.cons (aE.fact 3 Z) (aF.cons (aE.fact 4 Z) (aF.cons (aE.fact 5 Z) (aF.cons (aE.fact 6 Z) (aF.cons (uM (aE.fact 2 Z) yY d.1 d.2) .nil))))))))) Z λv=>pI Z<|aD Z<|aM<|aS ?_;cases h;exact lI Z
def mV  (a:Unit):Option (Int):=
 some (-1:Int)
def kC (U:Nat) (a:Hh) (d:bI) (e:Int) (b:Int) (c:(Int)->Option (Int)):Option (Int):=
 if b<(List.length a.1.2.2:Int)then(Option.bind (kE U ((((a.2.1.1.1,a.2.1.1.2.1,a.2.1.1.2.2)),((a.2.1.2.1.1,a.2.1.2.1.2)),a.2.1.2.2.1,a.2.1.2.2.2)) d e b) λf=>(if f=true then(some (b))else(c (wI .i64 (b+(1:Int))))))else(mV  (()))
def eF (U:Nat) (a:Hh) (b:bI) (c:Int):Option (Int):=
 bK (kC U a b c) U (0:Int)
theorem VK:aT Tryz.prog 70:=Tryz.call70
theorem x_ (U:Nat) {a:Hh} {n:bI} {m:Int} (d:Nat)  (z:Value)  (A:Value)  (e:Nat)  (o:Value)  (p:Value)  (q:Value)  (s:Value)  (B:mZ)  (t:Value)  (g:sD)  (f:Value)  (v:mZ)  (b:Value)  (i:sD) (r:Int) (h:eF U a n m=some r):
  aY Tryz.prog 70 #[vP d,b,vI (m)] [bV d [vS (a.1.1),z,A,vP e,f] 108,Sl aQ z a.1.2.1,Sl aH A a.1.2.2,bV e [vS (a.2.1.1.1),o,p,q,s,vI (a.2.1.2.2.1),t] 137,Sl aQ o a.2.1.1.2.1,Sl aH p a.2.1.1.2.2,Sl bP q a.2.1.2.1.1,S2 bA s B a.2.1.2.1.2,S2 bP t g a.2.1.2.2.2,S2 bA f v a.2.2,S2 bP b i n] (λx:Unit=>vI (r)) (λx l=>l) (λ_ l=>l):=by
 refine aY.of Tryz.func70 Z Tryz.ntmps70 Z λc=>?_;unfold eF at h;refine aU<|aD Z<|aM<|aJ<|fF (λj=>mV  j=some r) (λj w=>[]) (λj w=>[]) ?_ ?_
 ·refine aU<|aA Z<|aC (bW Z) Z<|bU Z<|bU Z<|aC (dB Z (aE.fact 0 Z) Z Z Z) Z<|kP (aE.fact 2 Z) Z<|aA Z<|aM<|aV<|e_ (kC U a n m) (λk y=>[(0,vP d),(1,b),(2,vI (m)),(13,vI (List.length a.1.2.2:Int)),(14,vI (k))]) (λk y=>[]) (0:Int) () h SF (aZ.refl _) ?_;intro E k y h;refine aU<|cX Z<|aM<|aJ ?_;refine fC h Z (λh=>?_) λh=>?_
  ·refine cV<|aJ<|aV<|aU<|aA Z<|aD Z<|aM<|aU<|aA Z<|aC (bW Z) Z<|bU Z<|aC (dB Z (aE.fact 0 Z) Z Z Z) Z<|aA Z<|aA Z<|aA Z<|fN h λC u h=>aG (aL.callQ acy (CJ U e o p q s B t g b i C u) Z (qB [3,4,5,6,7,8,10] Z)) Z λD=>aM ?_;refine Bm h Z (λ_ h=>?_) λ_ h=>?_
   ·refine aU<|aA Z<|aD Z<|aM<|aS<|bM<|aI<|aI<|bM<|aI ?_;cases h;exact lI Z
   refine dX<|o_<|aR<|cP Z<|aA Z<|aM ?_;exact AT (wI .i64 (k+(1:Int))) () h SF Z
  refine gK ?_;exact jP () (()) h SF Z
 intro j w h;unfold mV at h;refine aU<|aD Z<|aM<|aS ?_;cases h;exact lI Z
def tJ (d:Int) (a:fH) (b:Int) (c:Bool):Option (Int):=
 if c=true then(some (b))else(if d=(3:Int)then(some (-1:Int))else(if b<a.1 then(some (a.1))else(some (a.2))))
def vN (U:Nat) (c:Int) (a:fH) (b:Int):Option (Int):=
 if a.1<=b then(tJ c a b (decide (b<=a.2)))else(tJ c a b (false))
theorem Zt:aT Tryz.prog 164:=Tryz.call164
theorem JQ (U:Nat) {e:Int} {a:fH} {d:Int} (r:Int) (h:vN U e a d=some r):
  aY Tryz.prog 164 #[vI (e),Value.agg #[vI (a.1),vI (a.2)],vI (d)] [] (λx:Unit=>vI (r)) (λx l=>l) (λ_ l=>l):=by
 refine aY.of Tryz.func164 Z Tryz.ntmps164 Z λc=>?_;refine aU<|aG (aL.box (cs:=[vI (a.1),vI (a.2)]) Z Z) Z λf=>aD Z<|aM<|aJ<|aV<|aJ<|fF (λb=>tJ e a d b=some r) (λb g=>[(0,vI (e)),(2,vI (d)),(4,vP f),(7,vB (b))]) (λb g=>[bV f [vI (a.1),vI (a.2)] 141]) ?_ ?_
 ·refine aR<|aA Z ?_;refine aC (nV (i:=0) Z Z Z Z Z (by decide)) Z ?_;refine dL 0 Z<|aC (Hn Z Z) Z<|aA Z ?_;refine EN h Z (λ_ h=>?_) λ_ h=>?_
  ·refine eX Z ?_;refine aW Z (nV (i:=1) Z Z Z Z Z (by decide)) Z ?_;refine aW Z (gV 0 Z Z Z Z Z) Z<|aW Z (Cr Z Z) Z<|fK Z<|aD Z<|aM ?_;exact jP (decide (d<=a.2)) () h SF Z
  refine aN Z<|aN Z<|aN Z<|aN Z<|iL Z<|aD Z<|aM ?_;exact jP (false) () h SF Z
 intro b g h;refine Bm h Z (λ_ h=>?_) λ_ h=>?_
 ·refine aU<|aA Z<|aD Z<|aM<|aS<|bM<|aI ?_;cases h;exact vZ Z
 refine aU<|aA Z<|cN Z<|aD Z<|aM ?_;refine fC h Z (λh=>?_) λh=>?_
 ·refine aU<|aD Z<|aM<|aS<|bM<|aI ?_;cases h;exact vZ Z
 refine aU<|aA Z ?_;refine aC (nV (i:=0) Z Z Z Z Z (by decide)) Z ?_;refine dL 0 Z<|cX Z<|aD Z<|aM ?_;refine fC h Z (λh=>?_) λh=>?_
 ·refine aU ?_;refine aC (nV (i:=0) Z Z Z Z Z (by decide)) Z ?_;refine dL 0 Z<|aD Z<|aM<|aS<|bM<|aI ?_;cases h;exact vZ Z
 refine dX<|o_<|aU ?_;refine aC (nV (i:=1) Z Z Z Z Z (by decide)) Z ?_;refine dL 0 Z<|aD Z<|aM<|aS ?_;cases h;exact vZ Z
def mU  (a:aP):Option aP:=
 some (a)
def kB (U:Nat) (b:Hh) (h:bI) (d:Int) (c:Int) (a:kG) (e:qD->Option aP):Option aP:=
 if a.1<(List.length ((at' b.1.2.2 c).2.2.2):Int)then(ck (0<=a.1∧a.1<(List.length ((at' b.1.2.2 c).2.2.2):Int)) (Option.bind (fP U ((((b.2.1.1.1,b.2.1.1.2.1,b.2.1.1.2.2)),((b.2.1.2.1.1,b.2.1.2.1.2)),b.2.1.2.2.1,b.2.1.2.2.2)) h d ((at' ((at' b.1.2.2 c).2.2.2) a.1).2.2)) λf=>(ck (0<=((at' ((at' b.1.2.2 c).2.2.2) a.1).1)∧((at' ((at' b.1.2.2 c).2.2.2) a.1).1)<(List.length b.1.2.1:Int)) (ck (0<=d∧d<(List.length b.2.2:Int)) (ck (0<=((at' ((at' b.1.2.2 c).2.2.2) a.1).1)∧((at' ((at' b.1.2.2 c).2.2.2) a.1).1)<(List.length (at' b.2.2 d):Int)) (Option.bind (vN U ((at' b.1.2.1 ((at' ((at' b.1.2.2 c).2.2.2) a.1).1)).2.1) ((((at' (at' b.2.2 d) ((at' ((at' b.1.2.2 c).2.2.2) a.1).1)).1),((at' (at' b.2.2 d) ((at' ((at' b.1.2.2 c).2.2.2) a.1).1)).2))) f) λg=>(ck (0<=((at' ((at' b.1.2.2 c).2.2.2) a.1).1)∧((at' ((at' b.1.2.2 c).2.2.2) a.1).1)<(List.length a.2:Int)) (e ((wI .i64 (a.1+(1:Int))),(List.set a.2 (Int.toNat ((at' ((at' b.1.2.2 c).2.2.2) a.1).1)) g))))))))))else(mU  (a.2))
def kZ (U:Nat) (d:Hh) (b:bI) (a:Int) (c:Int):Option aP:=
 ck (0<=a∧a<(List.length b:Int)) (ck ((List.length ([]:aP):Int)+(List.length (at' b a):Int)<=1099511627) (ck (0<=c∧c<(List.length d.1.2.2:Int)) (bK (kB U d b a c) U ((0:Int),(([]:aP)++(at' b a))))))
theorem Zp:aT Tryz.prog 145:=Tryz.call145
theorem Dr (U:Nat) {b:Hh} {C:bI} {m:Int} {f:Int} (j:Nat)  (O:Value)  (P:Value)  (k:Nat)  (E:Value)  (F:Value)  (G:Value)  (H:Value)  (Q:mZ)  (I:Value)  (y:sD)  (w:Value)  (M:mZ)  (i:Value)  (A:sD) (r:aP) (h:kZ U b C m f=some r):
  aY Tryz.prog 145 #[vP j,i,vI (m),vI (f)] [bV j [vS (b.1.1),O,P,vP k,w] 108,Sl aQ O b.1.2.1,Sl aH P b.1.2.2,bV k [vS (b.2.1.1.1),E,F,G,H,vI (b.2.1.2.2.1),I] 137,Sl aQ E b.2.1.1.2.1,Sl aH F b.2.1.1.2.2,Sl bP G b.2.1.2.1.1,S2 bA H Q b.2.1.2.1.2,S2 bP I y b.2.1.2.2.2,S2 bA w M b.2.2,S2 bP i A C] (λx:Value=>x) (λx l=>Ar b_ x r::l) (λ_ l=>l):=by
 refine aY.of Tryz.func145 Z Tryz.ntmps145 Z λc=>?_;refine aU<|aD Z<|aM<|aU<|aA Z<|aA Z<|dH h λB h=>aC (cL Z Z (aE.fact 10 Z) Z Z B) Z<|aC (cT Z (aE.fact 10 Z) Z Z B) Z<|jD (iC b_)<|dH h λS h=>aG (eJ 0 cZ Z Z Z (aE.el (aE.fact 10 Z) B.1 B.2) Z Z Z Z S Z) Z λv=>aD Z<|aM<|aJ<|fF (λo=>mU  o=some r) (λo N=>[(9,v)]) (λo N=>[Ar b_ v o]) ?_ ?_
 ·refine aU<|aA Z<|aC (bW Z) Z<|bU Z<|bU Z<|aC (dB Z (aE.fact 0 Z) Z Z Z) Z<|aA Z<|dH h λg h=>aC (bB Z Z (aE.fact 2 Z) Z Z g) Z<|aC (oL Z Z Z Z Z) Z<|aC (qM Z (aE.fact 2 Z) Z Z Z yX g) Z<|aC (jC Z (uM (aE.fact 2 Z) fR g.1 g.2) Z) Z<|aA Z<|aM<|aV<|e_ (kB U b C m f) (λa p=>[(0,vP j),(1,i),(2,vI (m)),(9,v),(26,(at' b.1.2.2 f).2.2.1),(27,vI (List.length ((at' b.1.2.2 f).2.2.2):Int)),(28,vI (a.1))]) (λa p=>[Ar b_ v a.2]) ((0:Int),(([]:aP)++(at' C m))) () h SF (aZ.refl _) ?_;intro T a p h;refine aU<|cX Z<|aM<|aJ ?_;refine fC h Z (λh=>?_) λh=>?_
  ·refine cV<|aJ<|aV<|aU<|dH h λd h=>aC (bB Z Z (uM (aE.fact 2 Z) fR g.1 g.2) Z Z d) Z<|aC (Qg (cs:=[vI ((at' ((at' b.1.2.2 f).2.2.2) a.1).1),(at' ((at' b.1.2.2 f).2.2.2) a.1).2.1]) Z (uM (aE.fact 2 Z) fR g.1 g.2) Kh Z Z Z Z d) Z<|aG (aL.alloc (cs:=[vI (0:Int),lC]) Z Z) Z λR=>bX (Know.one ((uM (uM (aE.fact 2 Z) fR g.1 g.2) Cp d.1 d.2))) λq=>bQ 0 (vs:=[vI ((at' ((at' b.1.2.2 f).2.2.2) a.1).1),(at' ((at' b.1.2.2 f).2.2.2) a.1).2.1]) Z Z (kR Z (kR q Z)) Z Z Z<|aM<|aJ ?_;refine JR.start [0,1,3,7,0,0,0,64,255,511] 8 mixedOrders (by decide +kernel) ?_;refine JR.open (by exact rfl) ?_;refine bG Z<|iH Z (bW Z)<|cY Z<|bJ Z .nil (nA 0 Z) (dB Z (aE.fact 0 Z) Z Z Z) aK.z<|bG Z<|bG Z<|cY Z<|jO 0 Z<|bN 8 Z Z<|fN h λD J h=>aG (aL.callQ RP (wM U k E F G H Q I y i A ((at' ((at' b.1.2.2 f).2.2.2) a.1).2.1) D J) Z (aF.cons (aE.fact 3 Z) (aF.cons (aE.fact 4 Z) (aF.cons (aE.fact 5 Z) (aF.cons (aE.fact 6 Z) (aF.cons (aE.fact 7 Z) (aF.cons (aE.fact 8 Z) (aF.cons (aE.fact 10 Z) (aF.cons (uM (uM (aE.fact 2 Z) fR g.1 g.2) Cp d.1 d.2) .nil))))))))) Z λV=>aD Z<|aM ?_;refine JR.start [0,0,2,0,8,24,56,120,0,256,1016,2040,4088,0,8192,24576,57344,0,253952,516096,0,1048576,4186112,8380416,0,33554424,67108863,134217727] 26 mixedOrders (by decide +kernel) ?_;refine JR.open (by exact rfl) ?_;refine bG Z<|cY Z<|jO 0 Z<|bG Z<|iH Z (bW Z)<|cY Z<|cY Z<|bJ Z .nil (nA 0 Z) (dB Z (aE.fact 0 Z) Z Z Z) aK.z<|cY Z<|jO 0 Z<|dH h λs h=>bJ Z .nil (nA 1 Z) (bB Z Z (aE.fact 0 Z) Z Z s) aK.z<|iH Z (oL Z Z Z Z Z)<|bJ Z .nil (nA 1 Z) (qM Z (aE.fact 0 Z) Z Z Z wK s) aK.z<|bG Z<|iH Z (bW Z)<|cY Z<|bJ Z .nil (nA 0 Z) (dB Z (aE.fact 0 Z) Z Z Z) aK.z<|bG Z<|dH h λe h=>bJ Z .nil (nA 9 Z) (cL Z Z (aE.fact 0 Z) Z Z e) aK.z<|bJ Z .nil (nA 9 Z) (cT Z (aE.fact 0 Z) Z Z e) aK.z<|cY Z<|jO 0 Z<|dH h λt h=>bJ Z .nil (nA 9 Z) (bB Z Z (aE.el (aE.fact 0 Z) e.1 e.2) Z Z t) aK.z<|bJ Z .nil (nA 9 Z) (jG (cs:=[vI ((at' (at' b.2.2 m) ((at' ((at' b.1.2.2 f).2.2.2) a.1).1)).1),vI ((at' (at' b.2.2 m) ((at' ((at' b.1.2.2 f).2.2.2) a.1).1)).2)]) Z (aE.el (aE.fact 0 Z) e.1 e.2) bR Z Z Z Z t) aK.z<|bG Z<|fN h λn K h=>JR.loud Z Z Z (aL.callQ Zt (JQ U  n K) Z .nil) Z (λL=>(uZ [([0],[])] Z)) λL=>bN 26 Z Z<|dH h λu h=>aC (bB Z Z (bD (aE.res 1 Z) cZ) Z Z u) Z<|Bg 1 n u Z Z Z Z Z Z Z<|eR<|o_<|aR<|cP Z<|aA Z<|aM ?_;exact nM ((wI .i64 (a.1+(1:Int))),(List.set a.2 (Int.toNat ((at' ((at' b.1.2.2 f).2.2.2) a.1).1)) n)) () h SF (aZ.ix [1] Z Z) (aF.refl _ _)
  refine gK ?_;exact jP (a.2) () h SF Z
 intro o N h;unfold mU at h;refine aU<|aA Z<|aD Z<|aM<|aS ?_;cases h;exact iI (v) Z Z (RV.tmp Z) (aZ.refl _) aF.nil
def mW  (a:bI):Option bI:=
 some (a)
def kD (b:Int×bI) (a:(Int×bI)->Option bI) (c:bI):Option bI:=
 a ((wI .i64 (b.1+(1:Int))),c)
def iD (U:Nat) (b:Hh) (d:bI) (g:Int) (a:Int×bI) (c:(Int×bI)->Option bI):Option bI:=
 if a.1<(List.length d:Int)then(ck (0<=a.1) (if(dK .u32 (qW .u32 g a.1) (1:Int))=(1:Int)then(Option.bind (eF U ((((b.1.1,b.1.2.1,b.1.2.2)),((((b.2.1.1.1,b.2.1.1.2.1,b.2.1.1.2.2)),((b.2.1.2.1.1,b.2.1.2.1.2)),b.2.1.2.2.1,b.2.1.2.2.2)),b.2.2)) d a.1) λe=>(Option.bind (kZ U ((((b.1.1,b.1.2.1,b.1.2.2)),((((b.2.1.1.1,b.2.1.1.2.1,b.2.1.1.2.2)),((b.2.1.2.1.1,b.2.1.2.1.2)),b.2.1.2.2.1,b.2.1.2.2.2)),b.2.2)) d a.1 e) λf=>(ck (0<=a.1∧a.1<(List.length a.2:Int)) (kD a c (List.set a.2 (Int.toNat a.1) f)))))else(kD a c (a.2))))else(mW  (a.2))
def iX (U:Nat) (b:Hh) (a:bI) (c:Int):Option bI:=
 Option.bind (lS U a) λd=>(bK (iD U b a c) U ((0:Int),d))
theorem Zf:aT Tryz.prog 113:=Tryz.call113
theorem Dt (U:Nat) {e:Hh} {v:bI} {w:Int} (g:Nat)  (D:Value)  (E:Value)  (o:Nat)  (F:Value)  (G:Value)  (H:Value)  (I:Value)  (Q:mZ)  (J:Value)  (t:sD)  (p:Value)  (u:mZ)  (d:Value)  (q:sD) (r:bI) (h:iX U e v w=some r):
  aY Tryz.prog 113 #[vP g,d,vU (w)] [bV g [vS (e.1.1),D,E,vP o,p] 108,Sl aQ D e.1.2.1,Sl aH E e.1.2.2,bV o [vS (e.2.1.1.1),F,G,H,I,vI (e.2.1.2.2.1),J] 137,Sl aQ F e.2.1.1.2.1,Sl aH G e.2.1.1.2.2,Sl bP H e.2.1.2.1.1,S2 bA I Q e.2.1.2.1.2,S2 bP J t e.2.1.2.2.2,S2 bA p u e.2.2,S2 bP d q v] (λx:Kc=>x.1) (λx l=>Ar cO.raw x.1 x.2::kN b_ x.2 r::l) (λ_ l=>l):=by
 refine aY.of Tryz.func113 Z Tryz.ntmps113 Z λc=>?_;refine aU<|aD Z<|aM<|aU<|aA Z<|fN h λR S h=>aG (aL.callQ Ma (xO U d q R S) Z (qB [10] Z)) Z λs=>aD Z<|aM<|aJ<|Ei (B:=fM) (λy=>mW  y=some r) (λy z=>[(7,s.1)]) (λy z=>[Ar cO.raw s.1 z,kN b_ z y]) ?_ ?_
 ·refine aU<|aA Z<|aC (jW Z (aE.fact 10 Z) Z) Z<|aA Z<|aM<|aV<|e_ (B:=fM) (iD U e v w) (λa b=>[(0,vP g),(1,d),(2,vU (w)),(7,s.1),(12,vI (List.length v:Int)),(13,vI (a.1))]) (λa b=>[Ar cO.raw s.1 b,kN b_ b a.2]) ((0:Int),R) (s.2) h SF (aZ.refl _) ?_;intro L a b h;refine aU<|cX Z<|aM<|aJ ?_;refine fC h Z (λh=>?_) λh=>?_
  ·refine cV<|aJ<|Ei (B:=fM) (λf=>kD a (bK (iD U e v w) L) f=some r) (λf m=>[(0,vP g),(1,d),(2,vU (w)),(7,s.1),(12,vI (List.length v:Int)),(13,vI (a.1))]) (λf m=>[Ar cO.raw s.1 m,kN b_ m f]) ?_ ?_
   ·refine aV<|aU<|aA Z<|aD Z<|aM<|aU<|aA Z<|aA Z<|dH h λK h=>aC (KA Z Z K) Z<|yR Z<|cN Z<|aM ?_;refine fC h Z (λh=>?_) λh=>?_
    ·refine aR<|aA Z<|aA Z<|aA Z<|aA Z<|aA Z<|aA Z<|aA Z<|aA Z<|fN h λM N h=>aG (aL.callQ VK (x_ U g D E o F G H I Q J t p u d q M N) Z (qB [0,1,2,3,4,5,6,7,8,9,10] Z)) Z λT=>fN h λC O h=>aG (aL.callQ Zp (Dr U g D E o F G H I Q J t p u d q C O) Z (qB [0,1,2,3,4,5,6,7,8,9,10] Z)) Z λP=>dH h λn h=>aC (cL Z Z (bS (i:=1) (j:=2) Z Z cZ) Z Z n) Z<|bX (Know.one ((bD (aE.res 0 Z) cZ))) λA=>jD (wP (k:=a.1) 2 0 Z Z Z n) ?_;refine pK 0 1 ⟨n.1,by first|exact n.2|simpa using n.2⟩ Z Z Z Z Z (by simp) A Z ?_;refine eR<|o_ ?_;exact jP (List.set a.2 (Int.toNat a.1) C) (List.set b (Int.toNat a.1) P) h SF Z
    refine dX<|o_ ?_;exact jP (a.2) (b) h SF Z
   intro f m h;unfold kD at h;refine aR<|cP Z<|aA Z<|aM ?_;exact AT ((wI .i64 (a.1+(1:Int))),f) (m) h SF Z
  refine gK ?_;exact jP (a.2) (b) h SF Z
 intro y z h;unfold mW at h;refine aU<|aA Z<|aD Z<|aM<|aS ?_;cases h;exact iI (s.1,z) Z Z (RV.tmp Z) (aZ.refl _) aF.nil
def xM  (a:Int):Option (Int):=
 some (a)
def tD (c:fH) (b:i_->Option (Int)) (a:Int):Option (Int):=
 b (a,(wI .i64 (c.2+(1:Int))))
def qJ (e:Int) (d:Int->Option Bool) (a:fH) (b:i_->Option (Int)):Option (Int):=
 if a.2<e then(Option.bind (d a.2) λc=>(if c=true then(ck (0<=a.2) (tD a b (LX .u32 a.1 (BG .u32 (1:Int) a.2))))else(tD a b (a.1))))else(xM  (a.1))
def zG (U:Nat) (b:Int) (a:Int->Option Bool):Option (Int):=
 bK (qJ b a) U ((0:Int),(0:Int))
theorem ack:aT Tryz.prog 68:=Tryz.call68
theorem MU (U:Nat) {j:Int} {n:Int->Option Bool} (m:FuncId) (d:fM) (k:List aX) (f:aT Tryz.prog m) (g:∀(u:Int) (r:Bool),n u=some r->aY Tryz.prog m ([vI (u)]++d).toArray k (λ_:Unit=>vB (r)) (λ_ l=>l) (λ_ l=>l)) (r:Int) (h:zG U j n=some r):
  aY Tryz.prog 68 #[vI (j),Value.func (.func m) #[] (d).toArray] ([]++k) (λx:Unit=>vU (r)) (λx l=>l) (λ_ l=>l):=by
 refine aY.of Tryz.func68 Z Tryz.ntmps68 Z λc=>?_;unfold zG at h;refine aU<|aD Z<|aM<|aU<|aD Z<|aM<|aJ<|By (B:=Unit) (λi=>xM  i=some r) (λi o=>[(5,vU (i))]) (λi o=>[]) (λi o=>([]++k)) ?_ ?_
 ·refine aU<|aA Z<|aA Z<|aM<|aV<|Fg (B:=Unit) (qJ j n) (λb p=>[(1,Value.func (.func m) #[] (d).toArray),(5,vU (b.1)),(7,vI (j)),(8,vI (b.2))]) (λb p=>[]) (λb p=>([]++k)) ((0:Int),(0:Int)) () h SF (aZ.refl _) (aF.refl _ _) ?_;intro v b p h;refine aU<|cX Z<|aM<|aJ ?_;refine fC h Z (λh=>?_) λh=>?_
  ·refine cV<|aJ<|By (B:=Unit) (λa=>tD b (bK (qJ j n) v) a=some r) (λa e=>[(1,Value.func (.func m) #[] (d).toArray),(5,vU (a)),(7,vI (j)),(8,vI (b.2))]) (λa e=>[]) (λa e=>([]++k)) ?_ ?_
   ·refine aV<|aU<|aA Z<|aD Z<|aM<|aU<|aA Z<|aA Z<|fN h λs t h=>aG (uN (vs:=[vI (b.2)]) (cs:=d) f Z (g b.2 s t) Z (aF.tail _) (λ_ _=>rfl)) Z λw=>aM ?_;refine Bm h Z (λ_ h=>?_) λ_ h=>?_
    ·refine aR<|aA Z<|aA Z<|dH h λq h=>aC (NN Z Z q) Z<|aC (YR Z Z) Z<|aD Z<|eR<|o_ ?_;exact jP (LX .u32 b.1 (BG .u32 (1:Int) b.2)) () h SF Z
    refine dX<|o_ ?_;exact jP (b.1) () h SF Z
   intro a e h;unfold tD at h;refine aR<|cP Z<|aA Z<|aM ?_;exact AT (a,(wI .i64 (b.2+(1:Int)))) () h SF Z
  refine gK ?_;exact jP (b.1) () h SF Z
 intro i o h;unfold xM at h;refine aU<|aA Z<|aD Z<|aM<|aS ?_;cases h;exact lI Z
def jZ (U:Nat) (b:Int) (a:Hh) (c:bI):Option (Bool):=
 Option.bind (eF U ((((a.1.1,a.1.2.1,a.1.2.2)),((((a.2.1.1.1,a.2.1.1.2.1,a.2.1.1.2.2)),((a.2.1.2.1.1,a.2.1.2.1.2)),a.2.1.2.2.1,a.2.1.2.2.2)),a.2.2)) c b) λd=>(some (decide ((0:Int)<=d)))
theorem acl:aT Tryz.prog 69:=Tryz.call69
theorem Aw (U:Nat) {v:Int} {a:Hh} {w:bI} (j:Nat)  (d:Nat)  (o:Value)  (p:Value)  (e:Nat)  (q:Value)  (s:Value)  (t:Value)  (u:Value)  (y:mZ)  (f:Value)  (k:sD)  (g:Value)  (m:mZ)  (b:Nat)  (i:Value)  (n:sD) (r:Bool) (h:jZ U v a w=some r):
  aY Tryz.prog 69 #[vI (v),vP j,vP b] [bV j [vP d] 84,bV d [vS (a.1.1),o,p,vP e,g] 108,Sl aQ o a.1.2.1,Sl aH p a.1.2.2,bV e [vS (a.2.1.1.1),q,s,t,u,vI (a.2.1.2.2.1),f] 137,Sl aQ q a.2.1.1.2.1,Sl aH s a.2.1.1.2.2,Sl bP t a.2.1.2.1.1,S2 bA u y a.2.1.2.1.2,S2 bP f k a.2.1.2.2.2,S2 bA g m a.2.2,bV b [i] 37,S2 bP i n w] (λx:Unit=>vB (r)) (λx l=>l) (λ_ l=>l):=by
 refine aY.of Tryz.func69 Z Tryz.ntmps69 Z λc=>?_;refine aU<|aD Z<|aM<|aU<|aC (dB Z (aE.fact 0 Z) Z Z Z) Z<|aC (dB Z (aE.fact 11 Z) Z Z Z) Z<|aA Z<|fN h λz A h=>aG (aL.callQ VK (x_ U d o p e q s t u y f k g m i n z A) Z (qB [1,2,3,4,5,6,7,8,9,10,12] Z)) Z λB=>aC (Hn Z Z) Z<|aD Z<|aM<|aS ?_;cases h;exact lI Z
def dW (U:Nat) (a:Hh) (b:bI):Option (Int):=
 Option.bind (zG U (List.length a.2.2:Int) (λd=>jZ U d ((((a.1.1,a.1.2.1,a.1.2.2)),((((a.2.1.1.1,a.2.1.1.2.1,a.2.1.1.2.2)),((a.2.1.2.1.1,a.2.1.2.1.2)),a.2.1.2.2.1,a.2.1.2.2.2)),a.2.2)) b)) λc=>(some (c))
theorem VD:aT Tryz.prog 44:=Tryz.call44
theorem uV (U:Nat) {a:Hh} {w:bI} (b:Nat)  (k:Value)  (m:Value)  (e:Nat)  (n:Value)  (o:Value)  (p:Value)  (q:Value)  (y:mZ)  (s:Value)  (g:sD)  (f:Value)  (i:mZ)  (d:Value)  (j:sD) (r:Int) (h:dW U a w=some r):
  aY Tryz.prog 44 #[vP b,d] [bV b [vS (a.1.1),k,m,vP e,f] 108,Sl aQ k a.1.2.1,Sl aH m a.1.2.2,bV e [vS (a.2.1.1.1),n,o,p,q,vI (a.2.1.2.2.1),s] 137,Sl aQ n a.2.1.1.2.1,Sl aH o a.2.1.1.2.2,Sl bP p a.2.1.2.1.1,S2 bA q y a.2.1.2.1.2,S2 bP s g a.2.1.2.2.2,S2 bA f i a.2.2,S2 bP d j w] (λx:Unit=>vU (r)) (λx l=>l) (λ_ l=>l):=by
 refine aY.of Tryz.func44 Z Tryz.ntmps44 Z λc=>?_;refine aU<|aG (aL.box (cs:=[vP b]) Z Z) Z λt=>bX (Know.one (aE.sl (aE.fact 10 Z))) λv=>?_;refine aG (aL.box (cs:=[d]) Z (by rw[fJ v])) Z λu=>?_;refine aD Z<|aM<|aU<|dL 1 Z<|aC (bW Z) Z<|bU Z<|aC (dB Z (aE.fact 0 Z) Z Z Z) Z<|aC (jW Z (aE.fact 9 Z) Z) Z<|aC (wR (cs:=[.tmp 2,.tmp 3]) (vs:=[vP t,vP u]) Z) Z<|fN h λz A h=>aG (aL.callQ ack (MU U 69 [vP t,vP u] [bV t [vP b] 84,bV b [vS (a.1.1),k,m,vP e,f] 108,Sl aQ k a.1.2.1,Sl aH m a.1.2.2,bV e [vS (a.2.1.1.1),n,o,p,q,vI (a.2.1.2.2.1),s] 137,Sl aQ n a.2.1.1.2.1,Sl aH o a.2.1.1.2.2,Sl bP p a.2.1.2.1.1,S2 bA q y a.2.1.2.1.2,S2 bP s g a.2.1.2.2.2,S2 bA f i a.2.2,bV u [d] 37,S2 bP d j w] acl (λC r h=>Aw U t b k m e n o p q y s g f i u d j r h) z A) Z (aF.cons (aE.res 1 Z) (aF.cons (aE.fact 0 Z) (aF.cons (aE.fact 1 Z) (aF.cons (aE.fact 2 Z) (aF.cons (aE.fact 3 Z) (aF.cons (aE.fact 4 Z) (aF.cons (aE.fact 5 Z) (aF.cons (aE.fact 6 Z) (aF.cons (aE.fact 7 Z) (aF.cons (aE.fact 8 Z) (aF.cons (aE.fact 9 Z) (aF.cons (aE.res 0 Z) (qB [10] Z)))))))))))))) Z λB=>aD Z<|aM<|aS ?_;cases h;exact vZ Z
end Go.Proofs.YtmdlcmbplnhdnaaGreatDoor
namespace Go.Proofs.YtmdlcmbplnhdnaaGreatDoor
open Go Go.Sx
abbrev RL:=E×List (Nat×E)
abbrev Av:=sU×GR×Int×bI
def EJ (R:List RL):Kb:=R.map λr=>(r.1.ts,r.2.map λs=>((s.1:Int),s.2.ts))
def KM (a:Nat) (e:E):Bool:=e.wf a false&&decide (e.depth<=100)&&decide (e.ts.length<=800)
def w_ (a:Nat) (R:List RL):Bool:=decide (R.length<=20)&&R.all λr=>KM a r.1&&decide (r.2.length<=20)&&r.2.all λs=>decide (s.1<a)&&KM a s.2
instance:Inhabited E:=⟨.lf 1 0⟩
def Cs (g:GR) (v i:Nat):Int:=zW (row g (fY (row g v) i).1.toNat) (v:Int)
def eS (g:GR):bI:=(List.range g.2.length).map λv=>(List.range (row g v).length).map (Cs g v)
def gA (S:Av) (c:bI) (v:Nat) (e:E):Int:=e.den (W_ (S,c,(v:Int),[])) (row S.2.1 v).length (-1)
def dD (S:Av) (R:List RL) (c:bI) (v:Nat):Int:=pN (R.map λr=>gA S c v r.1)
def lZ (a:Int) (b:fH) (x:Int):Int:=if b.1<=x∧x<=b.2 then x else if a=3 then -1 else if x<b.1 then b.1 else b.2
def EV (S:Av) (a:List CG) (c:bI) (v:Nat) (b:aP) (s:Nat×E):aP:=b.set s.1 (lZ (at' a (s.1:Int)).2.1 (lR S.2.1 a v s.1) (gA S c v s.2))
def kO (S:Av) (a:List CG) (R:List RL) (c:bI) (v:Nat) (i:Int):aP:=(at' R i).2.foldl (EV S a c v) (at' c (v:Int))
def enD (S:Av) (R:List RL) (c:bI):Nat:=AL (λv=>decide (0<=dD S R c v)) S.2.1.2.length
def gT (S:Av) (vars:List CG) (R:List RL) (c:bI) (t:Nat):bI:=(List.range c.length).map λv=>if t.testBit v=true then kO S vars R c v (dD S R c v)else at' c (v:Int)
structure yQ (g:GR) (nv:Nat) (c:bI):Prop where
 len:c.length=g.2.length
 row:∀v:Nat,v<g.2.length->(at' c (v:Int)).length=nv
theorem Au.shape {g:GR} {c:bI} {a:List CG} (h:Au g c a):yQ g a.length c:=⟨h.len,h.row⟩
section
variable {S:Av} {nv:Nat} {c:List (List Int)} {v:Nat}
theorem wok (b:S.2.2.2=eS S.2.1) (d:VG S.2.1) (e:yQ S.2.1 nv c) (h:v<S.2.1.2.length) (j:List (Int×Int)):WOk (S,c,(v:Int),j) nv S.2.1.2.length v:=by
 refine⟨rfl,h,rfl,d.len,e.len,e.row,λu a i g=> ?_,by show S.2.2.2.length=_;rw[b];simp[eS],λu a=>by
  show(at' S.2.2.2 (u:Int)).length=_;rw[b,eS,lA _ a,List.length_map,List.length_range]⟩
 obtain⟨w,k,f⟩:=d.to a g;show 0<=(fY (row S.2.1 u) i).1∧(fY (row S.2.1 u) i).1<_;rw[f];omega
theorem Pz (i:S.2.2.2=eS S.2.1) (a:VG S.2.1) (j:yQ S.2.1 nv c) (f:v<S.2.1.2.length) {e:E} (b:KM nv e=true):fP 1000 S c (v:Int) e.ts=some (gA S c v e):=by
 simp only[KM,Bool.and_eq_true,decide_eq_true_eq]at b;have g:=a.n24;have d:=(a.node v f).deg;unfold fP;have:=Yq (wok i a j f e.ts) (deg:=(row S.2.1 v).length) Z (by omega) b.2 e false 1000 0 (-1) [] [] (by simp) Z b.1.1 (λh=>by cases h) (by omega);rw[bF (show bO 1000 _ (0:Int) (-1)=_ from this)];rfl
end
section
variable {p:sU} {g:GR} {gr:Int} {R:List RL} {nv:Nat} {c:List (List Int)} {v:Nat}
theorem FP (a:p.2.2.map zB=EJ R):p.2.2.length=R.length:=by simpa [EJ]using congrArg List.length a
theorem SL (b:p.2.2.map zB=EJ R) {i:Nat} (a:i<R.length):zB (at' p.2.2 (i:Int))=((at' R (i:Int)).1.ts,(at' R (i:Int)).2.map λs=>((s.1:Int),s.2.ts)):=by
 have d:=FP b;have:=congrArg (λq=>q[i]?) b;simp only[EJ,List.getElem?_map,List.getElem?_eq_getElem a,List.getElem?_eq_getElem (show i<p.2.2.length by omega),Option.map_some,Option.some.injEq]at this;rw[kV a,kV (show i<p.2.2.length by omega)];exact this
theorem SV (a:w_ nv R=true) {i:Nat} (b:i<R.length):KM nv (at' R (i:Int)).1=true∧(at' R (i:Int)).2.length<=20∧∀s∈(at' R (i:Int)).2,s.1<nv∧KM nv s.2=true:=by
 simp only[w_,Bool.and_eq_true,List.all_eq_true,decide_eq_true_eq]at a;have:=a.2 (at' R (i:Int)) (by rw[kV b];exact List.getElem_mem b);exact⟨this.1.1,this.1.2,λs d=>this.2 s d⟩
theorem aaD (a:w_ nv R=true):R.length<=20:=by
 simp only[w_,Bool.and_eq_true,decide_eq_true_eq]at a;exact a.1
theorem WJ (f:VG g) (h:yQ g nv c) (j:v<g.2.length) (b:p.2.2.map zB=EJ R) (d:w_ nv R=true) {i:Nat} (a:i<R.length):kE 1000 (p,g,gr,eS g) c (v:Int) (i:Int)=some (nz (gA (p,g,gr,eS g) c v (at' R (i:Int)).1)):=by
 have k:=FP b;have e:(at' p.2.2 (i:Int)).2.1.2=(at' R (i:Int)).1.ts:=congrArg Prod.fst (SL b a);unfold kE;dsimp only;rw[cC (by omega),e];rw[bF (show fP 1000 _ c (v:Int) _=_ from Pz (S:=(p,g,gr,eS g)) Z f h j (SV d a).1)];rfl
theorem SX (z:VG g) (A:yQ g nv c) (C:v<g.2.length) (w:p.2.2.map zB=EJ R) (s:w_ nv R=true) (h:List (List (Int×Int))):eF 1000 (p,(p,g,gr,eS g),h) c (v:Int)=some (dD (p,g,gr,eS g) R c v):=by
 have E:=FP w;have y:=aaD s;let l:=R.map λr=>gA (p,g,gr,eS g) c v r.1;have B:l.length=R.length:=by simp[l]
 have o:∀i,i<R.length->at' l (i:Int)=gA (p,g,gr,eS g) c v (at' R (i:Int)).1:=λi t=>by
  rw[kV (by omega),kV t];simp[l]
 have b:∀(k:Nat) a,k<R.length->kC 1000 (p,(p,g,gr,eS g),h) c (v:Int) (k:Int) a=if nz (at' l (k:Int))=true then some (k:Int)else a (((k+1:Nat):Int)):=by
  intro k a d;unfold kC;dsimp only;rw[if_pos (by omega),bF (show kE 1000 _ c (v:Int) (k:Int)=_ from WJ z A C w s d),o k d,dZ (by omega)]
 unfold eF dD;by_cases f:∃i,i<R.length∧at' l (i:Int)≠0
 ·obtain⟨i,t,x⟩:=f;obtain⟨m,D,q,n⟩:=FI (p:=λi=>at' l (i:Int)≠0) i x;have n:∀j,j<m->at' l (j:Int)=0:=λj u=>Decidable.not_not.1 (n j u);rw[show pN _=(m:Int)from qY (l:=l) (by omega) q n];exact eO (K:=some (m:Int)) m (λk=>(k:Int)) (λk a d=>by rw[b k a (by omega),if_neg (by simp[nz,n k d])]) (λa=>by rw[b m a (by omega),if_pos (by simpa [nz]using q)]) 1000 (by omega)
 ·have f:∀j,j<l.length->at' l (j:Int)=0:=λj u=>Decidable.not_not.1 λe=>f ⟨j,by omega,e⟩;rw[show pN _=(-1:Int)from AE (l:=l) f];exact eO (K:=some (-1)) R.length (λk=>(k:Int)) (λk a d=>by rw[b k a d,if_neg (by simp[nz,f k (by omega)])]) (λa=>by
   unfold kC mV;dsimp only;rw[if_neg (by omega)]) 1000 (by omega)
theorem Ah (S:Av) (R:List RL) (c:List (List Int)) (v:Nat):dD S R c v = -1∨∃i:Nat,dD S R c v=(i:Int)∧i<R.length∧gA S c v (at' R (i:Int)).1≠0:=by
 let l:=R.map λr=>gA S c v r.1;by_cases h:∃i,i<l.length∧at' l (i:Int)≠0
 ·obtain⟨i,n,k⟩:=h;obtain⟨m,o,f,a⟩:=FI (p:=λi=>at' l (i:Int)≠0) i k;have a:∀j,j<m->at' l (j:Int)=0:=λj b=>Decidable.not_not.1 (a j b);have d:m<R.length:=by simp[l]at n;omega
  refine .inr ⟨m,qY (l:=l) (by omega) f a,d,?_⟩;have:at' l (m:Int)=gA S c v (at' R (m:Int)).1:=by rw[kV (by simpa [l]using d),kV d];simp[l]
  rw[<-this];exact f
 ·exact .inl (AE (l:=l) λj b=>Decidable.not_not.1 λe=>h ⟨j,b,e⟩)
theorem EU {S:Av} {R:List RL} {c:List (List Int)} {v:Nat}:dD S R c v = -1↔∀i:Nat,i<R.length->gA S c v (at' R (i:Int)).1=0:=by
 let l:=R.map λr=>gA S c v r.1;have a:∀i,i<R.length->at' l (i:Int)=gA S c v (at' R (i:Int)).1:=λi b=>by rw[kV (by simpa [l]using b),kV b];simp[l]
 constructor
 ·intro h i b;refine Decidable.not_not.1 λe=> ?_;obtain⟨m,n,k,f⟩:=FI (p:=λi=>at' l (i:Int)≠0) i (by rw[a i b];exact e);have f:∀j,j<m->at' l (j:Int)=0:=λj d=>Decidable.not_not.1 (f j d);have:dD S R c v=(m:Int):=qY (l:=l) (by simp[l];omega) k f;omega
 ·intro h;exact AE (l:=l) λj d=>by rw[a j (by simpa [l]using d)];exact h j (by simpa [l]using d)
theorem Qz (hV:VG g) (hc:yQ g nv c) (hz:p.2.2.map zB=EJ R) (hR:w_ nv R=true) {tab:List (List (Int×Int))} (ht:tab.length=g.2.length):dW 1000 (p,(p,g,gr,eS g),tab) c=some ((enD (p,g,gr,eS g) R c:Nat):Int):=by
 have h24:=hV.n24;unfold dW zG;let q:Nat->Bool:=λv=>decide (0<=dD (p,g,gr,eS g) R c v);have:=eO (step:=qJ (tab.length:Int) (λy0=>jZ 1000 y0 (p,(p,g,gr,eS g),tab) c)) (K:=some ((AL q g.2.length:Nat):Int)) g.2.length (λk=>(((AL q k:Nat):Int),(k:Int))) (λk ag hk=>by
  have hm:=SB q (k:=k) (by omega);unfold qJ tD jZ;dsimp only;rw[if_pos (by omega),bF (show Option.bind (eF 1000 _ c (k:Int)) _=some (q k) by rw[bF (show eF 1000 _ c (k:Int)=_ from SX hV hc hk hz hR tab)]),dZ (by omega)];cases hq:q k with
  |true=>
   rw[if_pos Z,cC (by omega),Ql hm (by omega)];simp only[AL,hq,if_true]
  |false=>
   rw[if_neg (by decide)];simp only[AL,hq];rfl) (λag=>by
  unfold qJ xM;dsimp only;rw[if_neg (by omega)]) 1000 (by omega)
 rw[bF (show bK _ 1000 ((0:Int),(0:Int))=_ from this)];rfl
end
theorem VP (f:Nat) (k:Int) (b:fH) (x:Int):vN f k b x=some (lZ k b x):=by
 unfold vN tJ lZ;by_cases a:b.1<=x
 ·by_cases c:x<=b.2
  ·simp only[a,c,and_self,if_true,decide_true]
  ·simp only[a,c,and_false,if_true,if_false,decide_false,Bool.false_eq_true];split
   ·rfl
   ·split<;>rfl
 ·simp only[a,false_and,if_false,Bool.false_eq_true];split
  ·rfl
  ·split<;>rfl
theorem OZ {S:Av} {a:List CG} {c:bI} {v:Nat} (l:List (Nat×E)) (b:aP):(l.foldl (EV S a c v) b).length=b.length:=by
 induction l generalizing b with
 |nil=>rfl
 |cons s l d=>rw[List.foldl_cons,d];simp[EV]
theorem Uj {S:Av} {a:List CG} {R:List RL} {c:bI} {v:Nat} {i:Int}:(kO S a R c v i).length=(at' c (v:Int)).length:=OZ _ _
section
variable {p:sU} {g:GR} {gr:Int} {R:List RL} {c:List (List Int)} {v:Nat}
theorem aap (A:VG g) (J:sI g p.2.1) (o:yQ g p.2.1.length c) (x:v<g.2.length) (E:p.2.2.map zB=EJ R) (H:w_ p.2.1.length R=true) {i:Nat} (B:i<R.length):
  kZ 1000 (p,(p,g,gr,eS g),Cn g p.2.1) c (v:Int) (i:Int)=some (kO (p,g,gr,eS g) p.2.1 R c v (i:Int)):=by
 have G:=A.n24;have I:=o.len;have l:=o.row v x;have N:=J.len;have O:=FP E;have r:=SL E B;obtain⟨-,m,d⟩:=SV H B;have D:(Cn g p.2.1).length=g.2.length:=by simp[Cn]
 have w:at' (Cn g p.2.1) (v:Int)=Ej g p.2.1 v:=lA _ x;have L:(Ej g p.2.1 v).length=p.2.1.length:=by simp[Ej]
 have y:(at' p.2.2 (i:Int)).2.2.2.map (λs=>(s.1,s.2.2))=(at' R (i:Int)).2.map λs=>((s.1:Int),s.2.ts):=congrArg Prod.snd r;have n:(at' p.2.2 (i:Int)).2.2.2.length=(at' R (i:Int)).2.length:=by simpa using congrArg List.length y
 unfold kZ;dsimp only;rw[cC (by omega),cC (by simp;omega),cC (by omega),List.nil_append];unfold kO;let a:=(at' R (i:Int)).2;have:=eO (step:=kB 1000 (p,(p,g,gr,eS g),Cn g p.2.1) c (v:Int) (i:Int)) (K:=some (a.foldl (EV (p,g,gr,eS g) p.2.1 c v) (at' c (v:Int)))) a.length (λk=>((k:Int),(a.take k).foldl (EV (p,g,gr,eS g) p.2.1 c v) (at' c (v:Int)))) (λk F e=>by
  have j:k<(at' p.2.2 (i:Int)).2.2.2.length:=by rw[n];exact e
  have z:((at' (at' p.2.2 (i:Int)).2.2.2 (k:Int)).1,(at' (at' p.2.2 (i:Int)).2.2.2 (k:Int)).2.2)=(((at' a (k:Int)).1:Int),(at' a (k:Int)).2.ts):=by
   have:=congrArg (λq=>q[k]?) y;simp only[List.getElem?_map,List.getElem?_eq_getElem j,List.getElem?_eq_getElem (show k<(at' R (i:Int)).2.length from e),Option.map_some,Option.some.injEq]at this;rw[kV j,kV e];exact this
  have f:=congrArg Prod.fst z;have h:=congrArg Prod.snd z;dsimp only at f h;obtain⟨t,u⟩:=d (at' a (k:Int)) (by rw[kV e];exact List.getElem_mem e);have C:((a.take k).foldl (EV (p,g,gr,eS g) p.2.1 c v) (at' c (v:Int))).length=p.2.1.length:=by rw[OZ,l]
  have b:at' (Ej g p.2.1 v) ((at' a (k:Int)).1:Int)=lR g p.2.1 v (at' a (k:Int)).1:=lA _ t;have M:a.length<=20:=m;unfold kB;dsimp only;rw[if_pos (by omega),cC (by omega),f,h,bF (show fP 1000 _ c (v:Int) _=_ from Pz (S:=(p,g,gr,eS g)) Z A o x u),cC (by omega),cC (by omega),w,cC (by omega),b,bF (VP 1000 _ _ _),cC (by omega),dZ (by omega),Int.toNat_natCast,Ee e,List.foldl_append];rfl) (λF=>by
  unfold kB mU;dsimp only;rw[if_neg (by show¬(a.length:Int)<_;rw[n];exact Int.lt_irrefl _),List.take_length]) 1000 (by show(at' R (i:Int)).2.length<1000;omega)
 exact this
theorem aaI (m:VG g) (s:sI g p.2.1) (l:yQ g p.2.1.length c) (u:p.2.2.map zB=EJ R) (o:w_ p.2.1.length R=true) {t:Nat} (b:t<4294967296) (B:∀v,t.testBit v=true->0<=dD (p,g,gr,eS g) R c v):
  iX 1000 (p,(p,g,gr,eS g),Cn g p.2.1) c (t:Int)=some (gT (p,g,gr,eS g) p.2.1 R c t):=by
 have x:=m.n24;have z:=l.len;have C:=s.len;unfold iX;rw[bF (Sc c (by omega) (λv D=>by rw[l.row v (by omega)];omega))];let f:Nat->List Int:=λv=>if t.testBit v=true then kO (p,g,gr,eS g) p.2.1 R c v (dD (p,g,gr,eS g) R c v)else at' c (v:Int);let Q:Nat->List (List Int):=λk=>(List.range k).map f++c.drop k;have y:∀k,k<=c.length->(Q k).length=c.length:=λk a=>by simp[Q];omega
 have j:∀k,k<c.length->(Q k).set k (f k)=Q (k+1):=λk a=>by
  show((List.range k).map f++c.drop k).set k (f k)=(List.range (k+1)).map f++c.drop (k+1);rw[List.set_append_right _ _ (by simp),List.length_map,List.length_range,Nat.sub_self,List.drop_eq_getElem_cons a,List.set_cons_zero,List.range_succ,List.map_append,List.map_singleton,List.append_assoc];rfl
 have d:∀k,k<c.length->f k=at' c (k:Int)->Q k=Q (k+1):=λk a A=>by
  show(List.range k).map f++c.drop k=(List.range (k+1)).map f++c.drop (k+1);rw[List.range_succ,List.drop_eq_getElem_cons a,List.map_append,List.map_singleton,A,kV a];simp
 rw[show c=Q 0 by simp[Q]];refine eO (step:=iD 1000 (p,(p,g,gr,eS g),Cn g p.2.1) (Q 0) (t:Int)) (K:=some (gT (p,g,gr,eS g) p.2.1 R (Q 0) t)) c.length (λk=>((k:Int),Q k)) (λk w a=> ?_) (λw=> ?_) 1000 (by omega)
 ·rw[show Q 0=c by simp[Q]];unfold iD kD;dsimp only;rw[if_pos (by omega),cC (by omega),dZ (by omega)];by_cases h:t.testBit k=true
  ·obtain⟨i,r,n,_⟩:=(Ah (p,g,gr,eS g) R c k).resolve_left (λe=>by have:=B k h;omega);rw[if_pos ((WK (by omega) b).2 h),bF (show eF 1000 _ c (k:Int)=_ from SX m l (by omega) u o _),r,bF (show kZ 1000 _ c (k:Int) (i:Int)=_ from aap m s l (by omega) u o n),cC (by rw[y k (by omega)];omega),Int.toNat_natCast];have:kO (p,g,gr,eS g) p.2.1 R c k (i:Int)=f k:=by simp only[f];rw[if_pos h,r]
   rw[this,j k a]
  ·rw[if_neg (λq=>h ((WK (by omega) b).1 q)),d k a (by simp only[f];rw[if_neg h])]
 ·rw[show Q 0=c by simp[Q]];unfold iD mW;dsimp only;rw[if_neg (by omega)];simp[Q,gT,f]
theorem Le {S:Av} {a:List CG} {t:Nat}:(gT S a R c t).length=c.length:=by simp[gT]
theorem Aj {S:Av} {vars:List CG} {t:Nat} (a:v<c.length):at' (gT S vars R c t) (v:Int)=if t.testBit v=true then kO S vars R c v (dD S R c v)else at' c (v:Int):=lA _ a
theorem yQ.step {S:Av} {a:List CG} {t:Nat} {e:Nat} {g:GR} (b:yQ g e c):yQ g e (gT S a R c t):=⟨by rw[Le,b.len],λv d=>by
 rw[Aj (by rw[b.len];exact d)];split
 ·rw[Uj,b.row v d]
 ·exact b.row v d⟩
end
end Go.Proofs.YtmdlcmbplnhdnaaGreatDoor
namespace Go.Proofs.YtmdlcmbplnhdnaaGreatDoor
open Go.Sx
def lL  (a:Unit):Option (Bool):=
 some (true)
def h_ (c:aP) (a:Int) (b:(Int)->Option (Bool)):Option (Bool):=
 if a<(List.length c:Int)then(ck (0<=a∧a<(List.length c:Int)) (if(tH .u32 (at' c a) (16777215:Int))≠(0:Int)then(some (false))else(b (wI .i64 (a+(1:Int))))))else(lL  (()))
def gO (U:Nat) (a:aP):Option (Bool):=
 bK (h_ a) U (0:Int)
theorem RQ:aT Tryz.prog 147:=Tryz.call147
theorem An (U:Nat) {d:aP} (e:Value) (r:Bool) (h:gO U d=some r):
  aY Tryz.prog 147 #[e] [Sl yD e d] (λx:Unit=>vB (r)) (λx l=>l) (λ_ l=>l):=by
 refine aY.of Tryz.func147 Z Tryz.ntmps147 Z λc=>?_;unfold gO at h;refine aU<|aD Z<|aM<|aJ<|fF (λa=>lL  a=some r) (λa f=>[]) (λa f=>[]) ?_ ?_
 ·refine aU<|aA Z<|kP (aE.fact 0 Z) Z<|aA Z<|aM<|aV<|e_ (h_ d) (λb g=>[(5,e),(6,vI (List.length d:Int)),(7,vI (b))]) (λb g=>[]) (0:Int) () h SF (aZ.refl _) ?_;intro j b g h;refine aU<|cX Z<|aM<|aJ ?_;refine fC h Z (λh=>?_) λh=>?_
  ·refine cV<|aJ<|aV<|aU<|dH h λi h=>aC (bB Z Z (aE.fact 0 Z) Z Z i) Z<|aC (bY Z (aE.fact 0 Z) Z Z Z Gv i) Z<|aD Z<|aM<|aU<|aA Z<|aC (IS Z Z) Z<|pI Z<|aM ?_;refine fC h Z (λh=>?_) λh=>?_
   ·refine aU<|aD Z<|aM<|aS<|bM<|aI<|aI<|bM<|aI ?_;cases h;exact lI Z
   refine dX<|o_<|aR<|cP Z<|aA Z<|aM ?_;exact AT (wI .i64 (b+(1:Int))) () h SF Z
  refine gK ?_;exact jP () (()) h SF Z
 intro a f h;unfold lL at h;refine aU<|aD Z<|aM<|aS ?_;cases h;exact lI Z
def kH  (a:Bool):Option (Bool):=
 some (a)
def gX (U:Nat) (a:HG) (c:Bool):Option (Bool):=
 if c=true then(some (false))else(if(wI .i64 (a.2.2.1+(1:Int)))<a.2.2.2.1 then(some (false))else(if a.1<=a.2.1 then(if a.2.1<=(wI .i64 ((24:Int)*a.1))then(Option.bind (gO U ([a.2.2.2.2])) λb=>(kH  (b)))else(kH  (false)))else(kH  (false))))
def jQ (U:Nat) (a:HG):Option (Bool):=
 if a.1<(0:Int)then(gX U a (true))else(if(4096:Int)<a.1 then(gX U a (true))else(if a.2.2.1<(0:Int)then(gX U a (true))else(if a.2.2.2.1<a.2.2.1 then(gX U a (true))else(gX U a (decide (a.1<a.2.2.2.1))))))
theorem Zq:aT Tryz.prog 146:=Tryz.call146
theorem HP (U:Nat) {a:HG} (r:Bool) (h:jQ U a=some r):
  aY Tryz.prog 146 #[Value.agg #[vI (a.1),vI (a.2.1),vI (a.2.2.1),vI (a.2.2.2.1),vU (a.2.2.2.2)]] [] (λx:Unit=>vB (r)) (λx l=>l) (λ_ l=>l):=by
 refine aY.of Tryz.func146 Z Tryz.ntmps146 Z λc=>?_;refine aU<|aG (aL.box (cs:=[vI (a.1),vI (a.2.1),vI (a.2.2.1),vI (a.2.2.2.1),vU (a.2.2.2.2)]) Z Z) Z λj=>aD Z<|aM<|aJ<|aJ<|fF (λb=>gX U a b=some r) (λb k=>[(1,vP j),(29,vB (b))]) (λb k=>[bV j [vI (a.1),vI (a.2.1),vI (a.2.2.1),vI (a.2.2.2.1),vU (a.2.2.2.2)] 49]) ?_ ?_
 ·refine aR<|bU Z<|dL 0 Z<|cX Z<|aA Z ?_;refine EN h Z (λ_ h=>?_) λ_ h=>?_
  ·refine aN Z<|aN Z<|aN Z<|fK Z<|aA Z<|aN Z<|aN Z<|aN Z<|fK Z<|aA Z<|aN Z<|aN Z<|aN Z<|aN Z<|aN Z<|fK Z<|aA Z<|aN Z<|aN Z<|aN Z<|aN Z<|aN Z<|fK Z<|aM ?_;exact jP (true) () h SF Z
  refine aW Z (eT Z Z Z Z Z) Z<|aW Z (gV 0 Z Z Z Z Z) Z<|aW Z (wL Z Z) Z<|iL Z<|aA Z ?_;refine EN h Z (λ_ h=>?_) λ_ h=>?_
  ·refine aN Z<|aN Z<|aN Z<|fK Z<|aA Z<|aN Z<|aN Z<|aN Z<|aN Z<|aN Z<|fK Z<|aA Z<|aN Z<|aN Z<|aN Z<|aN Z<|aN Z<|fK Z<|aM ?_;exact jP (true) () h SF Z
  refine aW Z (eT Z Z Z Z Z) Z<|aW Z (gV 0 Z Z Z Z Z) Z<|aW Z (Kz Z Z) Z<|iL Z<|aA Z ?_;refine EN h Z (λ_ h=>?_) λ_ h=>?_
  ·refine aN Z<|aN Z<|aN Z<|aN Z<|aN Z<|fK Z<|aA Z<|aN Z<|aN Z<|aN Z<|aN Z<|aN Z<|fK Z<|aM ?_;exact jP (true) () h SF Z
  refine aW Z (eT Z Z Z Z Z) Z<|aW Z (gV 0 Z Z Z Z Z) Z<|aW Z (eT Z Z Z Z Z) Z<|aW Z (gV 0 Z Z Z Z Z) Z<|aW Z (wL Z Z) Z<|iL Z<|aA Z ?_;refine EN h Z (λ_ h=>?_) λ_ h=>?_
  ·refine aN Z<|aN Z<|aN Z<|aN Z<|aN Z<|fK Z<|aM ?_;exact jP (true) () h SF Z
  refine aW Z (eT Z Z Z Z Z) Z<|aW Z (gV 0 Z Z Z Z Z) Z<|aW Z (eT Z Z Z Z Z) Z<|aW Z (gV 0 Z Z Z Z Z) Z<|aW Z (wL Z Z) Z<|iL Z<|aM ?_;exact jP (decide (a.1<a.2.2.2.1)) () h SF Z
 intro b k h;refine Bm h Z (λ_ h=>?_) λ_ h=>?_
 ·refine aU<|aD Z<|aM<|aS<|aI ?_;cases h;exact vZ Z
 refine cV<|aJ<|aU<|bU Z<|dL 0 Z<|bU Z<|dL 0 Z<|cP Z<|aC (wL Z Z) Z<|aM ?_;refine fC h Z (λh=>?_) λh=>?_
 ·refine aU<|aD Z<|aM<|aS<|aI ?_;cases h;exact vZ Z
 refine cV<|aJ<|fF (λd=>kH  d=some r) (λd m=>[(2,vB (d))]) (λd m=>[]) ?_ ?_
 ·refine aR<|bU Z<|dL 0 Z<|bU Z<|dL 0 Z<|aC (Cr Z Z) Z<|aA Z ?_;refine EN h Z (λ_ h=>?_) λ_ h=>?_
  ·refine aW Z (eT Z Z Z Z Z) Z<|aW Z (gV 0 Z Z Z Z Z) Z<|aW Z (eT Z Z Z Z Z) Z<|aW Z (gV 0 Z Z Z Z Z) Z<|aW Z (AS Z Z) Z<|aW Z (Cr Z Z) Z<|fK Z<|aA Z ?_;refine EN h Z (λ_ h=>?_) λ_ h=>?_
   ·refine aW Z (eT Z Z Z Z Z) Z<|aW Z (gV 0 Z Z Z Z Z) Z<|tG Z (bZ (e:=oJ) ([a.2.2.2.2]) [(0,vU (a.2.2.2.2))] Z Z Z Z (nQ (vU (a.2.2.2.2)) Z) Z Z Z) Z λg=>fN h λf i h=>tG Z (aL.callQ RQ (An U g f i) Z (aF.cons (bD (aE.res 0 Z) sT) .nil)) Z λn=>fK Z<|aD Z<|aM ?_;exact cU (f) () h SF .nil (aF.refl _ _)
   refine aN Z<|aN Z<|aN Z<|aN Z<|iL Z<|aD Z<|aM ?_;exact cU (false) () h SF .nil (aF.refl _ _)
  refine aN Z<|aN Z<|aN Z<|aN Z<|aN Z<|aN Z<|iL Z<|aA Z<|aN Z<|aN Z<|aN Z<|aN Z<|iL Z<|aD Z<|aM ?_;exact cU (false) () h SF .nil (aF.refl _ _)
 intro d m h;unfold kH at h;refine aS ?_;cases h;exact lI Z
def kM (U:Nat) (a:Int):Option (Int):=
 ck (0<=(24:Int)) (ck (0<=(qW .u32 a (24:Int))∧(qW .u32 a (24:Int))<(List.length Ie:Int)) (ck (0<=(16:Int)) (ck (0<=(dK .u32 (qW .u32 a (16:Int)) (255:Int))∧(dK .u32 (qW .u32 a (16:Int)) (255:Int))<(List.length Ie:Int)) (ck (0<=(8:Int)) (ck (0<=(dK .u32 (qW .u32 a (8:Int)) (255:Int))∧(dK .u32 (qW .u32 a (8:Int)) (255:Int))<(List.length Ie:Int)) (ck (0<=(dK .u32 a (255:Int))∧(dK .u32 a (255:Int))<(List.length Ie:Int)) (some (wI .i64 (wI .u8 ((wI .u8 ((wI .u8 ((at' Ie (qW .u32 a (24:Int)))+(at' Ie (dK .u32 (qW .u32 a (16:Int)) (255:Int)))))+(at' Ie (dK .u32 (qW .u32 a (8:Int)) (255:Int)))))+(at' Ie (dK .u32 a (255:Int)))))))))))))
theorem Zr:aT Tryz.prog 148:=Tryz.call148
theorem EY (U:Nat) {a:Int} (r:Int) (h:kM U a=some r):
  aY Tryz.prog 148 #[vU (a)] [] (λx:Unit=>vI (r)) (λx l=>l) (λ_ l=>l):=by
 refine aY.of Tryz.func148 Z Tryz.ntmps148 Z λc=>?_;refine aU<|aD Z<|aM<|aJ ?_;refine JR.start [0,1,3,0,8,24,56,127,0,256,768,1792,4095,0,8192,24576,65535,131071,262143] 16 mixedOrders (by decide +kernel) ?_;refine JR.open (by exact rfl) ?_;refine bG Z<|dH h λb h=>iH Z (KA Z Z b)<|dH h λd h=>iH Z (BE Z Z Z Md d)<|bG Z<|dH h λe h=>iH Z (KA Z Z e)<|iH Z (RE Z Z)<|dH h λf h=>iH Z (BE Z Z Z Md f)<|iH Z (uD Z Z)<|bG Z<|dH h λg h=>iH Z (KA Z Z g)<|iH Z (RE Z Z)<|dH h λi h=>iH Z (BE Z Z Z Md i)<|iH Z (uD Z Z)<|bG Z<|iH Z (RE Z Z)<|dH h λj h=>iH Z (BE Z Z Z Md j)<|bN 16 Z Z<|cP Z<|aC (Qf Z Z Z) Z<|aD Z<|aM<|aS ?_;cases h;exact lI Z
def oP (b:HG) (c:Int) (a:fH):Option ((Int×Int×Int×Int×Int)×Int):=
 some ((((wI .i64 (b.1+(1:Int))),(wI .i64 (b.2.1+c)),a.1,(wI .i64 (b.2.2.1+(1:Int))),a.2)),(0:Int))
def oO (U:Nat) (a:HG) (c:Int) (d:Int) (e:Bool):Option ((Int×Int×Int×Int×Int)×Int):=
 if e=true then(some ((((0:Int),(0:Int),(0:Int),(0:Int),(0:Int))),(11:Int)))else(if a.1=(4096:Int)then(some ((((0:Int),(0:Int),(0:Int),(0:Int),(0:Int))),(3:Int)))else(Option.bind (kM U c) λb=>(if(dK .u32 (tH .u32 a.2.2.2.2 c) d)=(0:Int)then(oP a b ((wI .i64 (a.2.2.1+(1:Int))),d))else(oP a b (a.2.2.1,(dK .u32 (tH .u32 a.2.2.2.2 c) d))))))
def fI (U:Nat) (a:HG) (b:Int) (c:Int):Option ((Int×Int×Int×Int×Int)×Int):=
 Option.bind (jQ U ((a.1,a.2.1,a.2.2.1,a.2.2.2.1,a.2.2.2.2))) λe=>(if(!e)=true then(some ((((0:Int),(0:Int),(0:Int),(0:Int),(0:Int))),(7:Int)))else(if b=(0:Int)then(oO U a b c (true))else(Option.bind (gO U ([b,c])) λd=>(oO U a b c ((!d))))))
theorem Zg:aT Tryz.prog 114:=Tryz.call114
theorem Kn (U:Nat) {a:HG} {g:Int} {d:Int} (r:(Int×Int×Int×Int×Int)×Int) (h:fI U a g d=some r):
  aY Tryz.prog 114 #[Value.agg #[vI (a.1),vI (a.2.1),vI (a.2.2.1),vI (a.2.2.2.1),vU (a.2.2.2.2)],vU (g),vU (d)] [] (λx:Unit=>Value.tuple #[Value.agg #[vI (r.1.1),vI (r.1.2.1),vI (r.1.2.2.1),vI (r.1.2.2.2.1),vU (r.1.2.2.2.2)],vI (r.2)]) (λx l=>l) (λ_ l=>l):=by
 refine aY.of Tryz.func114 Z Tryz.ntmps114 Z λc=>?_;refine aU<|aG (aL.box (cs:=[vI (a.1),vI (a.2.1),vI (a.2.2.1),vI (a.2.2.2.1),vU (a.2.2.2.2)]) Z Z) Z λm=>aG (aL.alloc (cs:=vD2) Z Z) Z λn=>aD Z<|aM<|aJ<|aU<|fG 1 Z<|fN h λu v h=>aG (aL.callQ Zq (HP U  u v) Z .nil) Z λz=>aC (sV Z) Z<|aM ?_;refine Bm h Z (λ_ h=>?_) λ_ h=>?_
 ·refine aU ?_;refine aC (LN (r:=Value.agg #[vI (0:Int),vI (0:Int),vI (0:Int),vI (0:Int),vU (0:Int)]) (by intro w;simp[Instr.build,Instr.fill,eL,dU,dC,eM,eN,dV,f_])) Z ?_;refine bQ 0 (vs:=vD2) Z Z Z Z Z Z<|aD Z<|aM<|aS<|aI ?_;cases h;exact mS () Z Z (RV.cell 0 Z Z Z Z) (RV.tmp Z) .nil aF.nil
 refine cV<|aJ<|aJ<|fF (λi=>oO U a g d i=some r) (λi t=>[(1,vU (g)),(2,vU (d)),(3,vP m),(6,vP n),(20,vB (i))]) (λi t=>[bV n vD2 49,bV m [vI (a.1),vI (a.2.1),vI (a.2.2.1),vI (a.2.2.2.1),vU (a.2.2.2.2)] 49]) ?_ ?_
 ·refine aR<|aA Z<|cN Z<|aA Z ?_;refine EN h Z (λ_ h=>?_) λ_ h=>?_
  ·refine aN Z<|aN Z<|aN Z<|aN Z<|aN Z<|fK Z<|aM ?_;exact jP (true) () h SF Z
  refine eX Z<|eX Z<|tG Z (bZ (e:=oJ) ([g,d]) [(0,vU (g)),(1,vU (d))] Z Z Z Z (Jm (vU (g)) (vU (d)) Z Z) Z Z Z) Z λo=>fN h λk q h=>tG Z (aL.callQ RQ (An U o k q) Z (aF.cons (bD (aE.res 0 Z) sT) .nil)) Z λy=>aW Z (sV Z) Z<|iL Z<|aM ?_;exact cU ((!k)) () h SF (aZ.ix [1,2] Z Z) (aF.refl _ _)
 intro i t h;refine Bm h Z (λ_ h=>?_) λ_ h=>?_
 ·refine aU ?_;refine aC (LN (r:=Value.agg #[vI (0:Int),vI (0:Int),vI (0:Int),vI (0:Int),vU (0:Int)]) (by intro w;simp[Instr.build,Instr.fill,eL,dU,dC,eM,eN,dV,f_])) Z ?_;refine bQ 0 (vs:=vD2) Z Z Z Z Z Z<|aD Z<|aM<|aS<|aI ?_;cases h;exact mS () Z Z (RV.cell 0 Z Z Z Z) (RV.tmp Z) .nil aF.nil
 refine cV<|aJ<|aU<|bU Z<|dL 1 Z<|cN Z<|aM ?_;refine fC h Z (λh=>?_) λh=>?_
 ·refine aU ?_;refine aC (LN (r:=Value.agg #[vI (0:Int),vI (0:Int),vI (0:Int),vI (0:Int),vU (0:Int)]) (by intro w;simp[Instr.build,Instr.fill,eL,dU,dC,eM,eN,dV,f_])) Z ?_;refine bQ 0 (vs:=vD2) Z Z Z Z Z Z<|aD Z<|aM<|aS<|aI ?_;cases h;exact mS () Z Z (RV.cell 0 Z Z Z Z) (RV.tmp Z) .nil aF.nil
 refine cV<|aU<|bU Z<|dL 1 Z<|cP Z<|bU Z<|gY 1 Z Z Z Z Z Z<|aM<|aJ ?_;refine JR.start [0,1,0,4,15,31,63] 4 mixedOrders (by decide +kernel) ?_;refine JR.open (by exact rfl) ?_;refine cY Z<|jO 1 Z<|bG Z<|fN h λf p h=>JR.loud Z Z Z (aL.callQ Zr (EY U  f p) Z .nil) Z (λs=>(uZ [([1],[])] Z)) λs=>bN 4 Z Z<|cP Z<|bU Z<|gY 1 Z Z Z Z Z Z<|aM<|aU<|bU Z<|dL 1 Z<|cP Z<|bU Z<|gY 1 Z Z Z Z Z Z<|aM<|aU<|bU Z<|dL 1 Z<|aA Z<|aC (IS Z Z) Z<|aA Z<|yR Z<|bU Z<|gY 1 Z Z Z Z Z Z<|aM<|aJ<|fF (λb=>oP a f b=some r) (λb j=>[(3,vP m),(6,vP n)]) (λb j=>[bV n vD2 49,bV m [vI (wI .i64 (a.1+(1:Int))),vI (wI .i64 (a.2.1+f)),vI (b.1),vI (wI .i64 (a.2.2.1+(1:Int))),vU (b.2)] 49]) ?_ ?_
 ·refine aU<|bU Z<|dL 1 Z<|cN Z<|aM ?_;refine fC h Z (λh=>?_) λh=>?_
  ·refine aU<|bU Z<|dL 1 Z<|bU Z<|gY 1 Z Z Z Z Z Z<|aM<|aR<|aA Z<|bU Z<|gY 1 Z Z Z Z Z Z<|aM ?_;exact jP ((wI .i64 (a.2.2.1+(1:Int))),d) () h SF Z
  refine cV ?_;exact jP (a.2.2.1,(dK .u32 (tH .u32 a.2.2.2.2 g) d)) () h SF Z
 intro b j h;unfold oP at h;refine aU<|fG 1 Z<|bQ 0 (vs:=[vI (wI .i64 (a.1+(1:Int))),vI (wI .i64 (a.2.1+f)),vI (b.1),vI (wI .i64 (a.2.2.1+(1:Int))),vU (b.2)]) Z Z Z Z Z Z<|aD Z<|aM<|aS ?_;cases h;exact mS () Z Z (RV.cell 0 Z Z Z Z) (RV.tmp Z) .nil aF.nil
end Go.Proofs.YtmdlcmbplnhdnaaGreatDoor
namespace Go.Proofs.YtmdlcmbplnhdnaaGreatDoor
open Go Go.Sx
abbrev CT:=HG
theorem Ev (l:aP) (h:l.length<=900):∃b,gO 1000 l=some b:=by
 unfold gO;have:=xE (step:=h_ l) (Q:=λ_:Bool=>True) (λi:Int=>∃k:Nat,i=(k:Int)∧k<=l.length) (λi=>l.length - i.toNat) (λi f c a=>by
  obtain⟨k,rfl,g⟩:=c;unfold h_ lL;by_cases e:k<l.length
  ·rw[if_pos (by omega),cC (by omega)];split
   ·exact⟨_,rfl,trivial⟩
   ·rw[dZ (by omega)];exact a _ ⟨k+1,rfl,by omega⟩ (by omega)
  ·rw[if_neg (by omega)];exact⟨_,rfl,trivial⟩) 1000 0 ⟨0,rfl,by omega⟩ (by omega)
 obtain⟨b,d,_⟩:=this;exact⟨b,d⟩
theorem LU (k:CT):∃b,jQ 1000 k=some b:=by
 obtain⟨q,d⟩:=Ev [k.2.2.2.2] (by simp);have c:∀a,∃b,gX 1000 k a=some b:=by
  intro a;unfold gX kH;split
  ·exact⟨_,rfl⟩
  ·split
   ·exact⟨_,rfl⟩
   ·split
    ·split
     ·rw[bF d];exact⟨_,rfl⟩
     ·exact⟨_,rfl⟩
    ·exact⟨_,rfl⟩
 unfold jQ
 repeat' split
 all_goals exact c _
theorem Uo {t:Nat} (i:t<4294967296):∃n,kM 1000 (t:Int)=some n:=by
 have g:(List.length Ie:Int)=256:=by decide +kernel
 have b:∀a:Nat,a<4294967296->0<=dK .u32 (a:Int) 255∧dK .u32 (a:Int) 255<256:=λa f=>by
  rw[show(255:Int)=((255:Nat):Int)from rfl,CW f (by omega)];have:a &&& 255<=255:=Nat.and_le_right;omega
 have c:∀k:Nat,k<32->qW .u32 (t:Int) (k:Int)=((t / 2^k:Nat):Int):=λk h=>LY h;have e:qW .u32 (t:Int) 24=((t / 2^24:Nat):Int):=c 24 (by omega);have d:qW .u32 (t:Int) 16=((t / 2^16:Nat):Int):=c 16 (by omega);have j:qW .u32 (t:Int) 8=((t / 2^8:Nat):Int):=c 8 (by omega);unfold kM;rw[g,e,d,j,cC (by decide),cC (by omega),cC (by decide),cC (b _ (by omega)),cC (by decide),cC (b _ (by omega)),cC (b _ i)];exact⟨_,rfl⟩
theorem Vq (k:CT) {t:Nat} (h:t<4294967296) (e:Int):∃r,fI 1000 k (t:Int) e=some r:=by
 obtain⟨b,d⟩:=LU k;obtain⟨q,g⟩:=Ev [(t:Int),e] (by simp);obtain⟨n,f⟩:=Uo h;have c:∀a,∃r,oO 1000 k (t:Int) e a=some r:=by
  intro a;unfold oO oP;split
  ·exact⟨_,rfl⟩
  ·split
   ·exact⟨_,rfl⟩
   ·rw[bF f];split<;>exact⟨_,rfl⟩
 unfold fI;rw[bF (show jQ 1000 _=some b from d)];split
 ·exact⟨_,rfl⟩
 ·split
  ·exact c _
  ·rw[bF g];exact c _
def aO (p:sU) (g:GR):Av:=(p,g,jT g g.2.length,eS g)
def oA (S:Av) (R:List RL) (a:Nat) (c:bI):Nat:=enD S R c &&& a
theorem ZM (S:Av) (R:List RL) (c:bI) (v:Nat):(enD S R c).testBit v=(decide (v<S.2.1.2.length)&&decide (0<=dD S R c v)):=KW _ v _
theorem Mj (S:Av) (R:List RL) (a:Nat) (c:bI) (v:Nat):(oA S R a c).testBit v=true↔v<S.2.1.2.length∧0<=dD S R c v∧a.testBit v=true:=by
 unfold oA;rw[Nat.testBit_and,ZM,Bool.and_eq_true,Bool.and_eq_true,decide_eq_true_eq,decide_eq_true_eq,and_assoc]
theorem acK {S:Av} (a:VG S.2.1) (R:List RL) (c:bI):enD S R c<4294967296:=SB _ (by have:=a.n24;omega)
theorem GC (S:Av) (R:List RL) (a:Nat) (c:bI):Na S.2.1 (oA S R a c):=λi b=>((Mj S R a c i).1 b).1
def aaf (a:pF):aP:=a.map λt=>((t:Nat):Int)
end Go.Proofs.YtmdlcmbplnhdnaaGreatDoor
namespace Go.Proofs.YtmdlcmbplnhdnaaGreatDoor
open Go.Sx
def t_  (a:aP):Option aP:=
 some (a)
def qF (c:aP×Int) (b:(aP×Int)->Option aP) (a:aP):Option aP:=
 b (a,(wI .i64 (c.2+(1:Int))))
def nK (b:aP) (d:Int) (a:aP×Int) (c:(aP×Int)->Option aP):Option aP:=
 if a.2<d then(if(List.length b:Int)=(0:Int)then(ck ((List.length a.1:Int)+(List.length ([(4294967295:Int)]):Int)<=1099511627) (qF a c (a.1++([(4294967295:Int)]))))else(ck ((List.length b:Int)≠0) (ck (0<=(Int.tmod a.2 (List.length b:Int))∧(Int.tmod a.2 (List.length b:Int))<(List.length b:Int)) (ck ((List.length b:Int)≠0) (ck ((24:Int)≠0) (ck (0<=(wI .u64 (Int.tmod (wI .i64 (Int.tdiv a.2 (List.length b:Int))) (24:Int)))) (ck (0<=(wI .u64 ((24:Int) - (wI .u64 (Int.tmod (wI .i64 (Int.tdiv a.2 (List.length b:Int))) (24:Int)))))) (ck ((List.length a.1:Int)+(List.length ([(dK .u32 (LX .u32 (BG .u32 (dK .u32 (at' b (Int.tmod a.2 (List.length b:Int))) (16777215:Int)) (wI .u64 (Int.tmod (wI .i64 (Int.tdiv a.2 (List.length b:Int))) (24:Int)))) (qW .u32 (dK .u32 (at' b (Int.tmod a.2 (List.length b:Int))) (16777215:Int)) (wI .u64 ((24:Int) - (wI .u64 (Int.tmod (wI .i64 (Int.tdiv a.2 (List.length b:Int))) (24:Int))))))) (16777215:Int))]):Int)<=1099511627) (qF a c (a.1++([(dK .u32 (LX .u32 (BG .u32 (dK .u32 (at' b (Int.tmod a.2 (List.length b:Int))) (16777215:Int)) (wI .u64 (Int.tmod (wI .i64 (Int.tdiv a.2 (List.length b:Int))) (24:Int)))) (qW .u32 (dK .u32 (at' b (Int.tmod a.2 (List.length b:Int))) (16777215:Int)) (wI .u64 ((24:Int) - (wI .u64 (Int.tmod (wI .i64 (Int.tdiv a.2 (List.length b:Int))) (24:Int))))))) (16777215:Int))])))))))))))else(t_  (a.1))
def k_ (U:Nat) (a:aP) (b:Int):Option aP:=
 bK (nK a b) U (([]:aP),(0:Int))
theorem Vy:aT Tryz.prog 13:=Tryz.call13
theorem Dy (U:Nat) {a:aP} {i:Int} (n:Value) (r:aP) (h:k_ U a i=some r):
  aY Tryz.prog 13 #[n,vI (i)] [Sl yD n a] (λx:Value=>x) (λx l=>Ar oJ x r::l) (λ_ l=>l):=by
 refine aY.of Tryz.func13 Z Tryz.ntmps13 Z λc=>?_;unfold k_ at h;refine aU<|aD Z<|aM<|aU<|aD Z<|aM<|aJ<|Ei (B:=Value) (λj=>t_  j=some r) (λj k=>[(5,k)]) (λj k=>[Ar oJ k j]) ?_ ?_
 ·refine aU<|aD Z<|aM<|aV<|jD (iC oJ)<|e_ (B:=Value) (nK a i) (λb f=>[(0,n),(1,vI (i)),(5,f),(6,vI (b.2))]) (λb f=>[Ar oJ f b.1]) (([]:aP),(0:Int)) (lC) h SF (aZ.refl _) ?_;intro w b f h;refine aJ<|aU<|aA Z<|aA Z<|cX Z<|aM ?_;refine fC h Z (λh=>?_) λh=>?_
  ·refine cV<|aJ<|Ei (B:=Value) (λd=>qF b (bK (nK a i) w) d=some r) (λd g=>[(0,n),(1,vI (i)),(5,g),(6,vI (b.2))]) (λd g=>[Ar oJ g d]) ?_ ?_
   ·refine aV<|aJ<|aU<|aA Z<|kP (aE.fact 0 Z) Z<|cN Z<|aM ?_;refine fC h Z (λh=>?_) λh=>?_
    ·refine aU<|aA Z<|aG (bZ (e:=oJ) ([(4294967295:Int)]) [(0,vU (4294967295:Int))] Z Z Z Z (nQ (vU (4294967295:Int)) Z) Z Z Z) Z λC=>dH h λo h=>aG (eJ 1 sT Z Z Z (bD (aE.res 0 Z) sT) Z Z Z Z o Z) Z λy=>aD Z<|aM<|u_<|gU<|Az<|AA ?_;exact cU (b.1++([(4294967295:Int)])) (y) h SF (aZ.ix [1] Z Z) (aF.refl _ _)
    refine cV<|aJ ?_;refine JR.start [0,0,0,4,14,31,63,0,0,256,896,1920,3968,127,16383] 14 mixedOrders (by decide +kernel) ?_;refine JR.open (by exact rfl) ?_;refine bG Z<|bG Z<|bG Z<|bJ Z .nil (nA 0 Z) (jC Z (aE.fact 0 Z) Z) aK.z<|dH h λp h=>iH Z (NM Z Z p)<|dH h λm h=>bJ Z .nil (nA 0 Z) (bB Z Z (aE.fact 0 Z) Z Z m) aK.z<|bJ Z .nil (nA 0 Z) (bY Z (aE.fact 0 Z) Z Z Z Gv m) aK.z<|bG Z<|bG Z<|bJ Z .nil (nA 0 Z) (jC Z (aE.fact 0 Z) Z) aK.z<|dH h λq h=>iH Z (Vo Z Z q)<|dH h λs h=>iH Z (NM Z Z s)<|iH Z (Qf Z Z Z)<|iH Z (lJ Z)<|bN 14 Z Z<|aD Z<|aM<|aU<|aA Z<|yR Z<|aD Z<|aM<|aR<|aA Z<|aA Z<|aA Z<|dH h λt h=>aC (NN Z Z t) Z<|aA Z<|aA Z<|aC (nW Z Z) Z<|dH h λu h=>aC (KA Z Z u) Z<|aC (YR Z Z) Z<|yR Z<|aG (bZ (e:=oJ) ([(dK .u32 (LX .u32 (BG .u32 (dK .u32 (at' a (Int.tmod b.2 (List.length a:Int))) (16777215:Int)) (wI .u64 (Int.tmod (wI .i64 (Int.tdiv b.2 (List.length a:Int))) (24:Int)))) (qW .u32 (dK .u32 (at' a (Int.tmod b.2 (List.length a:Int))) (16777215:Int)) (wI .u64 ((24:Int) - (wI .u64 (Int.tmod (wI .i64 (Int.tdiv b.2 (List.length a:Int))) (24:Int))))))) (16777215:Int))]) [(0,vU (dK .u32 (LX .u32 (BG .u32 (dK .u32 (at' a (Int.tmod b.2 (List.length a:Int))) (16777215:Int)) (wI .u64 (Int.tmod (wI .i64 (Int.tdiv b.2 (List.length a:Int))) (24:Int)))) (qW .u32 (dK .u32 (at' a (Int.tmod b.2 (List.length a:Int))) (16777215:Int)) (wI .u64 ((24:Int) - (wI .u64 (Int.tmod (wI .i64 (Int.tdiv b.2 (List.length a:Int))) (24:Int))))))) (16777215:Int)))] Z Z Z Z (nQ (vU (dK .u32 (LX .u32 (BG .u32 (dK .u32 (at' a (Int.tmod b.2 (List.length a:Int))) (16777215:Int)) (wI .u64 (Int.tmod (wI .i64 (Int.tdiv b.2 (List.length a:Int))) (24:Int)))) (qW .u32 (dK .u32 (at' a (Int.tmod b.2 (List.length a:Int))) (16777215:Int)) (wI .u64 ((24:Int) - (wI .u64 (Int.tmod (wI .i64 (Int.tdiv b.2 (List.length a:Int))) (24:Int))))))) (16777215:Int))) Z) Z Z Z) Z λD=>dH h λv h=>aG (eJ 1 sT Z Z Z (bD (aE.res 0 Z) sT) Z Z Z Z v Z) Z λA=>aD Z<|eR<|o_ ?_;exact cU (b.1++([(dK .u32 (LX .u32 (BG .u32 (dK .u32 (at' a (Int.tmod b.2 (List.length a:Int))) (16777215:Int)) (wI .u64 (Int.tmod (wI .i64 (Int.tdiv b.2 (List.length a:Int))) (24:Int)))) (qW .u32 (dK .u32 (at' a (Int.tmod b.2 (List.length a:Int))) (16777215:Int)) (wI .u64 ((24:Int) - (wI .u64 (Int.tmod (wI .i64 (Int.tdiv b.2 (List.length a:Int))) (24:Int))))))) (16777215:Int))])) (A) h SF (aZ.ix [1] Z Z) (aF.refl _ _)
   intro d g h;unfold qF at h;refine aR<|aA Z<|cP Z<|aD Z<|aM ?_;exact AT (d,(wI .i64 (b.2+(1:Int)))) (g) h SF Z
  refine gK ?_;exact jP (b.1) (f) h SF Z
 intro j k h;unfold t_ at h;refine aU<|aA Z<|aD Z<|aM<|aS ?_;cases h;exact iI (k) Z Z (RV.tmp Z) (aZ.refl _) aF.nil
end Go.Proofs.YtmdlcmbplnhdnaaGreatDoor