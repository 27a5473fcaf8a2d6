/- Models and proofs. Conditions: none. -/
import Derived.Test.YtlkhndebimcbbaaGreatDoorZSSu2
import Derived.Test.YtlkhndebimcbbaaGreatDoorZSSu6
import Derived.Test.YtlkhndebimcbbaaGreatDoorZSSu3
import Derived.Test.YtlkhndebimcbbaaGreatDoorZSSu4
set_option linter.unusedVariables false
set_option linter.unusedSimpArgs false
set_option maxHeartbeats 4000000
set_option maxRecDepth 20000
namespace Go.Proofs.YtlkhndebimcbbaaGreatDoor
open Go.Sx
def sK  (a:aO):Option aO:=
 some (a)
def sL (a:kU) (c:qP->Option aO) (b:aO):Option aO:=
 c ((wI .i64 (a.1+(1:Int))),b)
def pI (d:cG) (a:kU) (e:qP->Option aO) (b:kU) (c:qP->Option aO):Option aO:=
 if b.1<(List.length (at' d.2 a.1):Int)then(ck (0<=b.1∧b.1<(List.length (at' d.2 a.1):Int)) (ck (0<=a.1∧a.1<(List.length b.2:Int)) (ck (0<=((at' (at' d.2 a.1) b.1).1)) (ck (0<=a.1∧a.1<(List.length b.2:Int)) (c ((wI .i64 (b.1+(1:Int))),(List.set b.2 (Int.toNat a.1) (MU .u32 (at' b.2 a.1) (Co .u32 (1:Int) ((at' (at' d.2 a.1) b.1).1))))))))))else(sL a e (b.2))
def kO (U:Nat) (c:cG) (a:kU) (b:qP->Option aO):Option aO:=
 if a.1<(List.length c.2:Int)then(ck (0<=a.1∧a.1<(List.length c.2:Int)) (bL (pI c a b) U ((0:Int),a.2)))else(sK  (a.2))
def nL (U:Nat) (a:cG):Option aO:=
 ck (0<=(List.length a.2:Int)∧(List.length a.2:Int)<=1099511627) (bL (kO U a) U ((0:Int),(List.replicate (Int.toNat (List.length a.2:Int)) (0:Int))))
theorem ady:aU Tryz.prog 76:=Tryz.call76
theorem IA (U:Nat) {d:cG} (v:Value)  (j:Value)  (y:lJ) (r:aO) (h:nL U d=some r):
  aY Tryz.prog 76 #[Value.agg #[v,j]] [Sl bO v d.1,S2 bA j y d.2] (λx:Value=>x) (λx l=>Ar oZ x r::l) (λ_ l=>l):=by
 refine aY.of Tryz.func76 Z Tryz.ntmps76 Z λc=>?_;refine aW<|aH (aN.box (cs:=[v,j]) Z Z) Z λD=>aE Z<|aM<|aW<|bW Z<|dN 0 Z<|aB (gQ Z (aF.fact 1 Z) Z) Z<|dB h λB h=>aH (mC (e:=oZ) (0:Int) Z Z Z Z B Z Z Z) Z λi=>aE Z<|aM<|aK<|eS (λk=>sK  k=some r) (λk w=>[(3,i)]) (λk w=>[Ar oZ i k]) ?_ ?_
 ·refine aW<|bW Z<|dN 1 Z<|aB (gQ Z (aF.fact 1 Z) Z) Z<|aA Z<|aM<|aT<|eV (kO U d) (λa m=>[(3,i),(13,j),(14,vI (List.length d.2:Int)),(15,vI (a.1))]) (λa m=>[Ar oZ i a.2]) ((0:Int),(List.replicate (Int.toNat (List.length d.2:Int)) (0:Int))) () h SF (aZ.ix [0] Z Z) ?_;intro t a m h;refine aW<|cY Z<|aM<|aK ?_;refine fJ h Z (λh=>?_) λh=>?_
  ·refine cU<|aK<|eS (λg=>sL a (bL (kO U d) t) g=some r) (λg n=>[(3,i),(13,j),(14,vI (List.length d.2:Int)),(15,vI (a.1))]) (λg n=>[Ar oZ i g]) ?_ ?_
   ·refine aT<|aW<|aA Z<|dB h λf h=>aB (cC Z Z (aF.fact 1 Z) Z Z f) Z<|aB (cE Z (aF.fact 1 Z) Z Z f) Z<|aE Z<|aE Z<|aM<|aW<|aA Z<|aB (h_ Z (aF.el (aF.fact 1 Z) f.1 f.2) Z) Z<|aA Z<|aM<|aT<|eV (pI d a (bL (kO U d) t)) (λb o=>[(3,i),(4,vI (a.1)),(13,j),(14,vI (List.length d.2:Int)),(15,vI (a.1)),(20,(at' y a.1).1),(21,vI (List.length (at' d.2 a.1):Int)),(22,vI (b.1))]) (λb o=>[Ar oZ i b.2]) ((0:Int),a.2) () h SF (aZ.refl _) ?_;intro C b o h;refine aW<|cY Z<|aM<|aK ?_;refine fJ h Z (λh=>?_) λh=>?_
    ·refine cU<|aK<|aT<|aW<|dB h λp h=>aB (bB Z Z (aF.el (aF.fact 1 Z) f.1 f.2) Z Z p) Z<|aB (jM (cs:=[vI ((at' (at' d.2 a.1) b.1).1),vI ((at' (at' d.2 a.1) b.1).2)]) Z (aF.el (aF.fact 1 Z) f.1 f.2) bU Z Z Z Z p) Z<|aH (aN.alloc (cs:=V_) Z Z) Z λA=>bT 0 (vs:=[vI ((at' (at' d.2 a.1) b.1).1),vI ((at' (at' d.2 a.1) b.1).2)]) Z Z Z Z Z Z<|aM ?_;refine JR.start [0,0,3,7,0,16,48,127,255,511] 7 mixedOrders (by decide +kernel) ?_;refine JR.open (by exact rfl) ?_;refine bH Z<|bH Z<|dB h λq h=>bK Z (aZ.cons 1 Z .nil) .nil (bB Z Z (bF (aF.res 0 Z) uV) Z Z q) aL.z<|bK Z (aZ.cons 1 Z .nil) .nil (bS Z (bF (aF.res 0 Z) uV) Z Z Z Hp q) aL.z<|dD Z<|jO 0 Z<|dB h λu h=>iX Z (OG Z Z u)<|bQ 7 Z Z<|aB (ZZ Z Z) Z<|dB h λs h=>aB (bB Z Z (bF (aF.res 1 Z) uV) Z Z s) Z<|yM 1 (MU .u32 (at' b.2 a.1) (Co .u32 (1:Int) ((at' (at' d.2 a.1) b.1).1))) s Z Z Z Z Z Z Z<|eM<|oD<|aS<|cL Z<|aA Z<|aM ?_;exact nR ((wI .i64 (b.1+(1:Int))),(List.set b.2 (Int.toNat a.1) (MU .u32 (at' b.2 a.1) (Co .u32 (1:Int) ((at' (at' d.2 a.1) b.1).1))))) () h SF (aZ.ix [1] Z Z) (aG.refl _ _)
    refine s_<|fW<|fW<|zO<|oD ?_;exact jG (b.2) () h SF Z
   intro g n h;unfold sL at h;refine aS<|cL Z<|aA Z<|aM ?_;exact Al ((wI .i64 (a.1+(1:Int))),g) () h SF Z
  refine fV ?_;exact jG (a.2) () h SF Z
 intro k w h;unfold sK at h;refine aW<|aA Z<|aE Z<|aM<|aV ?_;cases h;exact hZ (i) Z Z (RV.tmp Z) (aZ.refl _) aG.nil
end Go.Proofs.YtlkhndebimcbbaaGreatDoor
namespace Go.Proofs.YtlkhndebimcbbaaGreatDoor
open Go Go.Sx
structure UK (m k:Nat):Prop where
 bit:m.testBit k=true
 low:∀j,j<k->m.testBit j=false
theorem Ns {m:Nat} (h:m≠0):∃k,UK m k:=by
 obtain⟨i,c⟩:=Nat.exists_testBit_of_ne_zero h;obtain⟨k,_,a,b⟩:=Gy (p:=λi=>m.testBit i=true) i c;exact⟨k,a,λj d=>by simpa using b j d⟩
theorem PI {m k:Nat} (h:UK m k) (i:Nat):(m - 1).testBit i=if i<k then true else if i=k then false else m.testBit i:=by
 have b:m=2^(k+1)*(m / 2^(k+1))+2^k:=by
  refine Nat.eq_of_testBit_eq λi=> ?_;have a:2^k<2^(k+1):=Nat.pow_lt_pow_right (by omega) (by omega);rw[Nat.testBit_two_pow_mul_add _ a,Nat.testBit_two_pow,Nat.testBit_div_two_pow];rcases Nat.lt_trichotomy i k with q|q|q
  ·rw[if_pos (by omega),h.low i q,decide_eq_false (by omega)]
  ·subst q;rw[if_pos (by omega),h.bit,decide_eq_true Z]
  ·rw[if_neg (by omega),show i - (k+1)+(k+1)=i by omega]
 have c:0<2^k:=Nat.pow_pos (by omega);have a:2^k - 1<2^(k+1):=by rw[Nat.pow_succ];omega
 have e:m - 1=2^(k+1)*(m / 2^(k+1))+(2^k - 1):=by omega
 rw[e,Nat.testBit_two_pow_mul_add _ a,Nat.testBit_two_pow_sub_one,Nat.testBit_div_two_pow];rcases Nat.lt_trichotomy i k with q|q|q
 ·rw[if_pos (by omega),if_pos q,decide_eq_true q]
 ·subst q;rw[if_pos (by omega),if_neg (by omega),if_pos Z,decide_eq_false (by omega)]
 ·rw[if_neg (by omega),if_neg (by omega),if_neg (by omega),show i - (k+1)+(k+1)=i by omega]
theorem ajP {m:Nat} (b:m<4294967296) (a:m≠0):wI .u32 (0 - (m:Int))=((4294967296 - m:Nat):Int):=by
 rw[Es];have:IntKind.u32.wrap (0 - (m:Int))=(0 - (m:Int))%4294967296:=rfl;rw[this];omega
theorem ahb {m:Nat} (b:m<4294967296) (a:m≠0):wI .u32 ((m:Int) - 1)=((m - 1:Nat):Int):=by
 rw[show(m:Int) - 1=((m - 1:Nat):Int) by omega,Es,MB _ (by omega)]
theorem aes {m k:Nat} (a:m<4294967296) (h:UK m k):dM .u32 (m:Int) (wI .u32 (0 - (m:Int)))=((2^k:Nat):Int):=by
 have b:m≠0:=λe=>by have:=h.bit;rw[e]at this;simp at this
 have c:k<32:=Hs a h.bit;rw[ajP a b,DI a (by omega)];congr 1;refine Nat.eq_of_testBit_eq λi=> ?_;rw[Nat.testBit_and,show 4294967296 - m=2^32 - ((m - 1)+1) by omega,Nat.testBit_two_pow_sub_succ (by omega),Nat.testBit_two_pow,PI h];rcases Nat.lt_trichotomy i k with q|q|q
 ·rw[h.low i q,decide_eq_false (show¬k=i by omega)];rfl
 ·subst q;rw[h.bit,if_neg (by omega),if_pos Z,decide_eq_true c,decide_eq_true Z];rfl
 ·rw[if_neg (by omega),if_neg (by omega),decide_eq_false (show¬k=i by omega)];cases m.testBit i<;>simp
theorem Rq {m k:Nat} (a:m<4294967296) (h:UK m k):∃b:Nat,dM .u32 (m:Int) (wI .u32 ((m:Int) - 1))=(b:Int)∧b<4294967296∧∀i,b.testBit i=(m.testBit i&&decide (i≠k)):=by
 have c:m≠0:=λe=>by have:=h.bit;rw[e]at this;simp at this
 refine⟨m &&& (m - 1),by rw[ahb a c,DI a (by omega)],Rh a,λi=> ?_⟩
 rw[Nat.testBit_and,PI h];rcases Nat.lt_trichotomy i k with q|q|q
 ·rw[h.low i q];rfl
 ·subst q;simp
 ·rw[if_neg (by omega),if_neg (by omega)];have:decide (i≠k)=true:=decide_eq_true (by omega);rw[this];cases m.testBit i<;>rfl
theorem aeT:∀k:Fin 32,((0:Int)<=rO .u32 (wI .u32 ((((2^k.val:Nat):Int))*125613361)) 27∧rO .u32 (wI .u32 ((((2^k.val:Nat):Int))*125613361)) 27<((32:Nat):Int))∧wI .i64 (at' w_ (rO .u32 (wI .u32 ((((2^k.val:Nat):Int))*125613361)) 27))=(k.val:Int):=by decide +kernel
theorem acC (f:Nat) {m k:Nat} (a:m<4294967296) (h:UK m k):jP f (m:Int)=some (k:Int):=by
 have d:m≠0:=λe=>by have:=h.bit;rw[e]at this;simp at this
 obtain⟨b,c⟩:=aeT ⟨k,Hs a h.bit⟩;unfold jP;rw[if_neg (by omega),bZ (by decide),aes a h,bZ ⟨b,rfl⟩,c]

structure Ol (g:GR) (r:aO):Prop where
 len:r.length=g.2.length
 at':∀v:Nat,v<g.2.length->∃m:Nat,Go.Sx.at' r (v:Int)=(m:Int)∧m<4294967296∧∀u,m.testBit u=true↔KZ g v u
theorem aez {g:GR} (I:VG g):∃r,nL 1000 g=some r∧Ol g r:=by
 have R:=I.n24;unfold nL;rw[bZ (by omega)];obtain⟨⟨a,r⟩,⟨y,B,C⟩,J⟩:=BW (step:=kO 1000 g) (K:=λz=>some z.2) g.2.length
  (λk z=>z.1=(k:Int)∧z.2.length=g.2.length∧∀v:Nat,v<g.2.length->∃m:Nat,Go.Sx.at' z.2 (v:Int)=(m:Int)∧m<4294967296∧∀u,m.testBit u=true↔v<k∧KZ g v u) (λk z E M G=>by
  obtain⟨a,r⟩:=z;obtain⟨y,B,C⟩:=G;dsimp only at y B C;subst y;have O:=(I.node k M).deg;obtain⟨⟨b,U⟩,⟨s,d,c⟩,J⟩:=BW (step:=pI g ((k:Int),r) E) (K:=λz=>E (((k+1:Nat):Int),z.2)) (row g k).length
   (λj z=>z.1=(j:Int)∧z.2.length=g.2.length∧∀v:Nat,v<g.2.length->∃m:Nat,Go.Sx.at' z.2 (v:Int)=(m:Int)∧m<4294967296∧∀u,m.testBit u=true↔(v<k∧KZ g v u)∨(v=k∧∃i,i<j∧(fK (row g k) i).1=(u:Int))) (λj z F S H=>by
   obtain⟨b,q⟩:=z;obtain⟨s,d,c⟩:=H;dsimp only at s d c;subst s;obtain⟨w,V,x,N⟩:=I.port M S;obtain⟨m,T,l,t⟩:=c k M;refine⟨(((j+1:Nat):Int),q.set k (((m ||| 2^w:Nat)):Int)),⟨rfl,by simpa using d,λv f=> ?_⟩,?_⟩
   ·show∃P,Go.Sx.at' (q.set k _) (v:Int)=_∧_;rw[tE q k v _ (by omega)];by_cases e:v=k
    ·subst e;refine⟨_,if_pos Z,acv l (Im (by omega)),λu=> ?_⟩
     rw[Nat.testBit_or,Nat.testBit_two_pow,Bool.or_eq_true,t u,decide_eq_true_eq];constructor
     ·rintro((h|⟨_,i,A,h⟩)|h)
      ·exact .inl h
      ·exact .inr ⟨rfl,i,by omega,h⟩
      ·exact .inr ⟨rfl,j,by omega,by rw[x,h]⟩
     ·rintro(h|⟨_,i,A,h⟩)
      ·exact .inl (.inl h)
      ·by_cases L:i=j
       ·subst L;right;rw[x]at h;omega
       ·exact .inl (.inr ⟨rfl,i,by omega,h⟩)
    ·obtain⟨P,n,o,p⟩:=c v f;refine⟨P,by rw[if_neg e];exact n,o,λu=> ?_⟩
     rw[p u];constructor
     ·rintro(h|⟨h,_⟩)
      ·exact .inl h
      ·exact absurd h e
     ·rintro(h|⟨h,_⟩)
      ·exact .inl h
      ·exact absurd h e
   ·unfold pI;dsimp only;rw[if_pos (show(j:Int)<((row g k).length:Int) by omega),bZ (show 0<=(j:Int)∧(j:Int)<((row g k).length:Int) by omega),bZ (by omega),show Go.Sx.at' (Go.Sx.at' g.2 (k:Int)) (j:Int)=fK (row g k) j from rfl,x,bZ (by omega),bZ (by omega),T,Rj l (by omega),fC (by omega),Int.toNat_natCast]) (λz F H=>by
   obtain⟨b,q⟩:=z;obtain⟨s,d,c⟩:=H;dsimp only at s d c;subst s;unfold pI sL;dsimp only;rw[if_neg (show¬((row g k).length:Int)<((row g k).length:Int) by omega),fC (by omega)]) 1000 ((0:Int),r) ⟨rfl,B,λv f=>by
    obtain⟨m,n,o,p⟩:=C v f;refine⟨m,n,o,λu=> ?_⟩
    rw[p u];constructor
    ·exact λh=> .inl h
    ·rintro(h|⟨_,i,A,_⟩)
     ·exact h
     ·omega⟩ (by omega)
  dsimp only at s d c;refine⟨(((k+1:Nat):Int),U),⟨rfl,d,λv f=> ?_⟩,?_⟩
  ·obtain⟨m,n,o,p⟩:=c v f;refine⟨m,n,o,λu=> ?_⟩
   rw[p u];constructor
   ·rintro(⟨Q,D⟩|⟨rfl,i,A,h⟩)
    ·exact⟨by omega,D⟩
    ·exact⟨by omega,i,A,h⟩
   ·rintro⟨Q,D⟩;by_cases e:v=k
    ·subst e;obtain⟨i,A,h⟩:=D;exact .inr ⟨rfl,i,A,h⟩
    ·exact .inl ⟨by omega,D⟩
  ·unfold kO;dsimp only;rw[if_pos (by omega),bZ (by omega)];exact J) (λz E G=>by
  obtain⟨a,r⟩:=z;obtain⟨y,B,C⟩:=G;dsimp only at y;subst y;unfold kO sK;dsimp only;rw[if_neg (by omega)]) 1000 ((0:Int),List.replicate (Int.toNat (g.2.length:Int)) (0:Int)) ⟨rfl,by simp,λv f=>⟨0,by
   rw[Int.toNat_natCast,lN (by simpa using f)];simp,by omega,λu=>by simp⟩⟩ (by omega)
 refine⟨r,J,B,λv f=> ?_⟩
 obtain⟨m,n,o,p⟩:=C v f;exact⟨m,n,o,λu=>by rw[p u];exact⟨λh=>h.2,λh=>⟨f,h⟩⟩⟩
def QI (g:GR) (m:Nat):Prop:=∀i,m.testBit i=true->i<g.2.length
theorem QI.lt {g:GR} (b:VG g) {m:Nat} (h:QI g m):m<16777216:=by
 have a:=b.n24;refine Nat.lt_of_lt_of_le (Nat.lt_pow_two_of_testBit (n:=24) m λi d=> ?_) (Nat.le_refl _);cases c:m.testBit i with
 |false=>rfl
 |true=>have:=h i c;omega
theorem agq {m:Nat} (h:∀i,i<32->m.testBit i=false) (b:m<4294967296):m=0:=by
 refine Nat.eq_of_testBit_eq λi=> ?_;rw[Nat.zero_testBit];rcases Nat.lt_or_ge i 32 with q|q
 ·exact h i q
 ·cases a:m.testBit i with
  |false=>rfl
  |true=>have:=Hs b a;omega
theorem RP {g:GR} (z:VG g) {r:aO} (y:Ol g r) {t:Nat} (C:QI g t) (n:∀v u,t.testBit v=true->t.testBit u=true->¬KZ g v u) (F:Nat):∀(d s a b:Nat),s+d=32->b<4294967296->(∀i,i<s->b.testBit i=false)->(∀i,b.testBit i=true->t.testBit i=true)->d<a->
  bL (gF F r (t:Int)) a (b:Int)=some true:=by
 have J:=z.n24;have p:t<4294967296:=by have:=C.lt z;omega
 intro d
 induction d using Nat.strongRecOn with
 | _ d ih =>
  intro s a b P B o c O;obtain⟨a,rfl⟩:∃f,a=f+1:=⟨a - 1,by omega⟩
  show gF F r (t:Int) (b:Int) (bL _ a)=_;unfold gF jH;by_cases G:b=0
  ·rw[if_neg (by omega)]
  obtain⟨k,l⟩:=Ns G;have w:=C k (c k l.bit);have K:s<=k:=by
   rcases Nat.lt_or_ge k s with q|q
   ·have:=l.bit;rw[o k q]at this;cases this
   ·exact q
  obtain⟨m,L,h,j⟩:=y.at' k w;rw[if_pos (by omega),bG (acC F B l),bZ (by have:=y.len;omega),L,DI h p];have M:m &&& t=0:=by
   refine agq (λi _=> ?_) (Rh h);rw[Nat.testBit_and];cases H:m.testBit i with
   |false=>rfl
   |true=>
    cases I:t.testBit i with
    |false=>rfl
    |true=>exact absurd ((j i).1 H) (n k i (c k l.bit) I)
  rw[M,if_neg (by simp)];obtain⟨N,D,E,x⟩:=Rq B l;rw[D];have A:k<32:=by omega
  refine ih (32 - (k+1)) (by omega) (k+1) a N (by omega) E (λi n=> ?_) (λi n=> ?_) (by omega)
  ·rw[x];by_cases e:i=k
   ·simp[e]
   ·rw[l.low i (by omega)];rfl
  ·rw[x,Bool.and_eq_true]at n;exact c i n.1
theorem Iv {g:GR} (a:VG g) {r:aO} (d:Ol g r) {t:Nat} (c:QI g t) (b:∀v u,t.testBit v=true->t.testBit u=true->¬KZ g v u):gU 1000 r (t:Int)=some true:=
 RP a d c b 1000 32 0 1000 t (by omega) (by have:=c.lt a;omega) (λi b=>by omega) (λi h=>h) (by omega)
theorem Pb {g:GR} (M:VG g) {r:aO} (T:Ol g r) {W:Nat} (U:QI g W) (F:Nat):∀(d s a b t:Nat),s+d=32->b<4294967296->t<4294967296->(∀i,i<s->b.testBit i=false)->(∀i,b.testBit i=true->W.testBit i=true)->(∀i,t.testBit i=true->W.testBit i=true)->(∀v u,t.testBit v=true->t.testBit u=true->¬KZ g v u)->(W≠0->t≠0∨b=W)->d<a->
  ∃C:Nat,bL (dX F r) a ((b:Int),(t:Int))=some (C:Int)∧C<4294967296∧(∀i,C.testBit i=true->W.testBit i=true)∧(∀v u,C.testBit v=true->C.testBit u=true->¬KZ g v u)∧(W≠0->C≠0):=by
 have aa:=M.n24;intro d
 induction d using Nat.strongRecOn with
 | _ d ih =>
  intro s a b t hs V c I w n j O hf;obtain⟨a,rfl⟩:∃f,a=f+1:=⟨a - 1,by omega⟩
  have P:bL (dX F r) (a+1) ((b:Int),(t:Int))=dX F r ((b:Int),(t:Int)) (bL (dX F r) a):=rfl;rw[P];unfold dX lM i_;dsimp only;by_cases S:b=0
  ·rw[if_neg (by omega)];refine⟨t,rfl,c,n,j,λX=> ?_⟩
   rcases O X with h|h
   ·exact h
   ·exact absurd (h.symm.trans S) X
  obtain⟨k,D⟩:=Ns S;have E:=w k D.bit;have G:=U k E;have ab:s<=k:=by
   rcases Nat.lt_or_ge k s with q|q
   ·have:=D.bit;rw[I k q]at this;cases this
   ·exact q
  obtain⟨m,hm,J,A⟩:=T.at' k G;obtain⟨L,Y,Q,R⟩:=Rq V D;have p:k<32:=by omega
  have x:∀i,i<k+1->L.testBit i=false:=λi l=>by
   rw[R];by_cases e:i=k
   ·simp[e]
   ·rw[D.low i (by omega)];rfl
  have z:∀i,L.testBit i=true->W.testBit i=true:=λi l=>by
   rw[R,Bool.and_eq_true]at l;exact w i l.1
  rw[if_pos (by omega),bG (acC F V D),bZ (by have:=T.len;omega),hm,DI J c,Y];by_cases K:m &&& t=0
  ·rw[K,if_pos (by rfl),bZ (by omega),Rj c p];have H:(t ||| 2^k).testBit k=true:=by rw[Nat.testBit_or,Nat.testBit_two_pow];simp
   have y:∀u,t.testBit u=true->¬KZ g k u:=λu o N=>by
    have:=congrArg (λq=>q.testBit u) K;simp only[Nat.testBit_and,Nat.zero_testBit,(A u).2 N,o]at this;cases this
   refine ih (32 - (k+1)) (by omega) (k+1) a L (t ||| 2^k) (by omega) Q (acv c (Im p)) x z (λi l=> ?_) (λv u B o=> ?_) (λ_=> .inl λe=>by rw[e]at H;simp at H) (by omega)
   ·rw[Nat.testBit_or,Nat.testBit_two_pow,Bool.or_eq_true,decide_eq_true_eq]at l;rcases l with l|rfl
    ·exact n i l
    ·exact E
   ·rw[Nat.testBit_or,Nat.testBit_two_pow,Bool.or_eq_true,decide_eq_true_eq]at B o;rcases B with B|rfl
    ·rcases o with o|rfl
     ·exact j v u B o
     ·exact λN=>y v B (M.back (U v (n v B)) N)
    ·rcases o with o|rfl
     ·exact y u o
     ·rintro⟨i,l,he⟩;exact((M.node k G).links i l).2.1 he
  ·rw[if_neg (by omega)];refine ih (32 - (k+1)) (by omega) (k+1) a L t (by omega) Q c x z n j (λ_=> .inl λe=> ?_) (by omega);rw[e]at K;exact K (Nat.and_zero m)
theorem Sk {g:GR} (D:VG g) {r:aO} (M:Ol g r) {a:Int} (aa:1<=a) (ab:a<=4) {e w:Nat} (E:QI g e) (Q:w<4294967296):
  ∃t:Nat,eK 1000 r a (e:Int) (w:Int)=some (t:Int)∧(∀i,t.testBit i=true->e.testBit i=true)∧(e≠0->t≠0∧fQ 1000 r a (e:Int) (t:Int)=some true∧(a<=2->∀v u,t.testBit v=true->t.testBit u=true->¬KZ g v u)∧(a=4->t=e)):=by
 have N:=E.lt D;have f:e<4294967296:=by omega
 -- the wish
 obtain⟨W,V,m,l,o,X⟩:∃W:Nat,eK 1000 r a (e:Int) (w:Int)=iZ 1000 r a (e:Int) (W:Int)∧W<4294967296∧(∀i,W.testBit i=true->e.testBit i=true)∧(e≠0->W≠0)∧(e=0->W=0):=by
  unfold eK;rw[DI Q f];by_cases G:w &&& e=0
  ·rw[G,if_pos (show((0:Nat):Int)=0 from rfl)];by_cases c:e=0
   ·refine⟨0,by rw[c];rfl,by omega,λi h=>by simp at h,λh=>absurd c h,λ_=>rfl⟩
   ·obtain⟨k,p⟩:=Ns c;have n:=Hs f p.bit;refine⟨2^k,by rw[aes f p],Im n,λi h=> ?_,λ_=>Nat.ne_of_gt (Nat.pow_pos (by omega)),λh=>absurd h c⟩
    rw[Nat.testBit_two_pow,decide_eq_true_eq]at h;rw[<-h];exact p.bit
  ·rw[if_neg (by omega)];refine⟨w &&& e,rfl,Rh Q,λi h=> ?_,λ_=>G,λh=>by rw[h];exact Nat.and_zero w⟩
   rw[Nat.testBit_and,Bool.and_eq_true]at h;exact h.2
 have s:QI g W:=λi F=>E i (l i F);have d:∀(t:Nat),t≠0->t<4294967296->(∀i,t.testBit i=true->e.testBit i=true)->∀b,(if a=1 then some (decide ((dM .u32 (t:Int) (wI .u32 ((t:Int) - 1)))=0))else if a=2 then(Option.bind (gU 1000 r (t:Int)) λr7=>some r7)else if a=4 then some (decide ((t:Int)=(e:Int)))else some true)=some b->fQ 1000 r a (e:Int) (t:Int)=some b:=by
  intro t G J A b Y;unfold fQ lL;have hd:Fa t e=0:=by
   refine Nat.eq_of_testBit_eq λi=> ?_;rw[LF J f,Nat.zero_testBit];cases H:t.testBit i with
   |false=>rfl
   |true=>rw[A i H];rfl
  rw[if_neg (by omega),OI,hd,if_neg (by simp)];exact Y
 rw[V];unfold iZ;by_cases y:a=1
 ·rw[if_pos y];by_cases x:W=0
  ·refine⟨0,by rw[x];rfl,λi h=>by simp at h,λh=>absurd x (o h)⟩
  ·obtain⟨k,p⟩:=Ns x;have n:=Hs m p.bit;have U:UK (2^k) k:=⟨by rw[Nat.testBit_two_pow];simp,λj hj=>by rw[Nat.testBit_two_pow];exact decide_eq_false (by omega)⟩
   refine⟨2^k,by rw[aes m p],λi h=> ?_,λc=>⟨Nat.ne_of_gt (Nat.pow_pos (by omega)),?_,λ_ v u P O z=> ?_,λh=>by omega⟩⟩
   ·rw[Nat.testBit_two_pow,decide_eq_true_eq]at h;rw[<-h];exact l k p.bit
   ·refine d _ (Nat.ne_of_gt (Nat.pow_pos (by omega))) (Im n) (λi h=> ?_) true ?_
    ·rw[Nat.testBit_two_pow,decide_eq_true_eq]at h;rw[<-h];exact l k p.bit
    ·obtain⟨m',R,e2,S⟩:=Rq (Im n) U;rw[if_pos y,R];have:m'=0:=Nat.eq_of_testBit_eq λi=>by
      rw[S,Nat.testBit_two_pow,Nat.zero_testBit];by_cases q:k=i
      ·simp[q]
      ·simp[q]
     rw[this];rfl
   ·rw[Nat.testBit_two_pow,decide_eq_true_eq]at P O;subst P;subst O;obtain⟨i,F,E⟩:=z;exact((D.node k (s k p.bit)).links i F).2.1 E
 rw[if_neg y];by_cases B:a=2
 ·rw[if_pos B];obtain⟨t,H,T,I,K,L⟩:=Pb D M s 1000 32 0 1000 W 0 (by omega) m (by omega) (λi F=>by omega) (λi h=>h) (λi h=>by simp at h) (λv u h=>by simp at h) (λ_=> .inr Z) (by omega);refine⟨t,H,λi h=>l i (I i h),λc=>⟨L (o c),?_,λ_=>K,λh=>by omega⟩⟩
  refine d t (L (o c)) T (λi h=>l i (I i h)) true ?_;rw[if_neg y,if_pos B,bG (Iv D M (λi h=>s i (I i h)) K)]
 rw[if_neg B];by_cases C:a=4
 ·rw[if_pos C];refine⟨e,rfl,λi h=>h,λc=>⟨c,d e c f (λi h=>h) true ?_,λh=>by omega,λ_=>rfl⟩⟩
  rw[if_neg y,if_neg B,if_pos C];simp
 ·rw[if_neg C];refine⟨W,rfl,l,λc=>⟨o c,d W (o c) m l true ?_,λh=>by omega,λh=>absurd h C⟩⟩
  rw[if_neg y,if_neg B,if_neg C]
end Go.Proofs.YtlkhndebimcbbaaGreatDoor
namespace Go.Proofs.YtlkhndebimcbbaaGreatDoor
open Go.Sx
def yF  (a:Int):Option (Int):=
 some (a)
def tS (c:aO) (a:fF) (b:iQ->Option (Int)):Option (Int):=
 if a.2<(List.length c:Int)then(ck (0<=a.2∧a.2<(List.length c:Int)) (b ((max a.1 (at' c a.2)),(wI .i64 (a.2+(1:Int))))))else(yF  (a.1))
def Ae (U:Nat) (a:aO):Option (Int):=
 if(List.length a:Int)<(1:Int)then(none)else(ck (0<=(0:Int)∧(0:Int)<(List.length a:Int)) (bL (tS a) U ((at' a (0:Int)),(1:Int))))
theorem aaw:aU Tryz.prog 123:=Tryz.call123
theorem NM (U:Nat) {f:aO} (g:Value) (r:Int) (h:Ae U f=some r):
  aY Tryz.prog 123 #[g] [Sl bO g f] (λx:Unit=>vI (r)) (λx l=>l) (λ_ l=>l):=by
 refine aY.of Tryz.func123 Z Tryz.ntmps123 Z λc=>?_;refine aW<|aE Z<|aM<|aK<|aW<|aA Z<|kT (aF.fact 0 Z) Z<|cY Z<|aM ?_;refine fJ h Z (λh=>?_) λh=>?_
 ·refine aS ?_;cases h
 refine cU<|aW<|aA Z<|dB h λj h=>aB (bB Z Z (aF.fact 0 Z) Z Z j) Z<|aB (bS Z (aF.fact 0 Z) Z Z Z cX j) Z<|aE Z<|aM<|aK<|eS (λb=>yF  b=some r) (λb i=>[(3,vI (b))]) (λb i=>[]) ?_ ?_
 ·refine aW<|aE Z<|aM<|aT<|eV (tS f) (λa d=>[(0,g),(3,vI (a.1)),(4,vI (a.2))]) (λa d=>[]) ((at' f (0:Int)),(1:Int)) () h SF (aZ.refl _) ?_;intro k a d h;refine aK<|aW<|aA Z<|aA Z<|kT (aF.fact 0 Z) Z<|cY Z<|aM ?_;refine fJ h Z (λh=>?_) λh=>?_
  ·refine cU<|aK<|aT<|aS<|aA Z<|aA Z<|aA Z<|dB h λe h=>aB (bB Z Z (aF.fact 0 Z) Z Z e) Z<|aB (bS Z (aF.fact 0 Z) Z Z Z cX e) Z<|aB (OE Z Z) Z<|aE Z<|eM<|oD<|aS<|aA Z<|cL Z<|aE Z<|aM ?_;exact Al ((max a.1 (at' f a.2)),(wI .i64 (a.2+(1:Int)))) () h SF Z
  refine fV ?_;exact jG (a.1) () h SF Z
 intro b i h;unfold yF at h;refine aW<|aA Z<|aE Z<|aM<|aV ?_;cases h;exact lP Z
def nV (U:Nat) (a:Er) (b:cG) (d:Int):Option iQ:=
 Option.bind (Ae U b.1) λc=>(some (a.2.2.1,(wI .i64 ((wI .i64 (a.2.2.2.1+(wI .i64 (a.2.2.2.2.1*(List.length b.1:Int)))))+(wI .i64 (a.2.2.2.2.2*c))))))
theorem aav:aU Tryz.prog 122:=Tryz.call122
theorem GX (U:Nat) {a:Er} {d:cG} {f:Int} (b:Value)  (e:Value)  (k:lJ) (r:fF) (h:nV U a d f=some r):
  aY Tryz.prog 122 #[Value.agg #[vS (a.1),vI (a.2.1),vI (a.2.2.1),vI (a.2.2.2.1),vI (a.2.2.2.2.1),vI (a.2.2.2.2.2)],Value.agg #[b,e],vI (f)] [Sl bO b d.1,S2 bA e k d.2] (λx:Unit=>Value.tuple #[vI (r.1),vI (r.2)]) (λx l=>l) (λ_ l=>l):=by
 refine aY.of Tryz.func122 Z Tryz.ntmps122 Z λc=>?_;refine aW<|aH (aN.box (cs:=[vS (a.1),vI (a.2.1),vI (a.2.2.1),vI (a.2.2.2.1),vI (a.2.2.2.2.1),vI (a.2.2.2.2.2)]) Z Z) Z λm=>aH (aN.box (cs:=[b,e]) Z Z) Z λn=>aE Z<|aE Z<|aM<|aK ?_;refine JR.start [0,1,0,4,0,16,0,64,192,496,1020,0,2048,0,8192,24576,63488,131068,57347,524287] 19 mixedOrders (by decide +kernel) ?_;refine JR.open (by exact rfl) ?_;refine dD Z<|jO 1 Z<|dD Z<|jO 1 Z<|dD Z<|jO 1 Z<|dD Z<|jO 0 Z<|bK Z .nil (lE 0 Z) (h_ Z (aF.fact 0 Z) Z) aL.z<|iX Z (By Z Z)<|iX Z (y_ Z Z)<|dD Z<|jO 1 Z<|dD Z<|jO 0 Z<|fU h λg i h=>JR.loud Z Z Z (aN.callQ aaw (NM U b g i) Z (oO [0] Z)) Z (λj=>(vY [([1],[]),([],[0]),([0],[]),([1],[]),([1],[]),([1],[])] Z)) λj=>iX Z (By Z Z)<|iX Z (y_ Z Z)<|iX Z (mE Z)<|bQ 19 Z Z<|aE Z<|aM<|aV ?_;cases h;exact lK () Z Z (RV.tmp Z) (RV.tmp Z) .nil aG.nil
def rA (U:Nat) (a:Er) (b:cG) (c:Int):Option iQ:=
 some ((0:Int),(1:Int))
theorem aax:aU Tryz.prog 124:=Tryz.call124
theorem GY (U:Nat) {a:Er} {b:cG} {f:Int} (d:Value)  (e:Value)  (g:lJ) (r:fF) (h:rA U a b f=some r):
  aY Tryz.prog 124 #[Value.agg #[vS (a.1),vI (a.2.1),vI (a.2.2.1),vI (a.2.2.2.1),vI (a.2.2.2.2.1),vI (a.2.2.2.2.2)],Value.agg #[d,e],vI (f)] [Sl bO d b.1,S2 bA e g b.2] (λx:Unit=>Value.tuple #[vI (r.1),vI (r.2)]) (λx l=>l) (λ_ l=>l):=by
 refine aY.of Tryz.func124 Z Tryz.ntmps124 Z λc=>?_;unfold rA at h;refine aW<|aH (aN.box (cs:=[vS (a.1),vI (a.2.1),vI (a.2.2.1),vI (a.2.2.2.1),vI (a.2.2.2.2.1),vI (a.2.2.2.2.2)]) Z Z) Z λi=>aH (aN.box (cs:=[d,e]) Z Z) Z λj=>aE Z<|aE Z<|aM<|aW<|aE Z<|aE Z<|aM<|aV ?_;cases h;exact lK () Z Z (RV.tmp Z) (RV.tmp Z) .nil aG.nil
def nW (U:Nat) (c:Er) (b:cG) (a:Int):Option iQ:=
 ck (0<=a∧a<(List.length b.2:Int)) (some ((-1:Int),(wI .i64 ((List.length (at' b.2 a):Int) - (1:Int)))))
theorem aay:aU Tryz.prog 125:=Tryz.call125
theorem GZ (U:Nat) {a:Er} {d:cG} {g:Int} (e:Value)  (f:Value)  (i:lJ) (r:fF) (h:nW U a d g=some r):
  aY Tryz.prog 125 #[Value.agg #[vS (a.1),vI (a.2.1),vI (a.2.2.1),vI (a.2.2.2.1),vI (a.2.2.2.2.1),vI (a.2.2.2.2.2)],Value.agg #[e,f],vI (g)] [Sl bO e d.1,S2 bA f i d.2] (λx:Unit=>Value.tuple #[vI (r.1),vI (r.2)]) (λx l=>l) (λ_ l=>l):=by
 refine aY.of Tryz.func125 Z Tryz.ntmps125 Z λc=>?_;refine aW<|aH (aN.box (cs:=[vS (a.1),vI (a.2.1),vI (a.2.2.1),vI (a.2.2.2.1),vI (a.2.2.2.2.1),vI (a.2.2.2.2.2)]) Z Z) Z λj=>aH (aN.box (cs:=[e,f]) Z Z) Z λk=>aE Z<|aE Z<|aM<|aK ?_;refine JR.start [0,1,0,7,15,31,63,0,255] 8 mixedOrders (by decide +kernel) ?_;refine JR.open (by exact rfl) ?_;refine dD Z<|jO 0 Z<|bH Z<|dB h λb h=>bK Z .nil (lE 1 Z) (cC Z Z (aF.fact 0 Z) Z Z b) aL.z<|bK Z .nil (lE 1 Z) (cE Z (aF.fact 0 Z) Z Z b) aL.z<|bK Z .nil (lE 1 Z) (h_ Z (aF.el (aF.fact 0 Z) b.1 b.2) Z) aL.z<|iX Z (qX Z Z)<|iX Z (mE Z)<|bQ 8 Z Z<|aE Z<|aM<|aV ?_;cases h;exact lK () Z Z (RV.tmp Z) (RV.tmp Z) .nil aG.nil
def xN  (a:Unit):Option iQ:=
 some ((0:Int),(-1:Int))
def l_ (c:Int) (a:(Int)->Option iQ) (b:Unit):Option iQ:=
 a (wI .i64 (c+(1:Int)))
def eG (U:Nat) (a:Er) (d:cG) (h:Int) (b:Int) (c:(Int)->Option iQ):Option iQ:=
 if b<(List.length ([((1:Int),(122:Nat)),((2:Int),(124:Nat)),((3:Int),(125:Nat))]):Int)then(ck (0<=b∧b<(List.length ([((1:Int),(122:Nat)),((2:Int),(124:Nat)),((3:Int),(125:Nat))]):Int)) (if b=(0:Int)then(if(1:Int)=a.2.1 then(Option.bind (nV U ((a.1,a.2.1,a.2.2.1,a.2.2.2.1,a.2.2.2.2.1,a.2.2.2.2.2)) ((d.1,d.2)) h) λe=>(some (e.1,e.2)))else(l_ b c (())))else(if b=(1:Int)then(if(2:Int)=a.2.1 then(Option.bind (rA U ((a.1,a.2.1,a.2.2.1,a.2.2.2.1,a.2.2.2.2.1,a.2.2.2.2.2)) ((d.1,d.2)) h) λf=>(some (f.1,f.2)))else(l_ b c (())))else(if(3:Int)=a.2.1 then(Option.bind (nW U ((a.1,a.2.1,a.2.2.1,a.2.2.2.1,a.2.2.2.2.1,a.2.2.2.2.2)) ((d.1,d.2)) h) λg=>(some (g.1,g.2)))else(l_ b c (()))))))else(xN  (()))
def jV (U:Nat) (a:Er) (b:cG) (c:Int):Option iQ:=
 bL (eG U a b c) U (0:Int)
theorem Xf:aU Tryz.prog 91:=Tryz.call91
theorem Dj (U:Nat) {a:Er} {p:cG} {m:Int} (g:Value)  (i:Value)  (y:lJ) (r:fF) (h:jV U a p m=some r):
  aY Tryz.prog 91 #[Value.agg #[vS (a.1),vI (a.2.1),vI (a.2.2.1),vI (a.2.2.2.1),vI (a.2.2.2.2.1),vI (a.2.2.2.2.2)],Value.agg #[g,i],vI (m)] [Sl bO g p.1,S2 bA i y p.2] (λx:Unit=>Value.tuple #[vI (r.1),vI (r.2)]) (λx l=>l) (λ_ l=>l):=by
 refine aY.of Tryz.func91 Z Tryz.ntmps91 Z λc=>?_;unfold jV at h;refine aW<|aH (aN.box (cs:=[vS (a.1),vI (a.2.1),vI (a.2.2.1),vI (a.2.2.2.1),vI (a.2.2.2.2.1),vI (a.2.2.2.2.2)]) Z Z) Z λt=>aH (aN.box (cs:=[g,i]) Z Z) Z λu=>aE Z<|aE Z<|aM<|aW ?_;refine aB (Cm (r:=Value.agg #[vI (1:Int),Value.func (.func 122) #[] #[]]) Z Z (by intro w;simp[Instr.build,Instr.fill,eX,dY,dH,eY,eZ,dZ,gK])) Z ?_;refine aB (Cm (r:=Value.agg #[vI (2:Int),Value.func (.func 124) #[] #[]]) Z Z (by intro w;simp[Instr.build,Instr.fill,eX,dY,dH,eY,eZ,dZ,gK])) Z ?_;refine aB (Cm (r:=Value.agg #[vI (3:Int),Value.func (.func 125) #[] #[]]) Z Z (by intro w;simp[Instr.build,Instr.fill,eX,dY,dH,eY,eZ,dZ,gK])) Z ?_;refine aH (cA (e:=IJ) ([(((1:Int),((122:Nat)))),(((2:Int),((124:Nat)))),(((3:Int),((125:Nat))))]) [(0,Value.agg #[vI (1:Int),Value.func (.func 122) #[] #[]]),(1,Value.agg #[vI (2:Int),Value.func (.func 124) #[] #[]]),(2,Value.agg #[vI (3:Int),Value.func (.func 125) #[] #[]])] Z Z Z Z (XK (vI (1:Int)) (Value.func (.func 122) #[] #[]) (vI (2:Int)) (Value.func (.func 124) #[] #[]) (vI (3:Int)) (Value.func (.func 125) #[] #[])) Z Z Z) Z λv=>aE Z<|aM<|aK<|eS (λs=>xN  s=some r) (λs G=>[]) (λs G=>[]) ?_ ?_
 ·refine aW<|aA Z<|aB (h_ Z (bF (aF.res 0 Z) Bb) Z) Z<|aA Z<|aM<|aT<|eV (eG U a p m) (λk H=>[(2,vI (m)),(3,vP t),(4,vP u),(15,v),(16,vI (List.length ([((1:Int),(122:Nat)),((2:Int),(124:Nat)),((3:Int),(125:Nat))]):Int)),(17,vI (k))]) (λk H=>[Ar IJ v ([((1:Int),(122:Nat)),((2:Int),(124:Nat)),((3:Int),(125:Nat))]),bY u [g,i] 28,bY t [vS (a.1),vI (a.2.1),vI (a.2.2.1),vI (a.2.2.2.1),vI (a.2.2.2.2.1),vI (a.2.2.2.2.2)] 62]) (0:Int) () h SF (aZ.refl _) ?_;intro z k H h;refine aW<|cY Z<|aM<|aK ?_;refine fJ h Z (λh=>?_) λh=>?_
  ·refine cU<|aK<|eS (λj=>l_ k (bL (eG U a p m) z) j=some r) (λj n=>[(2,vI (m)),(3,vP t),(4,vP u),(15,v),(16,vI (List.length ([((1:Int),(122:Nat)),((2:Int),(124:Nat)),((3:Int),(125:Nat))]):Int)),(17,vI (k))]) (λj n=>[Ar IJ v ([((1:Int),(122:Nat)),((2:Int),(124:Nat)),((3:Int),(125:Nat))]),bY u [g,i] 28,bY t [vS (a.1),vI (a.2.1),vI (a.2.2.1),vI (a.2.2.2.1),vI (a.2.2.2.2.1),vI (a.2.2.2.2.2)] 62]) ?_ ?_
   ·refine aT<|aW<|dB h λf h=>aB (bB Z Z (bF (aF.res 0 Z) Bb) Z Z f) Z ?_;by_cases b:k=(0:Int)
    ·have h:=Pd b h;refine aB (jM (cs:=[vI (1:Int),Value.func (.func 122) #[] #[]]) Z (bF (aF.res 0 Z) Bb) Bb (by rw[b];rfl) Z Z Z f) Z ?_;refine aH (aN.alloc (cs:=[vI (0:Int),Value.nilFunc]) Z Z) Z λI=>bT 0 (vs:=[vI (1:Int),Value.func (.func 122) #[] #[]]) Z Z Z Z Z Z<|aM<|aW<|bW Z<|dN 0 Z<|bW Z<|dN 3 Z<|cT Z<|aM ?_;refine fJ h Z (λh=>?_) λh=>?_
     ·refine aW<|bW Z<|dN 0 Z<|eQ 3 Z<|eQ 2 Z<|aA Z<|fU h λA D h=>aH (vE (vs:=[Value.agg #[vS (a.1),vI (a.2.1),vI (a.2.2.1),vI (a.2.2.2.1),vI (a.2.2.2.2.1),vI (a.2.2.2.2.2)],Value.agg #[g,i],vI (m)]) (cs:=[]) aav Z (GX U g i y A D) Z (oO [0,1] Z) (λ_ _=>rfl)) Z λL=>iS Z<|iS Z<|aE Z<|aE Z<|aM<|aV<|bP<|aI<|aI<|bP<|aI ?_;cases h;exact lK () Z Z (RV.tmp Z) (RV.tmp Z) .nil aG.nil
     refine dO<|oD ?_;exact cK () (()) h SF (aZ.ix [1,2,3] Z Z) (aG.refl _ _)
    have h:=ifN b h;by_cases d:k=(1:Int)
    ·have h:=Pd d h;refine aB (jM (cs:=[vI (2:Int),Value.func (.func 124) #[] #[]]) Z (bF (aF.res 0 Z) Bb) Bb (by rw[d];rfl) Z Z Z f) Z ?_;refine aH (aN.alloc (cs:=[vI (0:Int),Value.nilFunc]) Z Z) Z λJ=>bT 0 (vs:=[vI (2:Int),Value.func (.func 124) #[] #[]]) Z Z Z Z Z Z<|aM<|aW<|bW Z<|dN 0 Z<|bW Z<|dN 3 Z<|cT Z<|aM ?_;refine fJ h Z (λh=>?_) λh=>?_
     ·refine aW<|bW Z<|dN 0 Z<|eQ 3 Z<|eQ 2 Z<|aA Z<|fU h λB E h=>aH (vE (vs:=[Value.agg #[vS (a.1),vI (a.2.1),vI (a.2.2.1),vI (a.2.2.2.1),vI (a.2.2.2.2.1),vI (a.2.2.2.2.2)],Value.agg #[g,i],vI (m)]) (cs:=[]) aax Z (GY U g i y B E) Z (oO [0,1] Z) (λ_ _=>rfl)) Z λM=>iS Z<|iS Z<|aE Z<|aE Z<|aM<|aV<|bP<|aI<|aI<|bP<|aI ?_;cases h;exact lK () Z Z (RV.tmp Z) (RV.tmp Z) .nil aG.nil
     refine dO<|oD ?_;exact cK () (()) h SF (aZ.ix [1,2,3] Z Z) (aG.refl _ _)
    have h:=ifN d h;have o:k=(2:Int):=by have q:=f;simp only[List.length_cons,List.length_nil]at q;omega
    refine aB (jM (cs:=[vI (3:Int),Value.func (.func 125) #[] #[]]) Z (bF (aF.res 0 Z) Bb) Bb (by rw[o];rfl) Z Z Z f) Z ?_;refine aH (aN.alloc (cs:=[vI (0:Int),Value.nilFunc]) Z Z) Z λK=>bT 0 (vs:=[vI (3:Int),Value.func (.func 125) #[] #[]]) Z Z Z Z Z Z<|aM<|aW<|bW Z<|dN 0 Z<|bW Z<|dN 3 Z<|cT Z<|aM ?_;refine fJ h Z (λh=>?_) λh=>?_
    ·refine aW<|bW Z<|dN 0 Z<|eQ 3 Z<|eQ 2 Z<|aA Z<|fU h λC F h=>aH (vE (vs:=[Value.agg #[vS (a.1),vI (a.2.1),vI (a.2.2.1),vI (a.2.2.2.1),vI (a.2.2.2.2.1),vI (a.2.2.2.2.2)],Value.agg #[g,i],vI (m)]) (cs:=[]) aay Z (GZ U g i y C F) Z (oO [0,1] Z) (λ_ _=>rfl)) Z λN=>iS Z<|iS Z<|aE Z<|aE Z<|aM<|aV<|bP<|aI<|aI<|bP<|aI ?_;cases h;exact lK () Z Z (RV.tmp Z) (RV.tmp Z) .nil aG.nil
    refine dO<|oD ?_;exact cK () (()) h SF (aZ.ix [1,2,3] Z Z) (aG.refl _ _)
   intro j n h;unfold l_ at h;refine aS<|cL Z<|aA Z<|aM ?_;exact Al (wI .i64 (k+(1:Int))) () h SF Z
  refine fV ?_;exact cK () (()) h SF .nil (aG.refl _ _)
 intro s G h;unfold xN at h;refine aW<|aE Z<|aE Z<|aM<|aV ?_;cases h;exact lK () Z Z (RV.tmp Z) (RV.tmp Z) (aZ.refl _) aG.nil
def uC  (a:fO):Option (fO):=
 some (a)
def uD (b:Int×fO) (a:(Int×fO)->Option (fO)) (c:fO):Option (fO):=
 a ((wI .i64 (b.1+(1:Int))),c)
def nJ (U:Nat) (d:BH) (g:cG) (b:Int×fO) (e:(Int×fO)->Option (fO)) (a:Int×fO) (f:(Int×fO)->Option (fO)):Option (fO):=
 if a.1<(List.length d.2.1:Int)then(ck (0<=a.1∧a.1<(List.length d.2.1:Int)) (ck (0<=b.1∧b.1<(List.length a.2:Int)) (ck (0<=b.1∧b.1<(List.length a.2:Int)) (Option.bind (jV U ((((at' d.2.1 a.1).1),((at' d.2.1 a.1).2.1),((at' d.2.1 a.1).2.2.1),((at' d.2.1 a.1).2.2.2.1),((at' d.2.1 a.1).2.2.2.2.1),((at' d.2.1 a.1).2.2.2.2.2))) ((g.1,g.2)) b.1) λc=>(ck (0<=a.1∧a.1<(List.length (at' a.2 b.1):Int)) (ck (0<=a.1∧a.1<(List.length (at' (List.set a.2 (Int.toNat b.1) (List.set (at' a.2 b.1) (Int.toNat a.1) (c.1,((at' (at' a.2 b.1) a.1).2)))) b.1):Int)) (f ((wI .i64 (a.1+(1:Int))),(List.set (List.set a.2 (Int.toNat b.1) (List.set (at' a.2 b.1) (Int.toNat a.1) (c.1,((at' (at' a.2 b.1) a.1).2)))) (Int.toNat b.1) (List.set (at' (List.set a.2 (Int.toNat b.1) (List.set (at' a.2 b.1) (Int.toNat a.1) (c.1,((at' (at' a.2 b.1) a.1).2)))) b.1) (Int.toNat a.1) (((at' (at' (List.set a.2 (Int.toNat b.1) (List.set (at' a.2 b.1) (Int.toNat a.1) (c.1,((at' (at' a.2 b.1) a.1).2)))) b.1) a.1).1),c.2)))))))))))else(uD b e (a.2))
def lO (U:Nat) (c:BH) (d:cG) (a:Int×fO) (b:(Int×fO)->Option (fO)):Option (fO):=
 if a.1<(List.length (List.replicate (Int.toNat (List.length d.1:Int)) ([]:fN)):Int)then(ck (0<=(List.length c.2.1:Int)∧(List.length c.2.1:Int)<=1099511627) (ck (0<=a.1∧a.1<(List.length a.2:Int)) (bL (nJ U c d a b) U ((0:Int),(List.set a.2 (Int.toNat a.1) (List.replicate (Int.toNat (List.length c.2.1:Int)) ((0:Int),(0:Int))))))))else(uC  (a.2))
def mP (U:Nat) (b:BH) (a:cG):Option (fO):=
 ck (0<=(List.length a.1:Int)∧(List.length a.1:Int)<=1099511627) (bL (lO U b a) U ((0:Int),(List.replicate (Int.toNat (List.length a.1:Int)) ([]:fN))))
theorem Xc:aU Tryz.prog 65:=Tryz.call65
theorem Ek (U:Nat) {d:BH} {q:cG} (v:Value)  (y:Value)  (A:Value)  (C:Value)  (z4:lJ) (r:fO) (h:mP U d q=some r):
  aY Tryz.prog 65 #[Value.agg #[vS (d.1),v,y],Value.agg #[A,C]] [Sl aR v d.2.1,Sl aJ y d.2.2,PF (Value.agg #[vS d.1,v,y]),Sl bO A q.1,S2 bA C z4 q.2] (λx:Is=>x.1) (λx l=>Ar cQ.raw x.1 x.2::jZ b_ x.2 r::l) (λ_ l=>l):=by
 refine aY.of Tryz.func65 Z Tryz.ntmps65 Z λc=>?_;refine aW<|aH (aN.box (cs:=[vS (d.1),v,y]) Z Z) Z λD=>aH (aN.box (cs:=[A,C]) Z Z) Z λE=>aE Z<|aM<|aW<|bW Z<|dN 0 Z<|kT (aF.fact 3 Z) Z<|dB h λj3 h=>jL (yN b_ (Int.toNat (List.length q.1:Int)))<|aH (mC (e:=cQ.raw) (lH) Z Z Z Z j3 Z Z Z) Z λu=>aE Z<|aM<|aK<|ER (B:=fT) (λF=>uC  F=some r) (λF H=>[(5,u)]) (λF H=>[Ar cQ.raw u H,jZ b_ H F]) ?_ ?_
 ·refine aW<|aA Z<|aB (gQ Z (bV (i:=0) (j:=1) Z Z bU) Z) Z<|aA Z<|aM<|aT<|eV (B:=fT) (lO U d q) (λb m=>[(2,vP D),(3,vP E),(5,u),(14,vI (List.length (List.replicate (Int.toNat (List.length q.1:Int)) ([]:fN)):Int)),(15,vI (b.1))]) (λb m=>[Ar cQ.raw u m,jZ b_ m b.2,bY E [A,C] 28,bY D [vS (d.1),v,y] 57]) ((0:Int),(List.replicate (Int.toNat (List.length q.1:Int)) ([]:fN))) (List.replicate (Int.toNat (List.length q.1:Int)) (lH)) h SF (aZ.refl _) ?_;intro S b m h;refine aW<|cY Z<|aM<|aK ?_;refine fJ h Z (λh=>?_) λh=>?_
  ·refine cU<|aK<|ER (B:=fT) (λp=>uD b (bL (lO U d q) S) p=some r) (λp s=>[(2,vP D),(3,vP E),(5,u),(14,vI (List.length (List.replicate (Int.toNat (List.length q.1:Int)) ([]:fN)):Int)),(15,vI (b.1))]) (λp s=>[Ar cQ.raw u s,jZ b_ s p,bY E [A,C] 28,bY D [vS (d.1),v,y] 57]) ?_ ?_
   ·refine aT<|aW<|aA Z<|aE Z<|aM<|aW<|aA Z<|aA Z<|bW Z<|dN 3 Z<|kT (aF.fact 0 Z) Z<|dB h λT h=>aH (mC (e:=b_) (((0:Int),(0:Int))) Z Z Z Z T Z Z Z) Z λw=>dB h λt h=>aB (cC Z Z (bV (i:=1) (j:=2) Z Z bU) Z Z t) Z<|cF (Know.one ((bF (aF.res 0 Z) bU))) λO=>jL (xJ (k:=b.1) 2 0 Z Z Z t) ?_;refine pW 0 1 ⟨t.1,by first|exact t.2|simpa using t.2⟩ Z Z Z Z Z (by simp) O Z ?_;refine aM<|aW<|bW Z<|dN 3 Z<|kT (aF.fact 0 Z) Z<|aA Z<|aM<|aT<|eV (nJ U d q b (bL (lO U d q) S)) (λa G=>[(2,vP D),(3,vP E),(5,u),(6,vI (b.1)),(14,vI (List.length (List.replicate (Int.toNat (List.length q.1:Int)) ([]:fN)):Int)),(15,vI (b.1)),(26,v),(27,vI (List.length d.2.1:Int)),(28,vI (a.1))]) (λa G=>[Ar cQ.raw u (List.set m (Int.toNat b.1) w),jZ b_ (List.set m (Int.toNat b.1) w) a.2,bY E [A,C] 28,bY D [vS (d.1),v,y] 57]) ((0:Int),(List.set b.2 (Int.toNat b.1) (List.replicate (Int.toNat (List.length d.2.1:Int)) ((0:Int),(0:Int))))) () h SF (aZ.refl _) ?_;intro ac a G h;refine aW<|cY Z<|aM<|aK ?_;refine fJ h Z (λh=>?_) λh=>?_
    ·refine cU<|aK<|aT<|aW<|aA Z<|dB h λP h=>aB (bB Z Z (aF.fact 0 Z) Z Z P) Z<|aB (jM (cs:=[vS ((at' d.2.1 a.1).1),vI ((at' d.2.1 a.1).2.1),vI ((at' d.2.1 a.1).2.2.1),vI ((at' d.2.1 a.1).2.2.2.1),vI ((at' d.2.1 a.1).2.2.2.2.1),vI ((at' d.2.1 a.1).2.2.2.2.2)]) Z (aF.fact 0 Z) iF Z Z Z Z P) Z<|aH (aN.alloc (cs:=vD3) Z Z) Z λab=>aE Z<|bT 0 (vs:=[vS ((at' d.2.1 a.1).1),vI ((at' d.2.1 a.1).2.1),vI ((at' d.2.1 a.1).2.2.1),vI ((at' d.2.1 a.1).2.2.2.1),vI ((at' d.2.1 a.1).2.2.2.2.1),vI ((at' d.2.1 a.1).2.2.2.2.2)]) Z Z Z Z Z Z<|aM ?_;refine JR.start [0,0,3,7,0,0,0,96,224,0,0,0,0,7168,15360,31744,31744,31,196095,458239,992,2097151,4194303] 21 mixedOrders (by decide +kernel) ?_;refine JR.open (by exact rfl) ?_;refine bH Z<|bH Z<|dB h λn h=>cZ (dA 2 Z) λI=>?_;refine bK Z (aZ.cons 1 Z .nil) .nil (gO 0 Z Z Z Z Z n.1 (by have V:=n.2;have W:=I;(try simp only[List.length_set]at V);(try simp only[List.length_set]at W);(try simp only[List.length_set]);omega)) aL.z ?_;refine cZ (dA 2 Z) λJ=>bK Z (aZ.cons 1 Z .nil) .nil (iY 0 Z Z J Z Z n) aL.z<|bH Z<|bH Z<|bH Z<|dB h λg h=>cZ (dA 2 Z) λK=>?_;refine bK Z (aZ.cons 1 Z .nil) .nil (gO 0 Z Z Z Z Z g.1 (by have V:=g.2;have W:=K;(try simp only[List.length_set]at V);(try simp only[List.length_set]at W);(try simp only[List.length_set]);omega)) aL.z ?_;refine cZ (dA 2 Z) λL=>bK Z (aZ.cons 1 Z .nil) .nil (iY 0 Z Z L Z Z g) aL.z<|bH Z<|nU 0 Z<|nU 3 Z<|bH Z<|fU h λf X h=>JR.loud Z Z Z (aN.callQ Xf (Dj U A C z4 f X) Z (oO [3,4] Z)) Z (λY=>(vY [([1],[]),([1],[]),([1],[]),([1],[])] Z)) λY=>iX Z (fH Z)<|iX Z (lZ Z Z)<|iX Z (lZ Z Z)<|dB h λQ h=>cZ (Know.len (aF.row (j:=2) Z bU n.1 n.2)) λM=>iX Z (Jz Z Z M Z Z Q) ?_;refine iX Z (Ez (i:=0) Z Z Z Z Z (by decide)) ?_;refine Dv Z Z Z (Dx (us:=[vI (f.1)]) (o:=0) (k:=b.1) 2 ((f.1,((at' (at' a.2 b.1) a.1).2))) ⟨n.1,by first|exact n.2|simpa using n.2⟩ Q Z Z Z Z Z Z Z Z Z Z) (λaa=>(vY [] Z)) λaa=>dB h λR h=>cZ (Know.len (aF.row (j:=2) Z bU g.1 (by first|exact g.2|simpa using g.2))) λN=>?_;refine iX Z (Jz Z Z N Z Z R)<|bQ 21 Z Z ?_;refine aB (Ez (i:=1) Z Z Z Z Z (by decide)) Z ?_;refine SV (Dx (us:=[vI (f.2)]) (o:=1) (k:=b.1) 2 ((((at' (at' (List.set a.2 (Int.toNat b.1) (List.set (at' a.2 b.1) (Int.toNat a.1) (f.1,((at' (at' a.2 b.1) a.1).2)))) b.1) a.1).1),f.2)) ⟨g.1,by first|exact g.2|simpa using g.2⟩ R Z Z Z Z Z Z Z Z Z Z) λad=>eM<|oD<|aS<|cL Z<|aA Z<|aM ?_;exact nR ((wI .i64 (a.1+(1:Int))),(List.set (List.set a.2 (Int.toNat b.1) (List.set (at' a.2 b.1) (Int.toNat a.1) (f.1,((at' (at' a.2 b.1) a.1).2)))) (Int.toNat b.1) (List.set (at' (List.set a.2 (Int.toNat b.1) (List.set (at' a.2 b.1) (Int.toNat a.1) (f.1,((at' (at' a.2 b.1) a.1).2)))) b.1) (Int.toNat a.1) (((at' (at' (List.set a.2 (Int.toNat b.1) (List.set (at' a.2 b.1) (Int.toNat a.1) (f.1,((at' (at' a.2 b.1) a.1).2)))) b.1) a.1).1),f.2)))) () h SF (aZ.ix [1,2,3,4] Z Z) (aG.refl _ _)
    refine s_<|fW<|fW<|zO<|oD ?_;exact jG (a.2) (List.set m (Int.toNat b.1) w) h SF Z
   intro p s h;unfold uD at h;refine aS<|cL Z<|aA Z<|aM ?_;exact Al ((wI .i64 (b.1+(1:Int))),p) (s) h SF Z
  refine fV ?_;exact cK (b.2) (m) h SF (aZ.ix [0,1] Z Z) (aG.refl _ _)
 intro F H h;unfold uC at h;refine aW<|aA Z<|aE Z<|aM<|aV ?_;cases h;exact hZ (u,H) Z Z (RV.tmp Z) (aZ.refl _) aG.nil
def wD  (a:Unit):Option (Int):=
 some (0:Int)
def pJ (b:Int) (a:(Int)->Option (Int)) (c:Unit):Option (Int):=
 a (wI .i64 (b+(1:Int)))
def wE (b:Int) (a:(Int)->Option (Int)) (c:Bool):Option (Int):=
 if c=true then(some (9:Int))else(pJ b a (()))
def mH (U:Nat) (c:BH) (e:cG) (a:Int) (b:(Int)->Option (Int)):Option (Int):=
 if a<(List.length c.2.1:Int)then(ck (0<=a∧a<(List.length c.2.1:Int)) (if((at' c.2.1 a).2.1)≠(1:Int)then(pJ a b (()))else(Option.bind (jV U ((((at' c.2.1 a).1),((at' c.2.1 a).2.1),((at' c.2.1 a).2.2.1),((at' c.2.1 a).2.2.2.1),((at' c.2.1 a).2.2.2.2.1),((at' c.2.1 a).2.2.2.2.2))) ((e.1,e.2)) (0:Int)) λd=>(if d.2<d.1 then(wE a b (true))else(wE a b (decide ((4096:Int)<(wI .i64 ((wI .i64 (d.2 - d.1))+(1:Int))))))))))else(wD  (()))
def tP (U:Nat) (a:BH) (b:cG):Option (Int):=
 Option.bind (BE U ((a.1,a.2.1,a.2.2))) λc=>(if(!c)=true then(some (8:Int))else(Option.bind (gX U ((b.1,b.2))) λd=>(if(!d)=true then(some (1:Int))else(bL (mH U a b) U (0:Int)))))
theorem adE:aU Tryz.prog 88:=Tryz.call88
theorem Lj (U:Nat) {b:BH} {n:cG} (g:Value)  (v:Value)  (i:Value)  (j:Value)  (y:lJ) (r:Int) (h:tP U b n=some r):
  aY Tryz.prog 88 #[Value.agg #[vS (b.1),g,v],Value.agg #[i,j]] [Sl aR g b.2.1,Sl aJ v b.2.2,PF (Value.agg #[vS b.1,g,v]),Sl bO i n.1,S2 bA j y n.2] (λx:Unit=>vI (r)) (λx l=>l) (λ_ l=>l):=by
 refine aY.of Tryz.func88 Z Tryz.ntmps88 Z λc=>?_;refine aW<|aH (aN.box (cs:=[vS (b.1),g,v]) Z Z) Z λF=>aH (aN.box (cs:=[i,j]) Z Z) Z λm=>aE Z<|aM<|aK<|aW<|eQ 1 Z<|fU h λA C h=>aH (aN.callQ Tl (Ln U g v A C) Z (oO [0,1,2] Z)) Z λG=>aB (tK Z) Z<|aM ?_;refine BM h Z (λ_ h=>?_) λ_ h=>?_
 ·refine aW<|aE Z<|aM<|aV<|aI ?_;cases h;exact vN Z
 refine cU<|aK<|aW<|eQ 0 Z<|fU h λB D h=>aH (aN.callQ MY (yH U i j y B D) Z (oO [3,4] Z)) Z λH=>aB (tK Z) Z<|aM ?_;refine BM h Z (λ_ h=>?_) λ_ h=>?_
 ·refine aW<|aE Z<|aM<|aV<|aI ?_;cases h;exact vN Z
 refine cU<|aK<|eS (λe=>wD  e=some r) (λe o=>[]) (λe o=>[]) ?_ ?_
 ·refine aW<|bW Z<|dN 1 Z<|kT (aF.fact 0 Z) Z<|aA Z<|aM<|aT<|eV (mH U b n) (λa p=>[(3,vP m),(16,g),(17,vI (List.length b.2.1:Int)),(18,vI (a))]) (λa p=>[bY m [i,j] 28]) (0:Int) () h SF (aZ.ix [0] Z Z) ?_;intro u a p h;refine aW<|cY Z<|aM<|aK ?_;refine fJ h Z (λh=>?_) λh=>?_
  ·refine cU<|aK<|eS (λf=>pJ a (bL (mH U b n) u) f=some r) (λf q=>[(3,vP m),(16,g),(17,vI (List.length b.2.1:Int)),(18,vI (a))]) (λf q=>[bY m [i,j] 28]) ?_ ?_
   ·refine aT<|aW<|dB h λt h=>aB (bB Z Z (aF.fact 0 Z) Z Z t) Z<|aB (jM (cs:=[vS ((at' b.2.1 a).1),vI ((at' b.2.1 a).2.1),vI ((at' b.2.1 a).2.2.1),vI ((at' b.2.1 a).2.2.2.1),vI ((at' b.2.1 a).2.2.2.2.1),vI ((at' b.2.1 a).2.2.2.2.2)]) Z (aF.fact 0 Z) iF Z Z Z Z t) Z<|aH (aN.alloc (cs:=vD3) Z Z) Z λz=>bT 0 (vs:=[vS ((at' b.2.1 a).1),vI ((at' b.2.1 a).2.1),vI ((at' b.2.1 a).2.2.1),vI ((at' b.2.1 a).2.2.2.1),vI ((at' b.2.1 a).2.2.2.2.1),vI ((at' b.2.1 a).2.2.2.2.2)]) Z Z Z Z Z Z<|aM<|aK<|aW<|bW Z<|dN 0 Z<|qO Z<|aM ?_;refine fJ h Z (λh=>?_) λh=>?_
    ·refine s_<|fW<|zO<|zU ?_;exact cK () (()) h SF (aZ.ix [1] Z Z) (aG.refl _ _)
    refine cU<|aW<|eQ 0 Z<|eQ 1 Z<|fU h λk w h=>aH (aN.callQ Xf (Dj U i j y k w) Z (oO [3,4] Z)) Z λE=>aA Z<|iS Z<|iS Z<|aE Z<|aE Z<|aM<|aK<|eS (λd=>wE a (bL (mH U b n) u) d=some r) (λd s=>[(3,vP m),(16,g),(17,vI (List.length b.2.1:Int)),(18,vI (a)),(40,vB (d))]) (λd s=>[bY m [i,j] 28]) ?_ ?_
    ·refine aS<|aA Z<|aA Z<|cY Z<|aA Z ?_;refine FG h Z (λ_ h=>?_) λ_ h=>?_
     ·refine aP Z<|aP Z<|aP Z<|aP Z<|aP Z<|fM Z<|aM ?_;exact cK (true) () h SF (aZ.ix [1] Z Z) (aG.refl _ _)
     refine eR Z<|eR Z<|aX Z (qX Z Z) Z<|aX Z (y_ Z Z) Z<|aX Z (yP Z Z) Z<|iI Z<|aM ?_;exact cK (decide ((4096:Int)<(wI .i64 ((wI .i64 (k.2 - k.1))+(1:Int))))) () h SF (aZ.ix [1] Z Z) (aG.refl _ _)
    intro d s h;refine BM h Z (λ_ h=>?_) λ_ h=>?_
    ·refine aW<|aE Z<|aM<|aV<|bP<|aI<|aI<|bP<|aI ?_;cases h;exact vN Z
    refine dO<|oD ?_;exact jG () (()) h SF Z
   intro f q h;unfold pJ at h;refine aS<|cL Z<|aA Z<|aM ?_;exact Al (wI .i64 (a+(1:Int))) () h SF Z
  refine fV ?_;exact cK () (()) h SF .nil (aG.refl _ _)
 intro e o h;unfold wD at h;refine aW<|aE Z<|aM<|aV ?_;cases h;exact lP Z
def uM  (a:Unit):Option (Bool):=
 some (true)
def uN (c:Int) (b:(Int)->Option (Bool)) (a:Bool):Option (Bool):=
 if a=true then(some (false))else(b (wI .i64 (c+(1:Int))))
def nN (c:fN) (d:aO) (a:Int) (b:(Int)->Option (Bool)):Option (Bool):=
 if a<(List.length d:Int)then(ck (0<=a∧a<(List.length d:Int)) (ck (0<=a∧a<(List.length c:Int)) (if(at' d a)<((at' c a).1)then(uN a b (true))else(ck (0<=a∧a<(List.length c:Int)) (uN a b (decide (((at' c a).2)<(at' d a))))))))else(uM  (()))
def wO (U:Nat) (a:fN) (b:aO):Option (Bool):=
 if(List.length b:Int)≠(List.length a:Int)then(some (false))else(bL (nN a b) U (0:Int))
theorem aau:aU Tryz.prog 121:=Tryz.call121
theorem KJ (U:Nat) {k:fN} {d:aO} (n:Value)  (o:Value) (r:Bool) (h:wO U k d=some r):
  aY Tryz.prog 121 #[n,o] [Sl bA n k,Sl bO o d] (λx:Unit=>vB (r)) (λx l=>l) (λ_ l=>l):=by
 refine aY.of Tryz.func121 Z Tryz.ntmps121 Z λc=>?_;refine aW<|aE Z<|aM<|aK<|aW<|aA Z<|kT (aF.fact 1 Z) Z<|aA Z<|kT (aF.fact 0 Z) Z<|qO Z<|aM ?_;refine fJ h Z (λh=>?_) λh=>?_
 ·refine aW<|aE Z<|aM<|aV<|aI ?_;cases h;exact lP Z
 refine cU<|aK<|eS (λm=>uM  m=some r) (λm p=>[]) (λm p=>[]) ?_ ?_
 ·refine aW<|aA Z<|kT (aF.fact 1 Z) Z<|aA Z<|aM<|aT<|eV (nN k d) (λb q=>[(0,n),(12,o),(13,vI (List.length d:Int)),(14,vI (b))]) (λb q=>[]) (0:Int) () h SF (aZ.refl _) ?_;intro s b q h;refine aW<|cY Z<|aM<|aK ?_;refine fJ h Z (λh=>?_) λh=>?_
  ·refine cU<|aK<|aT<|aW<|aA Z<|dB h λf h=>aB (bB Z Z (aF.fact 1 Z) Z Z f) Z<|aB (bS Z (aF.fact 1 Z) Z Z Z cX f) Z<|aE Z<|aE Z<|aM<|aK<|eS (λa=>uN b (bL (nN k d) s) a=some r) (λa e=>[(0,n),(12,o),(13,vI (List.length d:Int)),(14,vI (b)),(34,vB (a))]) (λa e=>[]) ?_ ?_
   ·refine aS<|aA Z<|aA Z<|aA Z<|dB h λg h=>aB (bB Z Z (aF.fact 0 Z) Z Z g) Z ?_;refine aB (Ez (i:=0) Z Z Z Z Z (by decide)) Z ?_;refine aB (pY Z (aF.fact 0 Z) Z Z Z Ao g) Z<|cY Z<|aA Z ?_;refine FG h Z (λ_ h=>?_) λ_ h=>?_
    ·refine aP Z<|aP Z<|aP Z<|aP Z<|aP Z<|aP Z<|aP Z<|fM Z<|aM ?_;exact jG (true) () h SF Z
    refine eR Z<|eR Z<|eR Z<|dB h λj h=>aX Z (bB Z Z (aF.fact 0 Z) Z Z j) Z ?_;refine aX Z (Ez (i:=1) Z Z Z Z Z (by decide)) Z ?_;refine aX Z (pY Z (aF.fact 0 Z) Z Z Z QX j) Z<|aX Z (yP Z Z) Z<|iI Z<|aM ?_;exact jG (decide (((at' k b).2)<(at' d b))) () h SF Z
   intro a e h;refine BM h Z (λ_ h=>?_) λ_ h=>?_
   ·refine aW<|aE Z<|aM<|aV<|bP<|aI<|aI<|bP<|aI ?_;cases h;exact lP Z
   refine dO<|oD<|aS<|cL Z<|aA Z<|aM ?_;exact Al (wI .i64 (b+(1:Int))) () h SF Z
  refine fV ?_;exact jG () (()) h SF Z
 intro m p h;unfold uM at h;refine aW<|aE Z<|aM<|aV ?_;cases h;exact lP Z
def sQ  (a:Unit):Option (Bool):=
 some (true)
def pS (U:Nat) (c:fO) (e:bE) (a:Int) (b:(Int)->Option (Bool)):Option (Bool):=
 if a<(List.length c:Int)then(ck (0<=a∧a<(List.length c:Int)) (ck (0<=a∧a<(List.length e:Int)) (Option.bind (wO U (at' c a) (at' e a)) λd=>(if(!d)=true then(some (false))else(b (wI .i64 (a+(1:Int))))))))else(sQ  (()))
def uK (U:Nat) (a:fO) (b:bE):Option (Bool):=
 if(List.length b:Int)≠(List.length a:Int)then(some (false))else(bL (pS U a b) U (0:Int))
theorem adF:aU Tryz.prog 89:=Tryz.call89
theorem IC (U:Nat) {f:fO} {g:bE} (j:Value)  (p:lJ)  (k:Value)  (q:qF) (r:Bool) (h:uK U f g=some r):
  aY Tryz.prog 89 #[j,k] [S2 bA j p f,S2 bO k q g] (λx:Unit=>vB (r)) (λx l=>l) (λ_ l=>l):=by
 refine aY.of Tryz.func89 Z Tryz.ntmps89 Z λc=>?_;refine aW<|aE Z<|aM<|aK<|aW<|aA Z<|aB (gQ Z (aF.fact 1 Z) Z) Z<|aA Z<|aB (gQ Z (aF.fact 0 Z) Z) Z<|qO Z<|aM ?_;refine fJ h Z (λh=>?_) λh=>?_
 ·refine aW<|aE Z<|aM<|aV<|aI ?_;cases h;exact lP Z
 refine cU<|aK<|eS (λe=>sQ  e=some r) (λe n=>[]) (λe n=>[]) ?_ ?_
 ·refine aW<|aA Z<|aB (gQ Z (aF.fact 0 Z) Z) Z<|aA Z<|aM<|aT<|eV (pS U f g) (λd o=>[(1,k),(12,j),(13,vI (List.length f:Int)),(14,vI (d))]) (λd o=>[]) (0:Int) () h SF (aZ.refl _) ?_;intro t d o h;refine aW<|cY Z<|aM<|aK ?_;refine fJ h Z (λh=>?_) λh=>?_
  ·refine cU<|aK<|aT<|aW<|aA Z<|dB h λa h=>aB (cC Z Z (aF.fact 0 Z) Z Z a) Z<|aB (cE Z (aF.fact 0 Z) Z Z a) Z<|aE Z<|aE Z<|aM<|aW<|aA Z<|aA Z<|aA Z<|dB h λb h=>aB (cC Z Z (aF.fact 1 Z) Z Z b) Z<|aB (cE Z (aF.fact 1 Z) Z Z b) Z<|fU h λi m h=>aH (aN.callQ aau (KJ U ((at' p d).1) ((at' q d).1) i m) Z (aG.cons (aF.el (aF.fact 0 Z) a.1 a.2) (aG.cons (aF.el (aF.fact 1 Z) b.1 b.2) .nil))) Z λs=>aB (tK Z) Z<|aM ?_;refine BM h Z (λ_ h=>?_) λ_ h=>?_
   ·refine aW<|aE Z<|aM<|aV<|bP<|aI<|aI<|bP<|aI ?_;cases h;exact lP Z
   refine dO<|oD<|aS<|cL Z<|aA Z<|aM ?_;exact Al (wI .i64 (d+(1:Int))) () h SF Z
  refine fV ?_;exact jG () (()) h SF Z
 intro e n h;unfold sQ at h;refine aW<|aE Z<|aM<|aV ?_;cases h;exact lP Z
def rV (U:Nat) (a:BH) (b:cG) (e:bE):Option (Int):=
 Option.bind (tP U ((a.1,a.2.1,a.2.2)) ((b.1,b.2))) λd=>(if d≠(0:Int)then(some (d))else(Option.bind (mP U ((a.1,a.2.1,a.2.2)) ((b.1,b.2))) λf=>(Option.bind (uK U f e) λc=>(if(!c)=true then(some (10:Int))else(some (0:Int))))))
theorem adr:aU Tryz.prog 63:=Tryz.call63
theorem KI (U:Nat) {a:BH} {g:cG} {p:bE} (b:Value)  (d:Value)  (e:Value)  (f:Value)  (o:lJ)  (m:Value)  (t:qF) (r:Int) (h:rV U a g p=some r):
  aY Tryz.prog 63 #[Value.agg #[vS (a.1),b,d],Value.agg #[e,f],m] [Sl aR b a.2.1,Sl aJ d a.2.2,PF (Value.agg #[vS a.1,b,d]),Sl bO e g.1,S2 bA f o g.2,S2 bO m t p] (λx:Unit=>vI (r)) (λx l=>l) (λ_ l=>l):=by
 refine aY.of Tryz.func63 Z Tryz.ntmps63 Z λc=>?_;refine aW<|aH (aN.box (cs:=[vS (a.1),b,d]) Z Z) Z λz=>aH (aN.box (cs:=[e,f]) Z Z) Z λA=>aE Z<|aM<|aK<|aW<|eQ 1 Z<|eQ 0 Z<|fU h λu v h=>aH (aN.callQ adE (Lj U b d e f o u v) Z (oO [0,1,2,3,4] Z)) Z λB=>aE Z<|aM<|aW<|aA Z<|qO Z<|aM ?_;refine fJ h Z (λh=>?_) λh=>?_
 ·refine aW<|aA Z<|aE Z<|aM<|aV<|aI ?_;cases h;exact vN Z
 refine cU<|aK<|aW<|eQ 1 Z<|eQ 0 Z<|fU h λq w h=>aH (aN.callQ Xc (Ek U b d e f o q w) Z (oO [0,1,2,3,4] Z)) Z λs=>aA Z<|fU h λk n h=>aH (aN.callQ adF (IC U s.1 (List.zip s.2 q) m t k n) Z (aG.cons (bV (i:=0) (j:=1) Z Z bU) (oO [5] Z))) Z λy=>aB (tK Z) Z<|aM ?_;refine BM h Z (λ_ h=>?_) λ_ h=>?_
 ·refine aW<|aE Z<|aM<|aV<|aI ?_;cases h;exact vN Z
 refine cU<|aW<|aE Z<|aM<|aV ?_;cases h;exact vN Z
def wS  (a:bE):Option bE:=
 some (a)
def rZ (c:bE) (a:Int×bE) (b:(Int×bE)->Option bE):Option bE:=
 if a.1<(List.length c:Int)then(ck (0<=a.1∧a.1<(List.length c:Int)) (ck ((List.length ([]:aO):Int)+(List.length (at' c a.1):Int)<=1099511627) (ck (0<=a.1∧a.1<(List.length a.2:Int)) (b ((wI .i64 (a.1+(1:Int))),(List.set a.2 (Int.toNat a.1) (([]:aO)++(at' c a.1))))))))else(wS  (a.2))
def lX (U:Nat) (a:bE):Option bE:=
 ck (0<=(List.length a:Int)∧(List.length a:Int)<=1099511627) (bL (rZ a) U ((0:Int),(List.replicate (Int.toNat (List.length a:Int)) ([]:aO))))
theorem MX:aU Tryz.prog 49:=Tryz.call49
theorem yI (U:Nat) {g:bE} (t:Value)  (w:qF) (r:bE) (h:lX U g=some r):
  aY Tryz.prog 49 #[t] [S2 bO t w g] (λx:Is=>x.1) (λx l=>Ar cQ.raw x.1 x.2::jZ bX x.2 r::l) (λ_ l=>l):=by
 refine aY.of Tryz.func49 Z Tryz.ntmps49 Z λc=>?_;refine aW<|aE Z<|aM<|aW<|aA Z<|aB (gQ Z (aF.fact 0 Z) Z) Z<|dB h λu h=>jL (yN bX (Int.toNat (List.length g:Int)))<|aH (mC (e:=cQ.raw) (lH) Z Z Z Z u Z Z Z) Z λp=>aE Z<|aM<|aK<|ER (B:=fT) (λm=>wS  m=some r) (λm n=>[(3,p)]) (λm n=>[Ar cQ.raw p n,jZ bX n m]) ?_ ?_
 ·refine aW<|aA Z<|aB (gQ Z (aF.fact 0 Z) Z) Z<|aA Z<|aM<|aT<|eV (B:=fT) (rZ g) (λa b=>[(3,p),(9,t),(10,vI (List.length g:Int)),(11,vI (a.1))]) (λa b=>[Ar cQ.raw p b,jZ bX b a.2]) ((0:Int),(List.replicate (Int.toNat (List.length g:Int)) ([]:aO))) (List.replicate (Int.toNat (List.length g:Int)) (lH)) h SF (aZ.refl _) ?_;intro v a b h;refine aW<|cY Z<|aM<|aK ?_;refine fJ h Z (λh=>?_) λh=>?_
  ·refine cU<|aK<|aT<|aW<|aA Z<|dB h λf h=>aB (cC Z Z (aF.fact 0 Z) Z Z f) Z<|aB (cE Z (aF.fact 0 Z) Z Z f) Z<|aE Z<|aE Z<|aM<|aS<|aA Z<|aA Z<|aA Z<|jL (iK bX)<|dB h λq h=>aH (eW 0 dC Z Z Z (aF.el (aF.fact 0 Z) f.1 f.2) Z Z Z Z q Z) Z λs=>dB h λd h=>aB (cC Z Z (bV (i:=1) (j:=2) Z Z dC) Z Z d) Z<|cF (Know.one ((bF (aF.res 0 Z) dC))) λo=>jL (xJ (k:=a.1) 2 0 Z Z Z d) ?_;refine pW 0 1 ⟨d.1,by first|exact d.2|simpa using d.2⟩ Z Z Z Z Z (by simp) o Z ?_;refine eM<|oD<|aS<|cL Z<|aA Z<|aM ?_;exact Al ((wI .i64 (a.1+(1:Int))),(List.set a.2 (Int.toNat a.1) (([]:aO)++(at' g a.1)))) (List.set b (Int.toNat a.1) s) h SF Z
  refine fV ?_;exact jG (a.2) (b) h SF Z
 intro m n h;unfold wS at h;refine aW<|aA Z<|aE Z<|aM<|aV ?_;cases h;exact hZ (p,n) Z Z (RV.tmp Z) (aZ.refl _) aG.nil
end Go.Proofs.YtlkhndebimcbbaaGreatDoor
namespace Go.Proofs.YtlkhndebimcbbaaGreatDoor
open Go Go.Sx
abbrev sF:=ByteArray×(List De)×(List xE)
structure tB (g:GR) (vars:List De):Prop where
 len:vars.length<=20
 small:∀x,x<vars.length->DD (at' vars (x:Int))
 kind:∀x,x<vars.length->(at' vars (x:Int)).2.1=1∨(at' vars (x:Int)).2.1=2∨(at' vars (x:Int)).2.1=3
 range:∀x,x<vars.length->(at' vars (x:Int)).2.1=1 -> -100000<=lo g (at' vars (x:Int)) 0∧lo g (at' vars (x:Int)) 0<=hi g (at' vars (x:Int)) 0∧hi g (at' vars (x:Int)) 0 - lo g (at' vars (x:Int)) 0+1<=4096
theorem aev {g:GR} (a:VG g):Ae 1000 g.1=some (jR g g.1.length):=by
 have d:=a.n24;have b:=a.len;have h:=a.n1;have f:0<=at' g.1 ((0:Nat):Int):=(a.node 0 (by omega)).id.1;unfold Ae;rw[if_neg (by omega),bZ (by omega)];have:=dU (step:=tS g.1) (K:=some (jR g g.1.length)) (g.1.length - 1) (λk=>(jR g (k+1),((k+1:Nat):Int))) (λk c i=>by
  unfold tS;dsimp only;rw[if_pos (by omega),bZ (by omega),fC (by omega)];rfl) (λc=>by
  unfold tS yF;dsimp only;rw[if_neg (by omega),show g.1.length - 1+1=g.1.length by omega]) 1000 (by omega)
 have e:jR g (0+1)=at' g.1 (0:Int):=by
  show max (jR g 0) (at' g.1 ((0:Nat):Int))=_;simp only[jR];have:at' g.1 ((0:Nat):Int)=at' g.1 (0:Int):=rfl;omega
 rw[e]at this;exact this
theorem LA {g:GR} (c:VG g) {x:De} (o:DD x) (n:x.2.1=1∨x.2.1=2∨x.2.1=3) {v:Nat} (p:v<g.2.length):jV 1000 x g (v:Int)=some (lo g x v,hi g x v):=by
 obtain⟨⟨B,C⟩,⟨r,s⟩,t,u⟩:=o;have l:=c.n24;have d:=c.len;have e:=Kj c g.1.length (by omega);have w:0<=x.2.2.2.2.1*(g.1.length:Int):=Int.mul_nonneg r (by omega);have y:x.2.2.2.2.1*(g.1.length:Int)<=100000*24:=Int.mul_le_mul s (by omega) (by omega) (by omega);have z:0<=x.2.2.2.2.2*jR g g.1.length:=Int.mul_nonneg t e.1;have A:x.2.2.2.2.2*jR g g.1.length<=100000*255:=Int.mul_le_mul u e.2 e.1 (by omega);have i:nV 1000 x g (v:Int)=some (x.2.2.1,x.2.2.2.1+x.2.2.2.2.1*(g.2.length:Int)+x.2.2.2.2.2*jR g g.1.length):=by
  unfold nV;rw[bG (aev c),wr (x:=x.2.2.2.2.1*_) (by omega) (by omega),wr (x:=x.2.2.2.2.2*_) (by omega) (by omega),wr (x:=x.2.2.2.1+_) (by omega) (by omega),wr (by omega) (by omega),d]
 have j:nW 1000 x g (v:Int)=some (-1,((row g v).length:Int) - 1):=by
  have k:=(c.node v p).deg;unfold nW;rw[bZ (by omega)];show some ((-1:Int),wI .i64 (((row g v).length:Int) - 1))=_;rw[wr (by omega) (by omega)]
 have q:∀(f:Nat) (a:Int),bL (eG 1000 x g (v:Int)) (f+1) a=eG 1000 x g (v:Int) a (bL (eG 1000 x g (v:Int)) f):=λf a=>rfl;have b:∀(f:Nat) (a:Int),a=0∨a=1∨a=2->bL (eG 1000 x g (v:Int)) (f+1) a=if a=0 then(if 1=x.2.1 then nV 1000 x g (v:Int)else bL (eG 1000 x g (v:Int)) f 1)else if a=1 then(if 2=x.2.1 then rA 1000 x g (v:Int)else bL (eG 1000 x g (v:Int)) f 2)else(if 3=x.2.1 then nW 1000 x g (v:Int)else bL (eG 1000 x g (v:Int)) f 3):=by
  intro f a m;rw[q];generalize bL (eG 1000 x g (v:Int)) f=G;unfold eG l_;rcases m with rfl|rfl|rfl
  ·rw[if_pos (by decide),bZ (by decide),if_pos Z,if_pos Z];split
   ·rw[i];rfl
   ·rfl
  ·rw[if_pos (by decide),bZ (by decide),if_neg (show¬(1:Int)=0 by decide),if_pos Z,if_neg (show¬(1:Int)=0 by decide),if_pos Z];split
   ·rfl
   ·rfl
  ·rw[if_pos (by decide),bZ (by decide),if_neg (show¬(2:Int)=0 by decide),if_neg (show¬(2:Int)=1 by decide),if_neg (show¬(2:Int)=0 by decide),if_neg (show¬(2:Int)=1 by decide)];split
   ·rw[j];rfl
   ·rfl
 unfold jV lo hi;rcases n with h|h|h
 ·rw[b 999 0 (.inl Z),if_pos Z,if_pos h.symm,i,h,if_neg (by decide),if_neg (by decide),if_neg (by decide),if_neg (by decide)]
 ·rw[b 999 0 (.inl Z),if_pos Z,if_neg (by omega),b 998 1 (.inr (.inl Z)),if_neg (by decide),if_pos Z,if_pos h.symm,h,if_pos Z,if_pos Z];rfl
 ·rw[b 999 0 (.inl Z),if_pos Z,if_neg (by omega),b 998 1 (.inr (.inl Z)),if_neg (by decide),if_pos Z,if_neg (by omega),b 997 2 (.inr (.inr Z)),if_neg (by decide),if_neg (by decide),if_pos h.symm,j,h,if_neg (by decide),if_pos Z,if_neg (by decide),if_pos Z]

def pH (g:GR) (a:List De) (v x:Nat):fF:=(lo g (at' a (x:Int)) v,hi g (at' a (x:Int)) v)
def ES (g:GR) (a:List De) (v:Nat):fN:=(List.range a.length).map (pH g a v)
def CZ (g:GR) (a:List De):fO:=(List.range g.2.length).map (ES g a)
theorem lD {a:Type} [Inhabited a] (f:Nat->a) {n k:Nat} (h:k<n):at' ((List.range n).map f) (k:Int)=f k:=by
 rw[lN (by simpa using h)];simp
theorem yD {a:Type} (f:Nat->a) (z:a) (n k:Nat) (h:k<n):((List.range k).map f++List.replicate (n - k) z).set k (f k)=(List.range (k+1)).map f++List.replicate (n - (k+1)) z:=by
 rw[show n - k=(n - (k+1))+1 by omega,List.replicate_succ,List.set_append_right _ _ (by simp),List.range_succ];simp
theorem Qj {g:GR} (m:VG g) {p:sF} (n:tB g p.2.1):mP 1000 p g=some (CZ g p.2.1):=by
 have s:=m.n24;have d:=m.len;have w:=n.len;let a:=p.2.1;let Q:Nat->fO:=λk=>(List.range k).map (ES g a)++List.replicate (g.2.length - k) [];have c:∀k,k<=g.2.length->(Q k).length=g.2.length:=λk f=>by simp[Q];omega
 let R:Nat->Nat->fN:=λk j=>(List.range j).map (pH g a k)++List.replicate (a.length - j) (0,0);have l:∀k j,j<=a.length->(R k j).length=a.length:=λk j b=>by simp[R];omega
 unfold mP;rw[bZ (by omega)];rw[show List.replicate (Int.toNat (g.1.length:Int)) ([]:fN)=Q 0 by simp[Q,d]];refine dU (step:=lO 1000 p g) (K:=some (CZ g a)) g.2.length (λk=>((k:Int),Q k)) (λk e f=> ?_) (λe=> ?_) 1000 (by omega)
 ·unfold lO;dsimp only;rw[if_pos (by simp;omega),bZ (by omega),bZ (by rw[c k (by omega)];omega)];refine Eq.trans (?_:_=bL (nJ 1000 p g ((k:Int),Q k) e) 1000 ((0:Int),(Q k).set k (R k 0))) ?_
  ·rw[Int.toNat_natCast,Int.toNat_natCast];simp[R,a]
  refine dU (step:=nJ 1000 p g ((k:Int),Q k) e) (K:=e (((k+1:Nat):Int),Q (k+1))) a.length (λj=>((j:Int),(Q k).set k (R k j))) (λj h b=> ?_) (λh=> ?_) 1000 (by show p.2.1.length<1000;omega)
  ·have u:j<p.2.1.length:=b;have t:=LA m (n.small j b) (n.kind j b) f;have v:k<(Q k).length:=by rw[c k (by omega)];exact f
   have o:∀X:fN,at' ((Q k).set k X) (k:Int)=X:=λX=>by rw[tE _ _ _ _ v,if_pos Z]
   have i:j<(R k j).length:=by rw[l k j (by omega)];exact b
   unfold nJ;dsimp only;rw[if_pos (by omega),bZ (by omega),bZ (by simp only[List.length_set];omega),bZ (by simp only[List.length_set];omega),bG (show jV 1000 _ g (k:Int)=_ from t),Int.toNat_natCast,Int.toNat_natCast];simp only[o,List.set_set];rw[bZ (by omega),bZ (by simp only[List.length_set];omega),fC (by omega)];have:(R k j).set j (lo g (at' p.2.1 (j:Int)) k,hi g (at' p.2.1 (j:Int)) k)=R k (j+1):=yD (pH g a k) (0,0) a.length j b;rw[tE _ _ _ _ i,if_pos Z];dsimp only;rw[this]
  ·unfold nJ uD;dsimp only;rw[if_neg (show¬((a.length:Nat):Int)<(p.2.1.length:Int)from Int.lt_irrefl _),fC (by omega)];have q:R k a.length=ES g a k:=by simp[R,ES]
   have r:(Q k).set k (ES g a k)=Q (k+1):=yD (ES g a) [] g.2.length k f;rw[q,r]
 ·unfold lO uC;dsimp only;rw[if_neg (by simp;omega)];simp[Q,CZ]
theorem abf {g:GR} (c:VG g) {p:sF} (b:tB g p.2.1):tP 1000 p g=some 0:=by
 have i:=c.n1;have h:=b.len;unfold tP;rw[bG (show BE 1000 _=some true from rfl),if_neg (by decide),bG (show gX 1000 g=some true from(VT g).1 c),if_neg (by decide)];refine dU (step:=mH 1000 p g) (K:=some 0) p.2.1.length (λk=>(k:Int)) (λk e d=> ?_) (λe=> ?_) 1000 (by omega)
 ·unfold mH pJ wE pJ;rw[if_pos (by omega),bZ (by omega),fC (by omega)];by_cases a:(at' p.2.1 (k:Int)).2.1=1
  ·obtain⟨j,l,m⟩:=b.range k d a;have f:=LA c (b.small k d) (b.kind k d) (v:=0) (by omega);rw[if_neg (by simpa using a),bG (show jV 1000 _ g (0:Int)=_ from f)];dsimp only;rw[if_neg (by omega),wr (x:=hi g (at' p.2.1 (k:Int)) 0 - lo g (at' p.2.1 (k:Int)) 0) (by omega) (by omega),wr (by omega) (by omega),if_neg (by rw[decide_eq_true_eq];omega)]
  ·rw[if_pos a]
 ·unfold mH wD;rw[if_neg (by omega)]

theorem Zb {g:GR} {a:List De} (i:a.length<=20) {v:Nat} {l:aO} (c:l.length=a.length) (d:∀x,x<a.length->lo g (at' a (x:Int)) v<=at' l (x:Int)∧at' l (x:Int)<=hi g (at' a (x:Int)) v):wO 1000 (ES g a v) l=some true:=by
 have f:(ES g a v).length=a.length:=by simp[ES]
 unfold wO;rw[if_neg (by rw[f,c];simp)];refine dU (step:=nN (ES g a v) l) (K:=some true) l.length (λk=>(k:Int)) (λk b h=> ?_) (λb=> ?_) 1000 (by omega)
 ·have e:at' (ES g a v) (k:Int)=pH g a v k:=lD _ (by omega);have:=d k (by omega);unfold nN uN;rw[if_pos (by omega),bZ (by omega),bZ (by omega),e];rw[if_neg (show¬at' l (k:Int)<(pH g a v k).1 from Int.not_lt.2 this.1),bZ (by omega),if_neg (by rw[decide_eq_true_eq];exact Int.not_lt.2 this.2),fC (by omega)]
 ·unfold nN uM;rw[if_neg (by omega)]
theorem Xj {g:GR} (a:VG g) {p:sF} (f:tB g p.2.1) {c:bE} (b:Du g c p.2.1):rV 1000 p g c=some 0:=by
 have i:=a.n24;have l:(CZ g p.2.1).length=g.2.length:=by simp[CZ]
 have d:=b.len;unfold rV;rw[bG (show tP 1000 _ _=some 0 from abf a f),if_neg (by decide),bG (show mP 1000 _ _=_ from Qj a f)];have:uK 1000 (CZ g p.2.1) c=some true:=by
  unfold uK;rw[if_neg (by rw[l,d];simp)];refine dU (step:=pS 1000 (CZ g p.2.1) c) (K:=some true) g.2.length (λk=>(k:Int)) (λk h e=> ?_) (λh=> ?_) 1000 (by omega)
  ·have j:at' (CZ g p.2.1) (k:Int)=ES g p.2.1 k:=lD _ e;unfold pS;rw[if_pos (by omega),bZ (by omega),bZ (by omega),j,bG (Zb f.len (b.row k e) (b.ok k e)),if_neg (by decide),fC (by omega)]
  ·unfold pS sQ;rw[if_neg (by omega)]
 rw[bG this,if_neg (by decide)]
theorem Tz (c:bE) (h:c.length<=900) (e:∀v,v<c.length->(at' c (v:Int)).length<=1000):lX 1000 c=some c:=by
 unfold lX;rw[bZ (by omega)];let Q:Nat->bE:=λk=>(List.range k).map (λv:Nat=>at' c (v:Int))++List.replicate (c.length - k) [];rw[show List.replicate (Int.toNat (c.length:Int)) ([]:aO)=Q 0 by simp[Q]];refine dU (step:=rZ c) (K:=some c) c.length (λk=>((k:Int),Q k)) (λk b a=> ?_) (λb=> ?_) 1000 (by omega)
 ·have g:(Q k).length=c.length:=by simp[Q];omega
  have:=e k a;unfold rZ;dsimp only;rw[if_pos (by omega),bZ (by omega),bZ (by simp;omega),bZ (by omega),fC (by omega),Int.toNat_natCast,List.nil_append];have:(Q k).set k (at' c (k:Int))=Q (k+1):=yD (λv:Nat=>at' c (v:Int)) [] c.length k a;rw[this]
 ·unfold rZ wS;dsimp only;rw[if_neg (by omega)];congr 1;refine List.ext_getElem (by simp[Q]) λi f d=> ?_;simp[Q,lN d]
def Ul (x:Int):Int:=max (-1073741824) (min x 1073741824)
def unD (o x:Int):Int:=if o=18 then wI .i64 (0 - x)else As (decide (x=0))
def abL (a b:Int):Int:=if b=0 then 0 else if Int.tmod a b≠0∧((decide (a<0)) != (decide (b<0)))=true then wI .i64 (wI .i64 (Int.tdiv a b) - 1)else wI .i64 (Int.tdiv a b)
def adM (o x y:Int):Bool:=if o=35 then decide (x=y)else if o=36 then decide (x≠y)else if o=37 then decide (x<y)else if o=38 then decide (x<=y)else if o=39 then decide (y<x)else decide (y<=x)
def biD (o x y:Int):Int:=
 if o=30 then Ul (wI .i64 (x*y))else if o=31 then Ul (abL x y)else if o=32 then(if y=0 then 0 else Ul (wI .i64 (x - wI .i64 (y*abL x y))))else if o=33 then Ul (wI .i64 (x+y))else if o=34 then Ul (wI .i64 (x - y))
 else if o=41 then As (decide (x≠0)&&decide (y≠0))else if o=42 then As (decide (x≠0)||decide (y≠0))else As (adM o x y)
theorem Zn (f:Nat) (o x:Int):Ad f o x=some (unD o x):=by
 unfold Ad unD;split
 ·rfl
 ·rw[bG (tU f _)]
theorem YO (f:Nat) (a b:Int):qM f a b=some (abL a b):=by
 unfold qM abL;by_cases c:b=0
 ·rw[if_pos c,if_pos c]
 ·rw[if_neg c,if_neg c,bZ c,bZ c];by_cases d:Int.tmod a b=0
  ·rw[if_neg (by simpa using d),if_neg (by simp[d])];rfl
  ·rw[if_pos d];unfold sO pM;by_cases e:((decide (a<0)) != (decide (b<0)))=true
   ·rw[if_pos e,if_pos ⟨d,e⟩]
   ·rw[if_neg e,if_neg (λq=>e q.2)]
theorem adN (f:Nat) (o x y:Int):uJ f o x y=some (adM o x y):=by
 unfold uJ adM
 repeat' split
 all_goals rfl
theorem UW (f:Nat) (o x y:Int):yA f o x y=some (biD o x y):=by
 unfold yA biD;by_cases h:o=30
 ·rw[if_pos h,if_pos h];rfl
 rw[if_neg h,if_neg h];by_cases h:o=31
 ·rw[if_pos h,if_pos h,bG (YO f x y)];rfl
 rw[if_neg h,if_neg h];by_cases h:o=32
 ·rw[if_pos h,if_pos h];by_cases b:y=0
  ·rw[if_pos b,if_pos b]
  ·rw[if_neg b,if_neg b,bG (YO f x y)];rfl
 rw[if_neg h,if_neg h];by_cases h:o=33
 ·rw[if_pos h,if_pos h];rfl
 rw[if_neg h,if_neg h];by_cases h:o=34
 ·rw[if_pos h,if_pos h];rfl
 rw[if_neg h,if_neg h];by_cases h:o=41
 ·rw[if_pos h,if_pos h];by_cases a:x=0
  ·rw[if_neg (by simpa using a),bG (tU f _)];simp[a,pK]
  ·rw[if_pos a,bG (tU f _)];simp[a,pK]
 rw[if_neg h,if_neg h];by_cases h:o=42
 ·rw[if_pos h,if_pos h];by_cases a:x=0
  ·rw[if_neg (by simpa using a),bG (tU f _)];simp[a,pL]
  ·rw[if_pos a,bG (tU f _)];simp[a,pL]
 rw[if_neg h,if_neg h,bG (adN f o x y),bG (tU f _)]
def E.den (L:Int->Int->Int->Int) (b:Nat):E->Int->Int
 |lf o a,p=>L o a p
 |un o x,p=>unD o (x.den L b p)
 |ag o x,_=>TG o ((List.range b).map λq=>x.den L b ((q:Nat):Int))
 |bi o x y,p=>biD o (x.den L b p) (y.den L b p)
 |ite x y z,p=>if x.den L b p≠0 then y.den L b p else z.den L b p
def E.wf (c:Nat):Bool->E->Bool
 |b,lf o a=>decide (1<=o)&&decide (o<=17)&&(b||decide (o<=10))&&((decide (o≠5)&&decide (o≠12))||(decide (0<=a)&&decide (a<(c:Int))))
 |b,un o x=>decide (18<=o)&&decide (o<=19)&&x.wf c b
 |_,ag o x=>(decide (o=20)||decide (o=21)||decide (o=22)||decide (o=23)||decide (o=24)||decide (o=26)||decide (o=27))&&x.wf c true
 |b,bi o x y=>decide (30<=o)&&decide (o<=42)&&x.wf c b&&y.wf c b
 |b,ite x y z=>x.wf c b&&y.wf c b&&z.wf c b
theorem ZM {i:Nat}:∀{e:E} {b:Bool},e.wf i b=true->e.arOk=true:=by
 intro e
 induction e with
 |lf o a=>intro b h;simp[E.wf,E.arOk]at h ⊢;omega
 |un o x f=>intro b h;simp[E.wf,E.arOk]at h ⊢;exact⟨h.1,f h.2⟩
 |ag o x f=>intro b h;simp[E.wf,E.arOk]at h ⊢;exact⟨by omega,f h.2⟩
 |bi o x y c d=>intro b h;simp[E.wf,E.arOk]at h ⊢;exact⟨⟨h.1.1,c h.1.2⟩,d h.2⟩
 |ite x y z c d g=>intro b h;simp[E.wf,E.arOk]at h ⊢;exact⟨⟨c h.1.1,d h.1.2⟩,g h.2⟩
def Yw (W:WLK) (p:Int):Int:=(at' (at' W.1.2.1.2 W.2.2.1) p).1
def TR (W:WLK) (o a p:Int):Int:=
 if o=1 then a else if o=2 then 1 else if o=3 then 0 else if o=4 then -1 else if o=5 then at' (at' W.2.1 W.2.2.1) a else if o=12 then at' (at' W.2.1 (Yw W p)) a
 else if o=6 then(W.1.2.1.1.length:Int)else if o=7 then W.1.2.2.1 else if o=8 then at' W.1.2.1.1 W.2.2.1 else if o=9 then((at' W.1.2.1.2 W.2.2.1).length:Int)else if o=10 then As (decide (W.2.2.1=0))else if o=11 then p
 else if o=13 then at' W.1.2.1.1 (Yw W p)else if o=14 then((at' W.1.2.1.2 (Yw W p)).length:Int)else if o=15 then As (decide (Yw W p=0))else if o=16 then(at' (at' W.1.2.1.2 W.2.2.1) p).2 else at' (at' W.1.2.2.2 W.2.2.1) p
structure WOk (W:WLK) (nv n v:Nat):Prop where
 node:W.2.2.1=(v:Int)
 lt:v<n
 ports:W.1.2.1.2.length=n
 ids:W.1.2.1.1.length=n
 c:W.2.1.length=n
 row:∀u:Nat,u<n->(at' W.2.1 (u:Int)).length=nv
 to:∀u:Nat,u<n->∀i:Nat,i<(at' W.1.2.1.2 (u:Int)).length->0<=(at' (at' W.1.2.1.2 (u:Int)) (i:Int)).1∧(at' (at' W.1.2.1.2 (u:Int)) (i:Int)).1<(n:Int)
 bl:W.1.2.2.2.length=n
 br:∀u:Nat,u<n->(at' W.1.2.2.2 (u:Int)).length=(at' W.1.2.1.2 (u:Int)).length
def Wx (b:Bool) (a:Nat) (p:Int):Prop:=b=true->∃q:Nat,p=(q:Int)∧q<a
theorem abv {W:WLK} {k n v:Nat} (h:WOk W k n v) (f:Nat) {b:Bool} {o a p:Int} (s:(E.lf o a).wf k b=true) (r:Wx b (at' W.1.2.1.2 (v:Int)).length p):lS f W (o,a) p=some (TR W o a p):=by
 obtain⟨y,c,A,B,C,l,m,F,w⟩:=h;simp only[E.wf,Bool.and_eq_true,Bool.or_eq_true,decide_eq_true_eq]at s;obtain⟨⟨⟨G,H⟩,d⟩,I⟩:=s;have z:(at' W.2.1 (v:Int)).length=k:=l v c;unfold lS TR Yw;dsimp only;rw[y];by_cases e:o=1
 ·simp only[if_pos e]
 simp only[if_neg e];by_cases e:o=2
 ·simp only[if_pos e]
 simp only[if_neg e];by_cases e:o=3
 ·simp only[if_pos e]
 simp only[if_neg e];by_cases e:o=4
 ·simp only[if_pos e]
 simp only[if_neg e];by_cases e:o=5
 ·simp only[if_pos e];rw[bZ (by omega),bZ (by omega)]
 simp only[if_neg e];by_cases e:o=12
 ·have i:b=true:=by
   rcases d with d|d
   ·exact d
   ·omega
  obtain⟨q,rfl,j⟩:=r i;have g:=m v c q j;obtain⟨u,x⟩:∃u:Nat,(at' (at' W.1.2.1.2 (v:Int)) (q:Int)).1=(u:Int):=⟨_,(Int.toNat_of_nonneg g.1).symm⟩
  simp only[if_pos e];rw[x]at g ⊢;have D:=l u (by omega);rw[bZ (by omega),bZ (by omega),bZ (by omega),bZ (by omega)]
 simp only[if_neg e];unfold rS;dsimp only;by_cases e:o=6
 ·simp only[if_pos e];rfl
 simp only[if_neg e];by_cases e:o=7
 ·simp only[if_pos e];rfl
 simp only[if_neg e];by_cases e:o=8
 ·simp only[if_pos e];rw[bZ (by omega)];rfl
 simp only[if_neg e];by_cases e:o=9
 ·simp only[if_pos e];rw[bZ (by omega)];rfl
 simp only[if_neg e];by_cases e:o=10
 ·simp only[if_pos e];rw[bG (tU f _)];rfl
 simp only[if_neg e];by_cases e:o=11
 ·simp only[if_pos e];rfl
 simp only[if_neg e];have i:b=true:=by
  rcases d with d|d
  ·exact d
  ·omega
 obtain⟨q,rfl,j⟩:=r i;have g:=m v c q j;rw[bZ (by omega),bZ (by omega)];by_cases e:o=13
 ·simp only[if_pos e];rw[bZ (by omega)];rfl
 simp only[if_neg e];by_cases e:o=14
 ·simp only[if_pos e];rw[bZ (by omega)];rfl
 simp only[if_neg e];by_cases e:o=15
 ·simp only[if_pos e];rw[bG (tU f _)];rfl
 simp only[if_neg e];by_cases e:o=16
 ·simp only[if_pos e];rfl
 simp only[if_neg e];have t:=w v c;rw[bZ (by omega),bZ (by omega)];rfl
theorem ZC {W:WLK} {nv n v:Nat} (h:WOk W nv n v) {deg:Nat} (hdeg:(at' W.1.2.1.2 (v:Int)).length=deg) (hd24:deg<=24) (hT9:W.2.2.2.length<=800):
  ∀(e:E) (b:Bool) (fuel k:Nat) (p:Int) (pre post:fN),W.2.2.2=pre++(e.ts++post)->pre.length=k->e.wf nv b=true->Wx b deg p->e.depth+850<=fuel->
   bR fuel W (k:Int) p=some (e.den (TR W) deg p,(((k+e.ts.length:Nat)):Int)):=by
 obtain⟨hv,hlt,h1,h2,h3,h4,h5,_,_⟩:=id h;have start:∀{t:fF} {l pre post:fN} {k:Nat},W.2.2.2=pre++((t::l)++post)->pre.length=k->at' W.2.2.2 (k:Int)=t∧(k:Int)<(W.2.2.2.length:Int):=by
  intro t l pre post k hT hk;refine⟨Tj (rest:=l++post) (by simpa using hT) hk,?_⟩
  rw[hT];simp;omega
 intro e
 induction e with
 |lf o a=>
  intro b fuel k p pre post hT hk hw hp hf;obtain⟨fuel,rfl⟩:∃f,fuel=f+1:=⟨fuel - 1,by omega⟩
  obtain⟨ht,hlk⟩:=start (l:=[]) hT hk;show cV (bR fuel) fuel W (k:Int) p=_;unfold cV;rw[bZ ⟨by omega,hlk⟩,ht];dsimp only;have hw':=hw;simp only[E.wf,Bool.and_eq_true,Bool.or_eq_true,decide_eq_true_eq]at hw';have hl:=abv h fuel hw (hdeg▸hp);rw[if_pos (by omega),bG (show lS fuel _ (o,a) p=some (TR W o a p)from hl),fC (by omega)];rfl
 |un o x ih=>
  intro b fuel k p pre post hT hk hw hp hf;obtain⟨fuel,rfl⟩:∃f,fuel=f+1:=⟨fuel - 1,by omega⟩
  obtain⟨ht,hlk⟩:=start (l:=x.ts) hT hk;show cV (bR fuel) fuel W (k:Int) p=_;unfold cV;rw[bZ ⟨by omega,hlk⟩,ht];dsimp only;simp only[E.wf,Bool.and_eq_true,decide_eq_true_eq]at hw;simp only[E.depth]at hf;have hx:=ih b fuel (k+1) p (pre++[(o,0)]) post (by rw[hT];simp[E.ts]) (by simp[hk]) hw.2 hp (by omega);rw[if_neg (by omega),if_pos (by omega),fC (by omega),bG (show bR fuel _ _ p=_ from hx),bG (Zn fuel _ _)];simp only[E.den,E.ts,List.length_cons];rw[show k+1+x.ts.length=k+(x.ts.length+1) by omega]
 |bi o x y ihx ihy=>
  intro b fuel k p pre post hT hk hw hp hf;obtain⟨fuel,rfl⟩:∃f,fuel=f+1:=⟨fuel - 1,by omega⟩
  obtain⟨ht,hlk⟩:=start (l:=x.ts++y.ts) hT hk;show cV (bR fuel) fuel W (k:Int) p=_;unfold cV;rw[bZ ⟨by omega,hlk⟩,ht];dsimp only;simp only[E.wf,Bool.and_eq_true,decide_eq_true_eq]at hw;simp only[E.depth]at hf;have hx:=ihx b fuel (k+1) p (pre++[(o,0)]) (y.ts++post) (by rw[hT];simp[E.ts]) (by simp[hk]) hw.1.2 hp (by omega);have hy:=ihy b fuel (k+1+x.ts.length) p (pre++(o,0)::x.ts) post (by rw[hT];simp[E.ts]) (by simp[hk];omega) hw.2 hp (by omega);rw[if_neg (by omega),if_neg (by omega),if_neg (by omega),if_pos (by omega),fC (by omega),bG (show bR fuel _ _ p=_ from hx),bG (show bR fuel _ _ p=_ from hy),bG (UW fuel _ _ _)];simp only[E.den,E.ts,List.length_cons,List.length_append];rw[show k+1+x.ts.length+y.ts.length=k+(x.ts.length+y.ts.length+1) by omega]
 |ite x y z ihx ihy ihz=>
  intro b fuel k p pre post hT hk hw hp hf;obtain⟨fuel,rfl⟩:∃f,fuel=f+1:=⟨fuel - 1,by omega⟩
  obtain⟨ht,hlk⟩:=start (l:=x.ts++(y.ts++z.ts)) hT hk;show cV (bR fuel) fuel W (k:Int) p=_;unfold cV;rw[bZ ⟨by omega,hlk⟩,ht];dsimp only;simp only[E.wf,Bool.and_eq_true]at hw;simp only[E.depth]at hf;have hx:=ihx b fuel (k+1) p (pre++[(43,0)]) (y.ts++z.ts++post) (by rw[hT];simp[E.ts]) (by simp[hk]) hw.1.1 hp (by omega);have hy:=ihy b fuel (k+1+x.ts.length) p (pre++(43,0)::x.ts) (z.ts++post) (by rw[hT];simp[E.ts]) (by simp[hk];omega) hw.1.2 hp (by omega);have hz:=ihz b fuel (k+1+x.ts.length+y.ts.length) p (pre++(43,0)::(x.ts++y.ts)) post (by rw[hT];simp[E.ts]) (by simp[hk];omega) hw.2 hp (by omega);rw[if_neg (by decide),if_neg (by decide),if_neg (by decide),if_neg (by decide),fC (by omega),bG (show bR fuel _ _ p=_ from hx),bG (show bR fuel _ _ p=_ from hy),bG (show bR fuel _ _ p=_ from hz)];simp only[E.den,E.ts,List.length_cons,List.length_append];rw[show k+1+x.ts.length+y.ts.length+z.ts.length=k+(x.ts.length+(y.ts.length+z.ts.length)+1) by omega];split<;>rfl
 | ag o x ih =>
  intro b fuel k p pre post hT hk hw hp hf;obtain⟨fuel,rfl⟩:∃f,fuel=f+1:=⟨fuel - 1,by omega⟩
  obtain⟨ht,hlk⟩:=start (l:=x.ts) hT hk;have har:=ZM hw;have hwx:=hw;simp only[E.wf,Bool.and_eq_true,Bool.or_eq_true,decide_eq_true_eq]at hwx;simp only[E.depth]at hf;have hts:(E.ag o x).ts.length=x.ts.length+1:=rfl;have hlen:=congrArg List.length hT;simp only[List.length_append]at hlen;show cV (bR fuel) fuel W (k:Int) p=_;unfold cV;rw[bZ ⟨by omega,hlk⟩,ht];dsimp only;rw[if_neg (by omega),if_neg (by omega),if_pos (by omega),bZ (by omega)];let D:Nat->Int:=λq=>x.den (TR W) deg ((q:Nat):Int);let V:Nat->aO:=λq=>(List.range q).map D++List.replicate (24 - q) 0;have hVl:∀q,q<=24->(V q).length=24:=λq hq=>by simp[V];omega
  have hset:∀q,q<24->(V q).set q (D q)=V (q+1):=λq hq=>by
   show((List.range q).map D++List.replicate (24 - q) 0).set q (D q)=(List.range (q+1)).map D++List.replicate (24 - (q+1)) 0;rw[show 24 - q=(24 - (q+1))+1 by omega,List.replicate_succ,List.set_append_right _ _ (by simp),List.range_succ];simp
  let N:Nat->Int:=λq=>if q=0 then 0 else(((k+1+x.ts.length:Nat)):Int)
  refine Eq.trans (dU (step:=kC fuel W (k:Int) (bR fuel)) (K:=some ((E.ag o x).den (TR W) deg p,(((k+(E.ag o x).ts.length:Nat)):Int))) deg (λq=>(N q,(q:Int),V q)) (λq ag hq=> ?_) (λag=> ?_) fuel (by omega)) rfl
  ·unfold kC;dsimp only;have hx:=ih true fuel (k+1) ((q:Nat):Int) (pre++[(o,0)]) post (by rw[hT];simp[E.ts]) (by simp[hk]) hwx.2 (λ_=>⟨q,rfl,hq⟩) (by omega);rw[if_pos (by rw[hv,hdeg];omega),fC (by omega),bG (show bR fuel _ _ _=_ from hx),bZ ⟨by omega,hVl q (by omega)⟩,fC (by omega),Int.toNat_natCast];show ag (_,_,(V q).set q (D q))=_;rw[hset q (by omega)];simp only[N];rw[if_neg (by omega)]
  ·unfold kC;dsimp only;rw[if_neg (by rw[hv,hdeg];omega)];have hfold:List.take deg (V deg)=(List.range deg).map D:=by
    show List.take deg ((List.range deg).map D++_)=_;exact List.take_left' (by simp)
   have fin:∀y:Int,y=(((k+1+x.ts.length:Nat)):Int)->kB fuel W (k:Int) (N deg,V deg) y=some ((E.ag o x).den (TR W) deg p,(((k+(E.ag o x).ts.length:Nat)):Int)):=by
    rintro y rfl;unfold kB;dsimp only;rw[hv,hdeg,bZ ⟨by omega,by omega,by rw[hVl deg hd24];omega⟩,ht,Int.toNat_natCast,hfold,bG (abg fuel o _ (by omega) (by simp;omega) (by omega))];unfold mX;rw[hts,show k+1+x.ts.length=k+(x.ts.length+1) by omega];rfl
   unfold qY;dsimp only;by_cases h0:deg=0
   ·rw[if_pos (by rw[hv,hdeg];omega),bG (adV fuel (E.ag o x) har hT hk hT9 (by omega))];exact fin _ (by rw[hts];omega)
   ·rw[if_neg (by rw[hv,hdeg];omega)];exact fin _ (by simp only[N];rw[if_neg h0])
end Go.Proofs.YtlkhndebimcbbaaGreatDoor
namespace Go.Proofs.YtlkhndebimcbbaaGreatDoor
open Go.Sx
def gA (U:Nat) (a:VR) (b:bE) (c:Int) (d:fN):Option (Int):=
 Option.bind (bR U ((((((a.1.1,a.1.2.1,a.1.2.2)),((a.2.1.1,a.2.1.2)),a.2.2.1,a.2.2.2)),b,c,d)) (0:Int) (-1:Int)) λe=>(some (e.1))
theorem Tm:aU Tryz.prog 126:=Tryz.call126
theorem xG (U:Nat) {d:VR} {s:bE} {f:Int} {t:fN} (a:Nat)  (m:Value)  (n:Value)  (o:Value)  (p:Value)  (u:lJ)  (q:Value)  (v:qF)  (e:Value)  (y:qF)  (b:Value) (r:Int) (h:gA U d s f t=some r):
  aY Tryz.prog 126 #[vP a,e,vI (f),b] [bY a [vS (d.1.1),m,n,o,p,vI (d.2.2.1),q] 134,Sl aR m d.1.2.1,Sl aJ n d.1.2.2,Sl bO o d.2.1.1,S2 bA p u d.2.1.2,S2 bO q v d.2.2.2,S2 bO e y s,Sl bA b t] (λx:Unit=>vI (r)) (λx l=>l) (λ_ l=>l):=by
 refine aY.of Tryz.func126 Z Tryz.ntmps126 Z λc=>?_;refine aW<|aE Z<|aM<|aW<|aA Z<|aA Z<|aA Z<|aA Z<|cF (Know.one (aF.sl (aF.fact 6 Z))) λg=>cF (Know.one ((aF.fact 7 Z))) λi=>?_;refine aB (acU (r:=Value.agg #[Value.pointer (some ⟨a,0,none⟩),e,vI (f),b]) Z Z Z Z (by intro w;simp[Instr.build,Instr.fill,eX,dY,dH,eY,eZ,dZ,gK,eI g,eI i])) Z ?_;refine aH (aN.alloc (cs:=[Value.pointer none,lH,vI (0:Int),lH]) Z Z) Z λz=>cF (Know.one (aF.sl (aF.fact 6 Z))) λj=>cF (Know.one ((aF.fact 7 Z))) λk=>bT 0 (vs:=[vP a,e,vI (f),b]) Z Z (kW Z (kW j (kW Z (kW k Z)))) Z Z Z<|aM<|aW<|fU h λA B h=>aH (aN.callQ Bf (Eh U z a m n o p u q v e y b A B) Z (aG.cons (aF.res 0 Z) (oO [0,1,2,3,4,5,6,7] Z))) Z λC=>aA Z<|iS Z<|iS Z<|aE Z<|aE Z<|aM<|aW<|aA Z<|aE Z<|aM<|aV ?_;cases h;exact vN Z
def kK (U:Nat) (a:VR) (c:bE) (d:Int) (b:Int):Option (Bool):=
 ck (0<=b∧b<(List.length a.1.2.2:Int)) (Option.bind (gA U ((((a.1.1,a.1.2.1,a.1.2.2)),((a.2.1.1,a.2.1.2)),a.2.2.1,a.2.2.2)) c d ((at' a.1.2.2 b).2.1.2)) λe=>(some (decide (e≠(0:Int)))))
theorem adH:aU Tryz.prog 92:=Tryz.call92
theorem Dr (U:Nat) {a:VR} {n:bE} {o:Int} {e:Int} (b:Nat)  (f:Value)  (g:Value)  (i:Value)  (j:Value)  (p:lJ)  (k:Value)  (q:qF)  (m:Value)  (s:qF) (r:Bool) (h:kK U a n o e=some r):
  aY Tryz.prog 92 #[vP b,m,vI (o),vI (e)] [bY b [vS (a.1.1),f,g,i,j,vI (a.2.2.1),k] 134,Sl aR f a.1.2.1,Sl aJ g a.1.2.2,Sl bO i a.2.1.1,S2 bA j p a.2.1.2,S2 bO k q a.2.2.2,S2 bO m s n] (λx:Unit=>vB (r)) (λx l=>l) (λ_ l=>l):=by
 refine aY.of Tryz.func92 Z Tryz.ntmps92 Z λc=>?_;refine aW<|aE Z<|aM<|aW<|aA Z<|aA Z<|aA Z<|aA Z<|aB (cB Z) Z<|bW Z<|bW Z<|aB (dG Z (aF.fact 0 Z) Z Z Z) Z<|aA Z<|dB h λd h=>aB (bB Z Z (aF.fact 2 Z) Z Z d) Z<|aB (nH Z Z Z Z Z) Z<|aB (pY Z (aF.fact 2 Z) Z Z Z zV d) Z<|fU h λt u h=>aH (aN.callQ Tm (xG U b f g i j p k q m s ((at' a.1.2.2 e).2.1.1) t u) Z (aG.cons (aF.fact 0 Z) (aG.cons (aF.fact 1 Z) (aG.cons (aF.fact 2 Z) (aG.cons (aF.fact 3 Z) (aG.cons (aF.fact 4 Z) (aG.cons (aF.fact 5 Z) (aG.cons (aF.fact 6 Z) (aG.cons (vD (aF.fact 2 Z) zX d.1 d.2) .nil))))))))) Z λv=>qO Z<|aE Z<|aM<|aV ?_;cases h;exact lP Z
def mZ  (a:Unit):Option (Int):=
 some (-1:Int)
def kE (U:Nat) (a:HU) (d:bE) (e:Int) (b:Int) (c:(Int)->Option (Int)):Option (Int):=
 if b<(List.length a.1.2.2:Int)then(Option.bind (kK U ((((a.2.1.1.1,a.2.1.1.2.1,a.2.1.1.2.2)),((a.2.1.2.1.1,a.2.1.2.1.2)),a.2.1.2.2.1,a.2.1.2.2.2)) d e b) λf=>(if f=true then(some (b))else(c (wI .i64 (b+(1:Int))))))else(mZ  (()))
def eJ (U:Nat) (a:HU) (b:bE) (c:Int):Option (Int):=
 bL (kE U a b c) U (0:Int)
theorem Xd:aU Tryz.prog 68:=Tryz.call68
theorem yW (U:Nat) {a:HU} {n:bE} {m:Int} (d:Nat)  (z:Value)  (A:Value)  (e:Nat)  (o:Value)  (p:Value)  (q:Value)  (s:Value)  (B:lJ)  (t:Value)  (g:qF)  (f:Value)  (v:lJ)  (b:Value)  (i:qF) (r:Int) (h:eJ U a n m=some r):
  aY Tryz.prog 68 #[vP d,b,vI (m)] [bY d [vS (a.1.1),z,A,vP e,f] 106,Sl aR z a.1.2.1,Sl aJ A a.1.2.2,bY e [vS (a.2.1.1.1),o,p,q,s,vI (a.2.1.2.2.1),t] 134,Sl aR o a.2.1.1.2.1,Sl aJ p a.2.1.1.2.2,Sl bO q a.2.1.2.1.1,S2 bA s B a.2.1.2.1.2,S2 bO t g a.2.1.2.2.2,S2 bA f v a.2.2,S2 bO b i n] (λx:Unit=>vI (r)) (λx l=>l) (λ_ l=>l):=by
 refine aY.of Tryz.func68 Z Tryz.ntmps68 Z λc=>?_;unfold eJ at h;refine aW<|aE Z<|aM<|aK<|eS (λj=>mZ  j=some r) (λj w=>[]) (λj w=>[]) ?_ ?_
 ·refine aW<|aA Z<|aB (cB Z) Z<|bW Z<|bW Z<|aB (dG Z (aF.fact 0 Z) Z Z Z) Z<|kT (aF.fact 2 Z) Z<|aA Z<|aM<|aT<|eV (kE U a n m) (λk y=>[(0,vP d),(1,b),(2,vI (m)),(13,vI (List.length a.1.2.2:Int)),(14,vI (k))]) (λk y=>[]) (0:Int) () h SF (aZ.refl _) ?_;intro E k y h;refine aW<|cY Z<|aM<|aK ?_;refine fJ h Z (λh=>?_) λh=>?_
  ·refine cU<|aK<|aT<|aW<|aA Z<|aE Z<|aM<|aW<|aA Z<|aB (cB Z) Z<|bW Z<|aB (dG Z (aF.fact 0 Z) Z Z Z) Z<|aA Z<|aA Z<|aA Z<|fU h λC u h=>aH (aN.callQ adH (Dr U e o p q s B t g b i C u) Z (oO [3,4,5,6,7,8,10] Z)) Z λD=>aM ?_;refine BM h Z (λ_ h=>?_) λ_ h=>?_
   ·refine aW<|aA Z<|aE Z<|aM<|aV<|bP<|aI<|aI<|bP<|aI ?_;cases h;exact lP Z
   refine dO<|oD<|aS<|cL Z<|aA Z<|aM ?_;exact Al (wI .i64 (k+(1:Int))) () h SF Z
  refine fV ?_;exact jG () (()) h SF Z
 intro j w h;unfold mZ at h;refine aW<|aE Z<|aM<|aV ?_;cases h;exact lP Z
def uB (d:Int) (a:fF) (b:Int) (c:Bool):Option (Int):=
 if c=true then(some (b))else(if d=(3:Int)then(some (-1:Int))else(if b<a.1 then(some (a.1))else(some (a.2))))
def wN (U:Nat) (c:Int) (a:fF) (b:Int):Option (Int):=
 if a.1<=b then(uB c a b (decide (b<=a.2)))else(uB c a b (false))
theorem aaE:aU Tryz.prog 166:=Tryz.call166
theorem KG (U:Nat) {e:Int} {a:fF} {d:Int} (r:Int) (h:wN U e a d=some r):
  aY Tryz.prog 166 #[vI (e),Value.agg #[vI (a.1),vI (a.2)],vI (d)] [] (λx:Unit=>vI (r)) (λx l=>l) (λ_ l=>l):=by
 refine aY.of Tryz.func166 Z Tryz.ntmps166 Z λc=>?_;refine aW<|aH (aN.box (cs:=[vI (a.1),vI (a.2)]) Z Z) Z λf=>aE Z<|aM<|aK<|aT<|aK<|eS (λb=>uB e a d b=some r) (λb g=>[(0,vI (e)),(2,vI (d)),(4,vP f),(7,vB (b))]) (λb g=>[bY f [vI (a.1),vI (a.2)] 138]) ?_ ?_
 ·refine aS<|aA Z ?_;refine aB (oE (i:=0) Z Z Z Z Z (by decide)) Z ?_;refine dN 0 Z<|aB (E_ Z Z) Z<|aA Z ?_;refine FG h Z (λ_ h=>?_) λ_ h=>?_
  ·refine eR Z ?_;refine aX Z (oE (i:=1) Z Z Z Z Z (by decide)) Z ?_;refine aX Z (gE 0 Z Z Z Z Z) Z<|aX Z (Df Z Z) Z<|fM Z<|aE Z<|aM ?_;exact jG (decide (d<=a.2)) () h SF Z
  refine aP Z<|aP Z<|aP Z<|aP Z<|iI Z<|aE Z<|aM ?_;exact jG (false) () h SF Z
 intro b g h;refine BM h Z (λ_ h=>?_) λ_ h=>?_
 ·refine aW<|aA Z<|aE Z<|aM<|aV<|bP<|aI ?_;cases h;exact vN Z
 refine aW<|aA Z<|cT Z<|aE Z<|aM ?_;refine fJ h Z (λh=>?_) λh=>?_
 ·refine aW<|aE Z<|aM<|aV<|bP<|aI ?_;cases h;exact vN Z
 refine aW<|aA Z ?_;refine aB (oE (i:=0) Z Z Z Z Z (by decide)) Z ?_;refine dN 0 Z<|cY Z<|aE Z<|aM ?_;refine fJ h Z (λh=>?_) λh=>?_
 ·refine aW ?_;refine aB (oE (i:=0) Z Z Z Z Z (by decide)) Z ?_;refine dN 0 Z<|aE Z<|aM<|aV<|bP<|aI ?_;cases h;exact vN Z
 refine dO<|oD<|aW ?_;refine aB (oE (i:=1) Z Z Z Z Z (by decide)) Z ?_;refine dN 0 Z<|aE Z<|aM<|aV ?_;cases h;exact vN Z
def mY  (a:aO):Option aO:=
 some (a)
def kD (U:Nat) (b:HU) (h:bE) (d:Int) (c:Int) (a:kU) (e:qP->Option aO):Option aO:=
 if a.1<(List.length ((at' b.1.2.2 c).2.2.2):Int)then(ck (0<=a.1∧a.1<(List.length ((at' b.1.2.2 c).2.2.2):Int)) (Option.bind (gA U ((((b.2.1.1.1,b.2.1.1.2.1,b.2.1.1.2.2)),((b.2.1.2.1.1,b.2.1.2.1.2)),b.2.1.2.2.1,b.2.1.2.2.2)) h d ((at' ((at' b.1.2.2 c).2.2.2) a.1).2.2)) λf=>(ck (0<=((at' ((at' b.1.2.2 c).2.2.2) a.1).1)∧((at' ((at' b.1.2.2 c).2.2.2) a.1).1)<(List.length b.1.2.1:Int)) (ck (0<=d∧d<(List.length b.2.2:Int)) (ck (0<=((at' ((at' b.1.2.2 c).2.2.2) a.1).1)∧((at' ((at' b.1.2.2 c).2.2.2) a.1).1)<(List.length (at' b.2.2 d):Int)) (Option.bind (wN U ((at' b.1.2.1 ((at' ((at' b.1.2.2 c).2.2.2) a.1).1)).2.1) ((((at' (at' b.2.2 d) ((at' ((at' b.1.2.2 c).2.2.2) a.1).1)).1),((at' (at' b.2.2 d) ((at' ((at' b.1.2.2 c).2.2.2) a.1).1)).2))) f) λg=>(ck (0<=((at' ((at' b.1.2.2 c).2.2.2) a.1).1)∧((at' ((at' b.1.2.2 c).2.2.2) a.1).1)<(List.length a.2:Int)) (e ((wI .i64 (a.1+(1:Int))),(List.set a.2 (Int.toNat ((at' ((at' b.1.2.2 c).2.2.2) a.1).1)) g))))))))))else(mY  (a.2))
def lC (U:Nat) (d:HU) (b:bE) (a:Int) (c:Int):Option aO:=
 ck (0<=a∧a<(List.length b:Int)) (ck ((List.length ([]:aO):Int)+(List.length (at' b a):Int)<=1099511627) (ck (0<=c∧c<(List.length d.1.2.2:Int)) (bL (kD U d b a c) U ((0:Int),(([]:aO)++(at' b a))))))
theorem aaA:aU Tryz.prog 147:=Tryz.call147
theorem Ei (U:Nat) {b:HU} {C:bE} {m:Int} {f:Int} (j:Nat)  (O:Value)  (P:Value)  (k:Nat)  (E:Value)  (F:Value)  (G:Value)  (H:Value)  (Q:lJ)  (I:Value)  (y:qF)  (w:Value)  (M:lJ)  (i:Value)  (A:qF) (r:aO) (h:lC U b C m f=some r):
  aY Tryz.prog 147 #[vP j,i,vI (m),vI (f)] [bY j [vS (b.1.1),O,P,vP k,w] 106,Sl aR O b.1.2.1,Sl aJ P b.1.2.2,bY k [vS (b.2.1.1.1),E,F,G,H,vI (b.2.1.2.2.1),I] 134,Sl aR E b.2.1.1.2.1,Sl aJ F b.2.1.1.2.2,Sl bO G b.2.1.2.1.1,S2 bA H Q b.2.1.2.1.2,S2 bO I y b.2.1.2.2.2,S2 bA w M b.2.2,S2 bO i A C] (λx:Value=>x) (λx l=>Ar bX x r::l) (λ_ l=>l):=by
 refine aY.of Tryz.func147 Z Tryz.ntmps147 Z λc=>?_;refine aW<|aE Z<|aM<|aW<|aA Z<|aA Z<|dB h λB h=>aB (cC Z Z (aF.fact 10 Z) Z Z B) Z<|aB (cE Z (aF.fact 10 Z) Z Z B) Z<|jL (iK bX)<|dB h λS h=>aH (eW 0 dC Z Z Z (aF.el (aF.fact 10 Z) B.1 B.2) Z Z Z Z S Z) Z λv=>aE Z<|aM<|aK<|eS (λo=>mY  o=some r) (λo N=>[(9,v)]) (λo N=>[Ar bX v o]) ?_ ?_
 ·refine aW<|aA Z<|aB (cB Z) Z<|bW Z<|bW Z<|aB (dG Z (aF.fact 0 Z) Z Z Z) Z<|aA Z<|dB h λg h=>aB (bB Z Z (aF.fact 2 Z) Z Z g) Z<|aB (nH Z Z Z Z Z) Z<|aB (pY Z (aF.fact 2 Z) Z Z Z zW g) Z<|aB (h_ Z (vD (aF.fact 2 Z) gC g.1 g.2) Z) Z<|aA Z<|aM<|aT<|eV (kD U b C m f) (λa p=>[(0,vP j),(1,i),(2,vI (m)),(9,v),(26,(at' b.1.2.2 f).2.2.1),(27,vI (List.length ((at' b.1.2.2 f).2.2.2):Int)),(28,vI (a.1))]) (λa p=>[Ar bX v a.2]) ((0:Int),(([]:aO)++(at' C m))) () h SF (aZ.refl _) ?_;intro T a p h;refine aW<|cY Z<|aM<|aK ?_;refine fJ h Z (λh=>?_) λh=>?_
  ·refine cU<|aK<|aT<|aW<|dB h λd h=>aB (bB Z Z (vD (aF.fact 2 Z) gC g.1 g.2) Z Z d) Z<|aB (Rc (cs:=[vI ((at' ((at' b.1.2.2 f).2.2.2) a.1).1),(at' ((at' b.1.2.2 f).2.2.2) a.1).2.1]) Z (vD (aF.fact 2 Z) gC g.1 g.2) K_ Z Z Z Z d) Z<|aH (aN.alloc (cs:=[vI (0:Int),lH]) Z Z) Z λR=>cF (Know.one ((vD (vD (aF.fact 2 Z) gC g.1 g.2) Dc d.1 d.2))) λq=>bT 0 (vs:=[vI ((at' ((at' b.1.2.2 f).2.2.2) a.1).1),(at' ((at' b.1.2.2 f).2.2.2) a.1).2.1]) Z Z (kW Z (kW q Z)) Z Z Z<|aM<|aK ?_;refine JR.start [0,1,3,7,0,0,0,64,255,511] 8 mixedOrders (by decide +kernel) ?_;refine JR.open (by exact rfl) ?_;refine bH Z<|iX Z (cB Z)<|dD Z<|bK Z .nil (lE 0 Z) (dG Z (aF.fact 0 Z) Z Z Z) aL.z<|bH Z<|bH Z<|dD Z<|jO 0 Z<|bQ 8 Z Z<|fU h λD J h=>aH (aN.callQ Tm (xG U k E F G H Q I y i A ((at' ((at' b.1.2.2 f).2.2.2) a.1).2.1) D J) Z (aG.cons (aF.fact 3 Z) (aG.cons (aF.fact 4 Z) (aG.cons (aF.fact 5 Z) (aG.cons (aF.fact 6 Z) (aG.cons (aF.fact 7 Z) (aG.cons (aF.fact 8 Z) (aG.cons (aF.fact 10 Z) (aG.cons (vD (vD (aF.fact 2 Z) gC g.1 g.2) Dc d.1 d.2) .nil))))))))) Z λV=>aE Z<|aM ?_;refine JR.start [0,0,2,0,8,24,56,120,0,256,1016,2040,4088,0,8192,24576,57344,0,253952,516096,0,1048576,4186112,8380416,0,33554424,67108863,134217727] 26 mixedOrders (by decide +kernel) ?_;refine JR.open (by exact rfl) ?_;refine bH Z<|dD Z<|jO 0 Z<|bH Z<|iX Z (cB Z)<|dD Z<|dD Z<|bK Z .nil (lE 0 Z) (dG Z (aF.fact 0 Z) Z Z Z) aL.z<|dD Z<|jO 0 Z<|dB h λs h=>bK Z .nil (lE 1 Z) (bB Z Z (aF.fact 0 Z) Z Z s) aL.z<|iX Z (nH Z Z Z Z Z)<|bK Z .nil (lE 1 Z) (pY Z (aF.fact 0 Z) Z Z Z xF s) aL.z<|bH Z<|iX Z (cB Z)<|dD Z<|bK Z .nil (lE 0 Z) (dG Z (aF.fact 0 Z) Z Z Z) aL.z<|bH Z<|dB h λe h=>bK Z .nil (lE 9 Z) (cC Z Z (aF.fact 0 Z) Z Z e) aL.z<|bK Z .nil (lE 9 Z) (cE Z (aF.fact 0 Z) Z Z e) aL.z<|dD Z<|jO 0 Z<|dB h λt h=>bK Z .nil (lE 9 Z) (bB Z Z (aF.el (aF.fact 0 Z) e.1 e.2) Z Z t) aL.z<|bK Z .nil (lE 9 Z) (jM (cs:=[vI ((at' (at' b.2.2 m) ((at' ((at' b.1.2.2 f).2.2.2) a.1).1)).1),vI ((at' (at' b.2.2 m) ((at' ((at' b.1.2.2 f).2.2.2) a.1).1)).2)]) Z (aF.el (aF.fact 0 Z) e.1 e.2) bU Z Z Z Z t) aL.z<|bH Z<|fU h λn K h=>JR.loud Z Z Z (aN.callQ aaE (KG U  n K) Z .nil) Z (λL=>(vY [([0],[])] Z)) λL=>bQ 26 Z Z<|dB h λu h=>aB (bB Z Z (bF (aF.res 1 Z) dC) Z Z u) Z<|yM 1 n u Z Z Z Z Z Z Z<|eM<|oD<|aS<|cL Z<|aA Z<|aM ?_;exact nR ((wI .i64 (a.1+(1:Int))),(List.set a.2 (Int.toNat ((at' ((at' b.1.2.2 f).2.2.2) a.1).1)) n)) () h SF (aZ.ix [1] Z Z) (aG.refl _ _)
  refine fV ?_;exact jG (a.2) () h SF Z
 intro o N h;unfold mY at h;refine aW<|aA Z<|aE Z<|aM<|aV ?_;cases h;exact hZ (v) Z Z (RV.tmp Z) (aZ.refl _) aG.nil
def m_  (a:bE):Option bE:=
 some (a)
def kF (b:Int×bE) (a:(Int×bE)->Option bE) (c:bE):Option bE:=
 a ((wI .i64 (b.1+(1:Int))),c)
def iL (U:Nat) (b:HU) (d:bE) (g:Int) (a:Int×bE) (c:(Int×bE)->Option bE):Option bE:=
 if a.1<(List.length d:Int)then(ck (0<=a.1) (if(dM .u32 (rO .u32 g a.1) (1:Int))=(1:Int)then(Option.bind (eJ U ((((b.1.1,b.1.2.1,b.1.2.2)),((((b.2.1.1.1,b.2.1.1.2.1,b.2.1.1.2.2)),((b.2.1.2.1.1,b.2.1.2.1.2)),b.2.1.2.2.1,b.2.1.2.2.2)),b.2.2)) d a.1) λe=>(Option.bind (lC U ((((b.1.1,b.1.2.1,b.1.2.2)),((((b.2.1.1.1,b.2.1.1.2.1,b.2.1.1.2.2)),((b.2.1.2.1.1,b.2.1.2.1.2)),b.2.1.2.2.1,b.2.1.2.2.2)),b.2.2)) d a.1 e) λf=>(ck (0<=a.1∧a.1<(List.length a.2:Int)) (kF a c (List.set a.2 (Int.toNat a.1) f)))))else(kF a c (a.2))))else(m_  (a.2))
def jD (U:Nat) (b:HU) (a:bE) (c:Int):Option bE:=
 Option.bind (lX U a) λd=>(bL (iL U b a c) U ((0:Int),d))
theorem aan:aU Tryz.prog 111:=Tryz.call111
theorem Ej (U:Nat) {e:HU} {v:bE} {w:Int} (g:Nat)  (D:Value)  (E:Value)  (o:Nat)  (F:Value)  (G:Value)  (H:Value)  (I:Value)  (Q:lJ)  (J:Value)  (t:qF)  (p:Value)  (u:lJ)  (d:Value)  (q:qF) (r:bE) (h:jD U e v w=some r):
  aY Tryz.prog 111 #[vP g,d,vU (w)] [bY g [vS (e.1.1),D,E,vP o,p] 106,Sl aR D e.1.2.1,Sl aJ E e.1.2.2,bY o [vS (e.2.1.1.1),F,G,H,I,vI (e.2.1.2.2.1),J] 134,Sl aR F e.2.1.1.2.1,Sl aJ G e.2.1.1.2.2,Sl bO H e.2.1.2.1.1,S2 bA I Q e.2.1.2.1.2,S2 bO J t e.2.1.2.2.2,S2 bA p u e.2.2,S2 bO d q v] (λx:Is=>x.1) (λx l=>Ar cQ.raw x.1 x.2::jZ bX x.2 r::l) (λ_ l=>l):=by
 refine aY.of Tryz.func111 Z Tryz.ntmps111 Z λc=>?_;refine aW<|aE Z<|aM<|aW<|aA Z<|fU h λR S h=>aH (aN.callQ MX (yI U d q R S) Z (oO [10] Z)) Z λs=>aE Z<|aM<|aK<|ER (B:=fT) (λy=>m_  y=some r) (λy z=>[(7,s.1)]) (λy z=>[Ar cQ.raw s.1 z,jZ bX z y]) ?_ ?_
 ·refine aW<|aA Z<|aB (gQ Z (aF.fact 10 Z) Z) Z<|aA Z<|aM<|aT<|eV (B:=fT) (iL U e v w) (λa b=>[(0,vP g),(1,d),(2,vU (w)),(7,s.1),(12,vI (List.length v:Int)),(13,vI (a.1))]) (λa b=>[Ar cQ.raw s.1 b,jZ bX b a.2]) ((0:Int),R) (s.2) h SF (aZ.refl _) ?_;intro L a b h;refine aW<|cY Z<|aM<|aK ?_;refine fJ h Z (λh=>?_) λh=>?_
  ·refine cU<|aK<|ER (B:=fT) (λf=>kF a (bL (iL U e v w) L) f=some r) (λf m=>[(0,vP g),(1,d),(2,vU (w)),(7,s.1),(12,vI (List.length v:Int)),(13,vI (a.1))]) (λf m=>[Ar cQ.raw s.1 m,jZ bX m f]) ?_ ?_
   ·refine aT<|aW<|aA Z<|aE Z<|aM<|aW<|aA Z<|aA Z<|dB h λK h=>aB (Lw Z Z K) Z<|zQ Z<|cT Z<|aM ?_;refine fJ h Z (λh=>?_) λh=>?_
    ·refine aS<|aA Z<|aA Z<|aA Z<|aA Z<|aA Z<|aA Z<|aA Z<|aA Z<|fU h λM N h=>aH (aN.callQ Xd (yW U g D E o F G H I Q J t p u d q M N) Z (oO [0,1,2,3,4,5,6,7,8,9,10] Z)) Z λT=>fU h λC O h=>aH (aN.callQ aaA (Ei U g D E o F G H I Q J t p u d q C O) Z (oO [0,1,2,3,4,5,6,7,8,9,10] Z)) Z λP=>dB h λn h=>aB (cC Z Z (bV (i:=1) (j:=2) Z Z dC) Z Z n) Z<|cF (Know.one ((bF (aF.res 0 Z) dC))) λA=>jL (xJ (k:=a.1) 2 0 Z Z Z n) ?_;refine pW 0 1 ⟨n.1,by first|exact n.2|simpa using n.2⟩ Z Z Z Z Z (by simp) A Z ?_;refine eM<|oD ?_;exact jG (List.set a.2 (Int.toNat a.1) C) (List.set b (Int.toNat a.1) P) h SF Z
    refine dO<|oD ?_;exact jG (a.2) (b) h SF Z
   intro f m h;unfold kF at h;refine aS<|cL Z<|aA Z<|aM ?_;exact Al ((wI .i64 (a.1+(1:Int))),f) (m) h SF Z
  refine fV ?_;exact jG (a.2) (b) h SF Z
 intro y z h;unfold m_ at h;refine aW<|aA Z<|aE Z<|aM<|aV ?_;cases h;exact hZ (s.1,z) Z Z (RV.tmp Z) (aZ.refl _) aG.nil
def yG  (a:Int):Option (Int):=
 some (a)
def tT (c:fF) (b:iQ->Option (Int)) (a:Int):Option (Int):=
 b (a,(wI .i64 (c.2+(1:Int))))
def qV (e:Int) (d:Int->Option Bool) (a:fF) (b:iQ->Option (Int)):Option (Int):=
 if a.2<e then(Option.bind (d a.2) λc=>(if c=true then(ck (0<=a.2) (tT a b (MU .u32 a.1 (Co .u32 (1:Int) a.2))))else(tT a b (a.1))))else(yG  (a.1))
def Af (U:Nat) (b:Int) (a:Int->Option Bool):Option (Int):=
 bL (qV b a) U ((0:Int),(0:Int))
theorem ads:aU Tryz.prog 66:=Tryz.call66
theorem NN (U:Nat) {j:Int} {n:Int->Option Bool} (m:FuncId) (d:fT) (k:List a_) (f:aU Tryz.prog m) (g:∀(u:Int) (r:Bool),n u=some r->aY Tryz.prog m ([vI (u)]++d).toArray k (λ_:Unit=>vB (r)) (λ_ l=>l) (λ_ l=>l)) (r:Int) (h:Af U j n=some r):
  aY Tryz.prog 66 #[vI (j),Value.func (.func m) #[] (d).toArray] ([]++k) (λx:Unit=>vU (r)) (λx l=>l) (λ_ l=>l):=by
 refine aY.of Tryz.func66 Z Tryz.ntmps66 Z λc=>?_;unfold Af at h;refine aW<|aE Z<|aM<|aW<|aE Z<|aM<|aK<|Bv (B:=Unit) (λi=>yG  i=some r) (λi o=>[(5,vU (i))]) (λi o=>[]) (λi o=>([]++k)) ?_ ?_
 ·refine aW<|aA Z<|aA Z<|aM<|aT<|Ew (B:=Unit) (qV j n) (λb p=>[(1,Value.func (.func m) #[] (d).toArray),(5,vU (b.1)),(7,vI (j)),(8,vI (b.2))]) (λb p=>[]) (λb p=>([]++k)) ((0:Int),(0:Int)) () h SF (aZ.refl _) (aG.refl _ _) ?_;intro v b p h;refine aW<|cY Z<|aM<|aK ?_;refine fJ h Z (λh=>?_) λh=>?_
  ·refine cU<|aK<|Bv (B:=Unit) (λa=>tT b (bL (qV j n) v) a=some r) (λa e=>[(1,Value.func (.func m) #[] (d).toArray),(5,vU (a)),(7,vI (j)),(8,vI (b.2))]) (λa e=>[]) (λa e=>([]++k)) ?_ ?_
   ·refine aT<|aW<|aA Z<|aE Z<|aM<|aW<|aA Z<|aA Z<|fU h λs t h=>aH (vE (vs:=[vI (b.2)]) (cs:=d) f Z (g b.2 s t) Z (aG.tail _) (λ_ _=>rfl)) Z λw=>aM ?_;refine BM h Z (λ_ h=>?_) λ_ h=>?_
    ·refine aS<|aA Z<|aA Z<|dB h λq h=>aB (OG Z Z q) Z<|aB (ZZ Z Z) Z<|aE Z<|eM<|oD ?_;exact jG (MU .u32 b.1 (Co .u32 (1:Int) b.2)) () h SF Z
    refine dO<|oD ?_;exact jG (b.1) () h SF Z
   intro a e h;unfold tT at h;refine aS<|cL Z<|aA Z<|aM ?_;exact Al (a,(wI .i64 (b.2+(1:Int)))) () h SF Z
  refine fV ?_;exact jG (b.1) () h SF Z
 intro i o h;unfold yG at h;refine aW<|aA Z<|aE Z<|aM<|aV ?_;cases h;exact lP Z
def kA (U:Nat) (b:Int) (a:HU) (c:bE):Option (Bool):=
 Option.bind (eJ U ((((a.1.1,a.1.2.1,a.1.2.2)),((((a.2.1.1.1,a.2.1.1.2.1,a.2.1.1.2.2)),((a.2.1.2.1.1,a.2.1.2.1.2)),a.2.1.2.2.1,a.2.1.2.2.2)),a.2.2)) c b) λd=>(some (decide ((0:Int)<=d)))
theorem adt:aU Tryz.prog 67:=Tryz.call67
theorem A_ (U:Nat) {v:Int} {a:HU} {w:bE} (j:Nat)  (d:Nat)  (o:Value)  (p:Value)  (e:Nat)  (q:Value)  (s:Value)  (t:Value)  (u:Value)  (y:lJ)  (f:Value)  (k:qF)  (g:Value)  (m:lJ)  (b:Nat)  (i:Value)  (n:qF) (r:Bool) (h:kA U v a w=some r):
  aY Tryz.prog 67 #[vI (v),vP j,vP b] [bY j [vP d] 81,bY d [vS (a.1.1),o,p,vP e,g] 106,Sl aR o a.1.2.1,Sl aJ p a.1.2.2,bY e [vS (a.2.1.1.1),q,s,t,u,vI (a.2.1.2.2.1),f] 134,Sl aR q a.2.1.1.2.1,Sl aJ s a.2.1.1.2.2,Sl bO t a.2.1.2.1.1,S2 bA u y a.2.1.2.1.2,S2 bO f k a.2.1.2.2.2,S2 bA g m a.2.2,bY b [i] 30,S2 bO i n w] (λx:Unit=>vB (r)) (λx l=>l) (λ_ l=>l):=by
 refine aY.of Tryz.func67 Z Tryz.ntmps67 Z λc=>?_;refine aW<|aE Z<|aM<|aW<|aB (dG Z (aF.fact 0 Z) Z Z Z) Z<|aB (dG Z (aF.fact 11 Z) Z Z Z) Z<|aA Z<|fU h λz A h=>aH (aN.callQ Xd (yW U d o p e q s t u y f k g m i n z A) Z (oO [1,2,3,4,5,6,7,8,9,10,12] Z)) Z λB=>aB (E_ Z Z) Z<|aE Z<|aM<|aV ?_;cases h;exact lP Z
def d_ (U:Nat) (a:HU) (b:bE):Option (Int):=
 Option.bind (Af U (List.length a.2.2:Int) (λd=>kA U d ((((a.1.1,a.1.2.1,a.1.2.2)),((((a.2.1.1.1,a.2.1.1.2.1,a.2.1.1.2.2)),((a.2.1.2.1.1,a.2.1.2.1.2)),a.2.1.2.2.1,a.2.1.2.2.2)),a.2.2)) b)) λc=>(some (c))
theorem WY:aU Tryz.prog 40:=Tryz.call40
theorem vQ (U:Nat) {a:HU} {w:bE} (b:Nat)  (k:Value)  (m:Value)  (e:Nat)  (n:Value)  (o:Value)  (p:Value)  (q:Value)  (y:lJ)  (s:Value)  (g:qF)  (f:Value)  (i:lJ)  (d:Value)  (j:qF) (r:Int) (h:d_ U a w=some r):
  aY Tryz.prog 40 #[vP b,d] [bY b [vS (a.1.1),k,m,vP e,f] 106,Sl aR k a.1.2.1,Sl aJ m a.1.2.2,bY e [vS (a.2.1.1.1),n,o,p,q,vI (a.2.1.2.2.1),s] 134,Sl aR n a.2.1.1.2.1,Sl aJ o a.2.1.1.2.2,Sl bO p a.2.1.2.1.1,S2 bA q y a.2.1.2.1.2,S2 bO s g a.2.1.2.2.2,S2 bA f i a.2.2,S2 bO d j w] (λx:Unit=>vU (r)) (λx l=>l) (λ_ l=>l):=by
 refine aY.of Tryz.func40 Z Tryz.ntmps40 Z λc=>?_;refine aW<|aH (aN.box (cs:=[vP b]) Z Z) Z λt=>cF (Know.one (aF.sl (aF.fact 10 Z))) λv=>?_;refine aH (aN.box (cs:=[d]) Z (by rw[eI v])) Z λu=>?_;refine aE Z<|aM<|aW<|dN 1 Z<|aB (cB Z) Z<|bW Z<|aB (dG Z (aF.fact 0 Z) Z Z Z) Z<|aB (gQ Z (aF.fact 9 Z) Z) Z<|aB (xL (cs:=[.tmp 2,.tmp 3]) (vs:=[vP t,vP u]) Z) Z<|fU h λz A h=>aH (aN.callQ ads (NN U 67 [vP t,vP u] [bY t [vP b] 81,bY b [vS (a.1.1),k,m,vP e,f] 106,Sl aR k a.1.2.1,Sl aJ m a.1.2.2,bY e [vS (a.2.1.1.1),n,o,p,q,vI (a.2.1.2.2.1),s] 134,Sl aR n a.2.1.1.2.1,Sl aJ o a.2.1.1.2.2,Sl bO p a.2.1.2.1.1,S2 bA q y a.2.1.2.1.2,S2 bO s g a.2.1.2.2.2,S2 bA f i a.2.2,bY u [d] 30,S2 bO d j w] adt (λC r h=>A_ U t b k m e n o p q y s g f i u d j r h) z A) Z (aG.cons (aF.res 1 Z) (aG.cons (aF.fact 0 Z) (aG.cons (aF.fact 1 Z) (aG.cons (aF.fact 2 Z) (aG.cons (aF.fact 3 Z) (aG.cons (aF.fact 4 Z) (aG.cons (aF.fact 5 Z) (aG.cons (aF.fact 6 Z) (aG.cons (aF.fact 7 Z) (aG.cons (aF.fact 8 Z) (aG.cons (aF.fact 9 Z) (aG.cons (aF.res 0 Z) (oO [10] Z)))))))))))))) Z λB=>aE Z<|aM<|aV ?_;cases h;exact vN Z
end Go.Proofs.YtlkhndebimcbbaaGreatDoor
namespace Go.Proofs.YtlkhndebimcbbaaGreatDoor
open Go Go.Sx
abbrev RL:=E×List (Nat×E)
abbrev AZ:=sF×GR×Int×bE
def FB (R:List RL):KU:=R.map λr=>(r.1.ts,r.2.map λs=>((s.1:Int),s.2.ts))
def LM (a:Nat) (e:E):Bool:=e.wf a false&&decide (e.depth<=100)&&decide (e.ts.length<=800)
def xU (a:Nat) (R:List RL):Bool:=decide (R.length<=20)&&R.all λr=>LM a r.1&&decide (r.2.length<=20)&&r.2.all λs=>decide (s.1<a)&&LM a s.2
instance:Inhabited E:=⟨.lf 1 0⟩
def Dh (g:GR) (v i:Nat):Int:=AB (row g (fK (row g v) i).1.toNat) (v:Int)
def fI (g:GR):bE:=(List.range g.2.length).map λv=>(List.range (row g v).length).map (Dh g v)
def fS (S:AZ) (c:bE) (v:Nat) (e:E):Int:=e.den (TR (S,c,(v:Int),[])) (row S.2.1 v).length (-1)
def dL (S:AZ) (R:List RL) (c:bE) (v:Nat):Int:=p_ (R.map λr=>fS S c v r.1)
def mG (a:Int) (b:fF) (x:Int):Int:=if b.1<=x∧x<=b.2 then x else if a=3 then -1 else if x<b.1 then b.1 else b.2
def Ef (S:AZ) (a:List De) (c:bE) (v:Nat) (b:aO) (s:Nat×E):aO:=b.set s.1 (mG (at' a (s.1:Int)).2.1 (pH S.2.1 a v s.1) (fS S c v s.2))
def lT (S:AZ) (a:List De) (R:List RL) (c:bE) (v:Nat) (i:Int):aO:=(at' R i).2.foldl (Ef S a c v) (at' c (v:Int))
def enD (S:AZ) (R:List RL) (c:bE):Nat:=Bm (λv=>decide (0<=dL S R c v)) S.2.1.2.length
def g_ (S:AZ) (vars:List De) (R:List RL) (c:bE) (t:Nat):bE:=(List.range c.length).map λv=>if t.testBit v=true then lT S vars R c v (dL S R c v)else at' c (v:Int)
structure zP (g:GR) (nv:Nat) (c:bE):Prop where
 len:c.length=g.2.length
 row:∀v:Nat,v<g.2.length->(at' c (v:Int)).length=nv
theorem Du.shape {g:GR} {c:bE} {a:List De} (h:Du g c a):zP g a.length c:=⟨h.len,h.row⟩
section
variable {S:AZ} {nv:Nat} {c:List (List Int)} {v:Nat}
theorem wok (b:S.2.2.2=fI S.2.1) (d:VG S.2.1) (e:zP S.2.1 nv c) (h:v<S.2.1.2.length) (j:List (Int×Int)):WOk (S,c,(v:Int),j) nv S.2.1.2.length v:=by
 refine⟨rfl,h,rfl,d.len,e.len,e.row,λu a i g=> ?_,by show S.2.2.2.length=_;rw[b];simp[fI],λu a=>by
  show(at' S.2.2.2 (u:Int)).length=_;rw[b,fI,lD _ a,List.length_map,List.length_range]⟩
 obtain⟨w,k,f⟩:=d.to a g;show 0<=(fK (row S.2.1 u) i).1∧(fK (row S.2.1 u) i).1<_;rw[f];omega
theorem Qz (i:S.2.2.2=fI S.2.1) (a:VG S.2.1) (j:zP S.2.1 nv c) (f:v<S.2.1.2.length) {e:E} (b:LM nv e=true):gA 1000 S c (v:Int) e.ts=some (fS S c v e):=by
 simp only[LM,Bool.and_eq_true,decide_eq_true_eq]at b;have g:=a.n24;have d:=(a.node v f).deg;unfold gA;have:=ZC (wok i a j f e.ts) (deg:=(row S.2.1 v).length) Z (by omega) b.2 e false 1000 0 (-1) [] [] (by simp) Z b.1.1 (λh=>by cases h) (by omega);rw[bG (show bR 1000 _ (0:Int) (-1)=_ from this)];rfl
end
section
variable {p:sF} {g:GR} {gr:Int} {R:List RL} {nv:Nat} {c:List (List Int)} {v:Nat}
theorem GE (a:p.2.2.map Aa=FB R):p.2.2.length=R.length:=by simpa [FB]using congrArg List.length a
theorem Ud (b:p.2.2.map Aa=FB R) {i:Nat} (a:i<R.length):Aa (at' p.2.2 (i:Int))=((at' R (i:Int)).1.ts,(at' R (i:Int)).2.map λs=>((s.1:Int),s.2.ts)):=by
 have d:=GE b;have:=congrArg (λq=>q[i]?) b;simp only[FB,List.getElem?_map,List.getElem?_eq_getElem a,List.getElem?_eq_getElem (show i<p.2.2.length by omega),Option.map_some,Option.some.injEq]at this;rw[lN a,lN (show i<p.2.2.length by omega)];exact this
theorem Uj (a:xU nv R=true) {i:Nat} (b:i<R.length):LM nv (at' R (i:Int)).1=true∧(at' R (i:Int)).2.length<=20∧∀s∈(at' R (i:Int)).2,s.1<nv∧LM nv s.2=true:=by
 simp only[xU,Bool.and_eq_true,List.all_eq_true,decide_eq_true_eq]at a;have:=a.2 (at' R (i:Int)) (by rw[lN b];exact List.getElem_mem b);exact⟨this.1.1,this.1.2,λs d=>this.2 s d⟩
theorem abP (a:xU nv R=true):R.length<=20:=by
 simp only[xU,Bool.and_eq_true,decide_eq_true_eq]at a;exact a.1
theorem XZ (f:VG g) (h:zP g nv c) (j:v<g.2.length) (b:p.2.2.map Aa=FB R) (d:xU nv R=true) {i:Nat} (a:i<R.length):kK 1000 (p,g,gr,fI g) c (v:Int) (i:Int)=some (nz (fS (p,g,gr,fI g) c v (at' R (i:Int)).1)):=by
 have k:=GE b;have e:(at' p.2.2 (i:Int)).2.1.2=(at' R (i:Int)).1.ts:=congrArg Prod.fst (Ud b a);unfold kK;dsimp only;rw[bZ (by omega),e];rw[bG (show gA 1000 _ c (v:Int) _=_ from Qz (S:=(p,g,gr,fI g)) Z f h j (Uj d a).1)];rfl
theorem Uk (z:VG g) (A:zP g nv c) (C:v<g.2.length) (w:p.2.2.map Aa=FB R) (s:xU nv R=true) (h:List (List (Int×Int))):eJ 1000 (p,(p,g,gr,fI g),h) c (v:Int)=some (dL (p,g,gr,fI g) R c v):=by
 have E:=GE w;have y:=abP s;let l:=R.map λr=>fS (p,g,gr,fI g) c v r.1;have B:l.length=R.length:=by simp[l]
 have o:∀i,i<R.length->at' l (i:Int)=fS (p,g,gr,fI g) c v (at' R (i:Int)).1:=λi t=>by
  rw[lN (by omega),lN t];simp[l]
 have b:∀(k:Nat) a,k<R.length->kE 1000 (p,(p,g,gr,fI g),h) c (v:Int) (k:Int) a=if nz (at' l (k:Int))=true then some (k:Int)else a (((k+1:Nat):Int)):=by
  intro k a d;unfold kE;dsimp only;rw[if_pos (by omega),bG (show kK 1000 _ c (v:Int) (k:Int)=_ from XZ z A C w s d),o k d,fC (by omega)]
 unfold eJ dL;by_cases f:∃i,i<R.length∧at' l (i:Int)≠0
 ·obtain⟨i,t,x⟩:=f;obtain⟨m,D,q,n⟩:=Gy (p:=λi=>at' l (i:Int)≠0) i x;have n:∀j,j<m->at' l (j:Int)=0:=λj u=>Decidable.not_not.1 (n j u);rw[show p_ _=(m:Int)from rR (l:=l) (by omega) q n];exact dU (K:=some (m:Int)) m (λk=>(k:Int)) (λk a d=>by rw[b k a (by omega),if_neg (by simp[nz,n k d])]) (λa=>by rw[b m a (by omega),if_pos (by simpa [nz]using q)]) 1000 (by omega)
 ·have f:∀j,j<l.length->at' l (j:Int)=0:=λj u=>Decidable.not_not.1 λe=>f ⟨j,by omega,e⟩;rw[show p_ _=(-1:Int)from Bh (l:=l) f];exact dU (K:=some (-1)) R.length (λk=>(k:Int)) (λk a d=>by rw[b k a d,if_neg (by simp[nz,f k (by omega)])]) (λa=>by
   unfold kE mZ;dsimp only;rw[if_neg (by omega)]) 1000 (by omega)
theorem Ed (S:AZ) (R:List RL) (c:List (List Int)) (v:Nat):dL S R c v = -1∨∃i:Nat,dL S R c v=(i:Int)∧i<R.length∧fS S c v (at' R (i:Int)).1≠0:=by
 let l:=R.map λr=>fS S c v r.1;by_cases h:∃i,i<l.length∧at' l (i:Int)≠0
 ·obtain⟨i,n,k⟩:=h;obtain⟨m,o,f,a⟩:=Gy (p:=λi=>at' l (i:Int)≠0) i k;have a:∀j,j<m->at' l (j:Int)=0:=λj b=>Decidable.not_not.1 (a j b);have d:m<R.length:=by simp[l]at n;omega
  refine .inr ⟨m,rR (l:=l) (by omega) f a,d,?_⟩;have:at' l (m:Int)=fS S c v (at' R (m:Int)).1:=by rw[lN (by simpa [l]using d),lN d];simp[l]
  rw[<-this];exact f
 ·exact .inl (Bh (l:=l) λj b=>Decidable.not_not.1 λe=>h ⟨j,b,e⟩)
theorem Kz {S:AZ} {R:List RL} {c:List (List Int)} {v:Nat}:dL S R c v = -1↔∀i:Nat,i<R.length->fS S c v (at' R (i:Int)).1=0:=by
 let l:=R.map λr=>fS S c v r.1;have a:∀i,i<R.length->at' l (i:Int)=fS S c v (at' R (i:Int)).1:=λi b=>by rw[lN (by simpa [l]using b),lN b];simp[l]
 constructor
 ·intro h i b;refine Decidable.not_not.1 λe=> ?_;obtain⟨m,n,k,f⟩:=Gy (p:=λi=>at' l (i:Int)≠0) i (by rw[a i b];exact e);have f:∀j,j<m->at' l (j:Int)=0:=λj d=>Decidable.not_not.1 (f j d);have:dL S R c v=(m:Int):=rR (l:=l) (by simp[l];omega) k f;omega
 ·intro h;exact Bh (l:=l) λj d=>by rw[a j (by simpa [l]using d)];exact h j (by simpa [l]using d)
theorem RA (hV:VG g) (hc:zP g nv c) (hz:p.2.2.map Aa=FB R) (hR:xU nv R=true) {tab:List (List (Int×Int))} (ht:tab.length=g.2.length):d_ 1000 (p,(p,g,gr,fI g),tab) c=some ((enD (p,g,gr,fI g) R c:Nat):Int):=by
 have h24:=hV.n24;unfold d_ Af;let q:Nat->Bool:=λv=>decide (0<=dL (p,g,gr,fI g) R c v);have:=dU (step:=qV (tab.length:Int) (λy0=>kA 1000 y0 (p,(p,g,gr,fI g),tab) c)) (K:=some ((Bm q g.2.length:Nat):Int)) g.2.length (λk=>(((Bm q k:Nat):Int),(k:Int))) (λk ag hk=>by
  have hm:=TT q (k:=k) (by omega);unfold qV tT kA;dsimp only;rw[if_pos (by omega),bG (show Option.bind (eJ 1000 _ c (k:Int)) _=some (q k) by rw[bG (show eJ 1000 _ c (k:Int)=_ from Uk hV hc hk hz hR tab)]),fC (by omega)];cases hq:q k with
  |true=>
   rw[if_pos Z,bZ (by omega),Rj hm (by omega)];simp only[Bm,hq,if_true]
  |false=>
   rw[if_neg (by decide)];simp only[Bm,hq];rfl) (λag=>by
  unfold qV yG;dsimp only;rw[if_neg (by omega)]) 1000 (by omega)
 rw[bG (show bL _ 1000 ((0:Int),(0:Int))=_ from this)];rfl
end
theorem Xh (f:Nat) (k:Int) (b:fF) (x:Int):wN f k b x=some (mG k b x):=by
 unfold wN uB mG;by_cases a:b.1<=x
 ·by_cases c:x<=b.2
  ·simp only[a,c,and_self,if_true,decide_true]
  ·simp only[a,c,and_false,if_true,if_false,decide_false,Bool.false_eq_true];split
   ·rfl
   ·split<;>rfl
 ·simp only[a,false_and,if_false,Bool.false_eq_true];split
  ·rfl
  ·split<;>rfl
theorem P_ {S:AZ} {a:List De} {c:bE} {v:Nat} (l:List (Nat×E)) (b:aO):(l.foldl (Ef S a c v) b).length=b.length:=by
 induction l generalizing b with
 |nil=>rfl
 |cons s l d=>rw[List.foldl_cons,d];simp[Ef]
theorem Vz {S:AZ} {a:List De} {R:List RL} {c:bE} {v:Nat} {i:Int}:(lT S a R c v i).length=(at' c (v:Int)).length:=P_ _ _
section
variable {p:sF} {g:GR} {gr:Int} {R:List RL} {c:List (List Int)} {v:Nat}
theorem abA (A:VG g) (J:tB g p.2.1) (o:zP g p.2.1.length c) (x:v<g.2.length) (E:p.2.2.map Aa=FB R) (H:xU p.2.1.length R=true) {i:Nat} (B:i<R.length):
  lC 1000 (p,(p,g,gr,fI g),CZ g p.2.1) c (v:Int) (i:Int)=some (lT (p,g,gr,fI g) p.2.1 R c v (i:Int)):=by
 have G:=A.n24;have I:=o.len;have l:=o.row v x;have N:=J.len;have O:=GE E;have r:=Ud E B;obtain⟨-,m,d⟩:=Uj H B;have D:(CZ g p.2.1).length=g.2.length:=by simp[CZ]
 have w:at' (CZ g p.2.1) (v:Int)=ES g p.2.1 v:=lD _ x;have L:(ES g p.2.1 v).length=p.2.1.length:=by simp[ES]
 have y:(at' p.2.2 (i:Int)).2.2.2.map (λs=>(s.1,s.2.2))=(at' R (i:Int)).2.map λs=>((s.1:Int),s.2.ts):=congrArg Prod.snd r;have n:(at' p.2.2 (i:Int)).2.2.2.length=(at' R (i:Int)).2.length:=by simpa using congrArg List.length y
 unfold lC;dsimp only;rw[bZ (by omega),bZ (by simp;omega),bZ (by omega),List.nil_append];unfold lT;let a:=(at' R (i:Int)).2;have:=dU (step:=kD 1000 (p,(p,g,gr,fI g),CZ g p.2.1) c (v:Int) (i:Int)) (K:=some (a.foldl (Ef (p,g,gr,fI g) p.2.1 c v) (at' c (v:Int)))) a.length (λk=>((k:Int),(a.take k).foldl (Ef (p,g,gr,fI g) p.2.1 c v) (at' c (v:Int)))) (λk F e=>by
  have j:k<(at' p.2.2 (i:Int)).2.2.2.length:=by rw[n];exact e
  have z:((at' (at' p.2.2 (i:Int)).2.2.2 (k:Int)).1,(at' (at' p.2.2 (i:Int)).2.2.2 (k:Int)).2.2)=(((at' a (k:Int)).1:Int),(at' a (k:Int)).2.ts):=by
   have:=congrArg (λq=>q[k]?) y;simp only[List.getElem?_map,List.getElem?_eq_getElem j,List.getElem?_eq_getElem (show k<(at' R (i:Int)).2.length from e),Option.map_some,Option.some.injEq]at this;rw[lN j,lN e];exact this
  have f:=congrArg Prod.fst z;have h:=congrArg Prod.snd z;dsimp only at f h;obtain⟨t,u⟩:=d (at' a (k:Int)) (by rw[lN e];exact List.getElem_mem e);have C:((a.take k).foldl (Ef (p,g,gr,fI g) p.2.1 c v) (at' c (v:Int))).length=p.2.1.length:=by rw[P_,l]
  have b:at' (ES g p.2.1 v) ((at' a (k:Int)).1:Int)=pH g p.2.1 v (at' a (k:Int)).1:=lD _ t;have M:a.length<=20:=m;unfold kD;dsimp only;rw[if_pos (by omega),bZ (by omega),f,h,bG (show gA 1000 _ c (v:Int) _=_ from Qz (S:=(p,g,gr,fI g)) Z A o x u),bZ (by omega),bZ (by omega),w,bZ (by omega),b,bG (Xh 1000 _ _ _),bZ (by omega),fC (by omega),Int.toNat_natCast,EN e,List.foldl_append];rfl) (λF=>by
  unfold kD mY;dsimp only;rw[if_neg (by show¬(a.length:Int)<_;rw[n];exact Int.lt_irrefl _),List.take_length]) 1000 (by show(at' R (i:Int)).2.length<1000;omega)
 exact this
theorem abV (m:VG g) (s:tB g p.2.1) (l:zP g p.2.1.length c) (u:p.2.2.map Aa=FB R) (o:xU p.2.1.length R=true) {t:Nat} (b:t<4294967296) (B:∀v,t.testBit v=true->0<=dL (p,g,gr,fI g) R c v):
  jD 1000 (p,(p,g,gr,fI g),CZ g p.2.1) c (t:Int)=some (g_ (p,g,gr,fI g) p.2.1 R c t):=by
 have x:=m.n24;have z:=l.len;have C:=s.len;unfold jD;rw[bG (Tz c (by omega) (λv D=>by rw[l.row v (by omega)];omega))];let f:Nat->List Int:=λv=>if t.testBit v=true then lT (p,g,gr,fI g) p.2.1 R c v (dL (p,g,gr,fI g) R c v)else at' c (v:Int);let Q:Nat->List (List Int):=λk=>(List.range k).map f++c.drop k;have y:∀k,k<=c.length->(Q k).length=c.length:=λk a=>by simp[Q];omega
 have j:∀k,k<c.length->(Q k).set k (f k)=Q (k+1):=λk a=>by
  show((List.range k).map f++c.drop k).set k (f k)=(List.range (k+1)).map f++c.drop (k+1);rw[List.set_append_right _ _ (by simp),List.length_map,List.length_range,Nat.sub_self,List.drop_eq_getElem_cons a,List.set_cons_zero,List.range_succ,List.map_append,List.map_singleton,List.append_assoc];rfl
 have d:∀k,k<c.length->f k=at' c (k:Int)->Q k=Q (k+1):=λk a A=>by
  show(List.range k).map f++c.drop k=(List.range (k+1)).map f++c.drop (k+1);rw[List.range_succ,List.drop_eq_getElem_cons a,List.map_append,List.map_singleton,A,lN a];simp
 rw[show c=Q 0 by simp[Q]];refine dU (step:=iL 1000 (p,(p,g,gr,fI g),CZ g p.2.1) (Q 0) (t:Int)) (K:=some (g_ (p,g,gr,fI g) p.2.1 R (Q 0) t)) c.length (λk=>((k:Int),Q k)) (λk w a=> ?_) (λw=> ?_) 1000 (by omega)
 ·rw[show Q 0=c by simp[Q]];unfold iL kF;dsimp only;rw[if_pos (by omega),bZ (by omega),fC (by omega)];by_cases h:t.testBit k=true
  ·obtain⟨i,r,n,_⟩:=(Ed (p,g,gr,fI g) R c k).resolve_left (λe=>by have:=B k h;omega);rw[if_pos ((X_ (by omega) b).2 h),bG (show eJ 1000 _ c (k:Int)=_ from Uk m l (by omega) u o _),r,bG (show lC 1000 _ c (k:Int) (i:Int)=_ from abA m s l (by omega) u o n),bZ (by rw[y k (by omega)];omega),Int.toNat_natCast];have:lT (p,g,gr,fI g) p.2.1 R c k (i:Int)=f k:=by simp only[f];rw[if_pos h,r]
   rw[this,j k a]
  ·rw[if_neg (λq=>h ((X_ (by omega) b).1 q)),d k a (by simp only[f];rw[if_neg h])]
 ·rw[show Q 0=c by simp[Q]];unfold iL m_;dsimp only;rw[if_neg (by omega)];simp[Q,g_,f]
theorem Mh {S:AZ} {a:List De} {t:Nat}:(g_ S a R c t).length=c.length:=by simp[g_]
theorem yV {S:AZ} {vars:List De} {t:Nat} (a:v<c.length):at' (g_ S vars R c t) (v:Int)=if t.testBit v=true then lT S vars R c v (dL S R c v)else at' c (v:Int):=lD _ a
theorem zP.step {S:AZ} {a:List De} {t:Nat} {e:Nat} {g:GR} (b:zP g e c):zP g e (g_ S a R c t):=⟨by rw[Mh,b.len],λv d=>by
 rw[yV (by rw[b.len];exact d)];split
 ·rw[Vz,b.row v d]
 ·exact b.row v d⟩
end
end Go.Proofs.YtlkhndebimcbbaaGreatDoor
namespace Go.Proofs.YtlkhndebimcbbaaGreatDoor
open Go.Sx
def lR  (a:Unit):Option (Bool):=
 some (true)
def iG (c:aO) (a:Int) (b:(Int)->Option (Bool)):Option (Bool):=
 if a<(List.length c:Int)then(ck (0<=a∧a<(List.length c:Int)) (if(t_ .u32 (at' c a) (16777215:Int))≠(0:Int)then(some (false))else(b (wI .i64 (a+(1:Int))))))else(lR  (()))
def gV (U:Nat) (a:aO):Option (Bool):=
 bL (iG a) U (0:Int)
theorem Tn:aU Tryz.prog 149:=Tryz.call149
theorem AT (U:Nat) {d:aO} (e:Value) (r:Bool) (h:gV U d=some r):
  aY Tryz.prog 149 #[e] [Sl yZ e d] (λx:Unit=>vB (r)) (λx l=>l) (λ_ l=>l):=by
 refine aY.of Tryz.func149 Z Tryz.ntmps149 Z λc=>?_;unfold gV at h;refine aW<|aE Z<|aM<|aK<|eS (λa=>lR  a=some r) (λa f=>[]) (λa f=>[]) ?_ ?_
 ·refine aW<|aA Z<|kT (aF.fact 0 Z) Z<|aA Z<|aM<|aT<|eV (iG d) (λb g=>[(5,e),(6,vI (List.length d:Int)),(7,vI (b))]) (λb g=>[]) (0:Int) () h SF (aZ.refl _) ?_;intro j b g h;refine aW<|cY Z<|aM<|aK ?_;refine fJ h Z (λh=>?_) λh=>?_
  ·refine cU<|aK<|aT<|aW<|dB h λi h=>aB (bB Z Z (aF.fact 0 Z) Z Z i) Z<|aB (bS Z (aF.fact 0 Z) Z Z Z Hp i) Z<|aE Z<|aM<|aW<|aA Z<|aB (Jy Z Z) Z<|qO Z<|aM ?_;refine fJ h Z (λh=>?_) λh=>?_
   ·refine aW<|aE Z<|aM<|aV<|bP<|aI<|aI<|bP<|aI ?_;cases h;exact lP Z
   refine dO<|oD<|aS<|cL Z<|aA Z<|aM ?_;exact Al (wI .i64 (b+(1:Int))) () h SF Z
  refine fV ?_;exact jG () (()) h SF Z
 intro a f h;unfold lR at h;refine aW<|aE Z<|aM<|aV ?_;cases h;exact lP Z
def kM  (a:Bool):Option (Bool):=
 some (a)
def iA (U:Nat) (a:Ir) (c:Bool):Option (Bool):=
 if c=true then(some (false))else(if(wI .i64 (a.2.2.1+(1:Int)))<a.2.2.2.1 then(some (false))else(if a.1<=a.2.1 then(if a.2.1<=(wI .i64 ((24:Int)*a.1))then(Option.bind (gV U ([a.2.2.2.2])) λb=>(kM  (b)))else(kM  (false)))else(kM  (false))))
def jU (U:Nat) (a:Ir):Option (Bool):=
 if a.1<(0:Int)then(iA U a (true))else(if(4096:Int)<a.1 then(iA U a (true))else(if a.2.2.1<(0:Int)then(iA U a (true))else(if a.2.2.2.1<a.2.2.1 then(iA U a (true))else(iA U a (decide (a.1<a.2.2.2.1))))))
theorem aaB:aU Tryz.prog 148:=Tryz.call148
theorem Iz (U:Nat) {a:Ir} (r:Bool) (h:jU U a=some r):
  aY Tryz.prog 148 #[Value.agg #[vI (a.1),vI (a.2.1),vI (a.2.2.1),vI (a.2.2.2.1),vU (a.2.2.2.2)]] [] (λx:Unit=>vB (r)) (λx l=>l) (λ_ l=>l):=by
 refine aY.of Tryz.func148 Z Tryz.ntmps148 Z λc=>?_;refine aW<|aH (aN.box (cs:=[vI (a.1),vI (a.2.1),vI (a.2.2.1),vI (a.2.2.2.1),vU (a.2.2.2.2)]) Z Z) Z λj=>aE Z<|aM<|aK<|aK<|eS (λb=>iA U a b=some r) (λb k=>[(1,vP j),(29,vB (b))]) (λb k=>[bY j [vI (a.1),vI (a.2.1),vI (a.2.2.1),vI (a.2.2.2.1),vU (a.2.2.2.2)] 47]) ?_ ?_
 ·refine aS<|bW Z<|dN 0 Z<|cY Z<|aA Z ?_;refine FG h Z (λ_ h=>?_) λ_ h=>?_
  ·refine aP Z<|aP Z<|aP Z<|fM Z<|aA Z<|aP Z<|aP Z<|aP Z<|fM Z<|aA Z<|aP Z<|aP Z<|aP Z<|aP Z<|aP Z<|fM Z<|aA Z<|aP Z<|aP Z<|aP Z<|aP Z<|aP Z<|fM Z<|aM ?_;exact jG (true) () h SF Z
  refine aX Z (eN Z Z Z Z Z) Z<|aX Z (gE 0 Z Z Z Z Z) Z<|aX Z (yP Z Z) Z<|iI Z<|aA Z ?_;refine FG h Z (λ_ h=>?_) λ_ h=>?_
  ·refine aP Z<|aP Z<|aP Z<|fM Z<|aA Z<|aP Z<|aP Z<|aP Z<|aP Z<|aP Z<|fM Z<|aA Z<|aP Z<|aP Z<|aP Z<|aP Z<|aP Z<|fM Z<|aM ?_;exact jG (true) () h SF Z
  refine aX Z (eN Z Z Z Z Z) Z<|aX Z (gE 0 Z Z Z Z Z) Z<|aX Z (Lv Z Z) Z<|iI Z<|aA Z ?_;refine FG h Z (λ_ h=>?_) λ_ h=>?_
  ·refine aP Z<|aP Z<|aP Z<|aP Z<|aP Z<|fM Z<|aA Z<|aP Z<|aP Z<|aP Z<|aP Z<|aP Z<|fM Z<|aM ?_;exact jG (true) () h SF Z
  refine aX Z (eN Z Z Z Z Z) Z<|aX Z (gE 0 Z Z Z Z Z) Z<|aX Z (eN Z Z Z Z Z) Z<|aX Z (gE 0 Z Z Z Z Z) Z<|aX Z (yP Z Z) Z<|iI Z<|aA Z ?_;refine FG h Z (λ_ h=>?_) λ_ h=>?_
  ·refine aP Z<|aP Z<|aP Z<|aP Z<|aP Z<|fM Z<|aM ?_;exact jG (true) () h SF Z
  refine aX Z (eN Z Z Z Z Z) Z<|aX Z (gE 0 Z Z Z Z Z) Z<|aX Z (eN Z Z Z Z Z) Z<|aX Z (gE 0 Z Z Z Z Z) Z<|aX Z (yP Z Z) Z<|iI Z<|aM ?_;exact jG (decide (a.1<a.2.2.2.1)) () h SF Z
 intro b k h;refine BM h Z (λ_ h=>?_) λ_ h=>?_
 ·refine aW<|aE Z<|aM<|aV<|aI ?_;cases h;exact vN Z
 refine cU<|aK<|aW<|bW Z<|dN 0 Z<|bW Z<|dN 0 Z<|cL Z<|aB (yP Z Z) Z<|aM ?_;refine fJ h Z (λh=>?_) λh=>?_
 ·refine aW<|aE Z<|aM<|aV<|aI ?_;cases h;exact vN Z
 refine cU<|aK<|eS (λd=>kM  d=some r) (λd m=>[(2,vB (d))]) (λd m=>[]) ?_ ?_
 ·refine aS<|bW Z<|dN 0 Z<|bW Z<|dN 0 Z<|aB (Df Z Z) Z<|aA Z ?_;refine FG h Z (λ_ h=>?_) λ_ h=>?_
  ·refine aX Z (eN Z Z Z Z Z) Z<|aX Z (gE 0 Z Z Z Z Z) Z<|aX Z (eN Z Z Z Z Z) Z<|aX Z (gE 0 Z Z Z Z Z) Z<|aX Z (By Z Z) Z<|aX Z (Df Z Z) Z<|fM Z<|aA Z ?_;refine FG h Z (λ_ h=>?_) λ_ h=>?_
   ·refine aX Z (eN Z Z Z Z Z) Z<|aX Z (gE 0 Z Z Z Z Z) Z<|q_ Z (cA (e:=oZ) ([a.2.2.2.2]) [(0,vU (a.2.2.2.2))] Z Z Z Z (nT (vU (a.2.2.2.2)) Z) Z Z Z) Z λg=>fU h λf i h=>q_ Z (aN.callQ Tn (AT U g f i) Z (aG.cons (bF (aF.res 0 Z) uV) .nil)) Z λn=>fM Z<|aE Z<|aM ?_;exact cK (f) () h SF .nil (aG.refl _ _)
   refine aP Z<|aP Z<|aP Z<|aP Z<|iI Z<|aE Z<|aM ?_;exact cK (false) () h SF .nil (aG.refl _ _)
  refine aP Z<|aP Z<|aP Z<|aP Z<|aP Z<|aP Z<|iI Z<|aA Z<|aP Z<|aP Z<|aP Z<|aP Z<|iI Z<|aE Z<|aM ?_;exact cK (false) () h SF .nil (aG.refl _ _)
 intro d m h;unfold kM at h;refine aV ?_;cases h;exact lP Z
def kQ (U:Nat) (a:Int):Option (Int):=
 ck (0<=(24:Int)) (ck (0<=(rO .u32 a (24:Int))∧(rO .u32 a (24:Int))<(List.length IR:Int)) (ck (0<=(16:Int)) (ck (0<=(dM .u32 (rO .u32 a (16:Int)) (255:Int))∧(dM .u32 (rO .u32 a (16:Int)) (255:Int))<(List.length IR:Int)) (ck (0<=(8:Int)) (ck (0<=(dM .u32 (rO .u32 a (8:Int)) (255:Int))∧(dM .u32 (rO .u32 a (8:Int)) (255:Int))<(List.length IR:Int)) (ck (0<=(dM .u32 a (255:Int))∧(dM .u32 a (255:Int))<(List.length IR:Int)) (some (wI .i64 (wI .u8 ((wI .u8 ((wI .u8 ((at' IR (rO .u32 a (24:Int)))+(at' IR (dM .u32 (rO .u32 a (16:Int)) (255:Int)))))+(at' IR (dM .u32 (rO .u32 a (8:Int)) (255:Int)))))+(at' IR (dM .u32 a (255:Int)))))))))))))
theorem aaC:aU Tryz.prog 150:=Tryz.call150
theorem FQ (U:Nat) {a:Int} (r:Int) (h:kQ U a=some r):
  aY Tryz.prog 150 #[vU (a)] [] (λx:Unit=>vI (r)) (λx l=>l) (λ_ l=>l):=by
 refine aY.of Tryz.func150 Z Tryz.ntmps150 Z λc=>?_;refine aW<|aE Z<|aM<|aK ?_;refine JR.start [0,1,3,0,8,24,56,127,0,256,768,1792,4095,0,8192,24576,65535,131071,262143] 16 mixedOrders (by decide +kernel) ?_;refine JR.open (by exact rfl) ?_;refine bH Z<|dB h λb h=>iX Z (Lw Z Z b)<|dB h λd h=>iX Z (Cn Z Z Z M_ d)<|bH Z<|dB h λe h=>iX Z (Lw Z Z e)<|iX Z (Ta Z Z)<|dB h λf h=>iX Z (Cn Z Z Z M_ f)<|iX Z (y_ Z Z)<|bH Z<|dB h λg h=>iX Z (Lw Z Z g)<|iX Z (Ta Z Z)<|dB h λi h=>iX Z (Cn Z Z Z M_ i)<|iX Z (y_ Z Z)<|bH Z<|iX Z (Ta Z Z)<|dB h λj h=>iX Z (Cn Z Z Z M_ j)<|bQ 16 Z Z<|cL Z<|aB (Rb Z Z Z) Z<|aE Z<|aM<|aV ?_;cases h;exact lP Z
def pE (b:Ir) (c:Int) (a:fF):Option ((Int×Int×Int×Int×Int)×Int):=
 some ((((wI .i64 (b.1+(1:Int))),(wI .i64 (b.2.1+c)),a.1,(wI .i64 (b.2.2.1+(1:Int))),a.2)),(0:Int))
def pD (U:Nat) (a:Ir) (c:Int) (d:Int) (e:Bool):Option ((Int×Int×Int×Int×Int)×Int):=
 if e=true then(some ((((0:Int),(0:Int),(0:Int),(0:Int),(0:Int))),(11:Int)))else(if a.1=(4096:Int)then(some ((((0:Int),(0:Int),(0:Int),(0:Int),(0:Int))),(3:Int)))else(Option.bind (kQ U c) λb=>(if(dM .u32 (t_ .u32 a.2.2.2.2 c) d)=(0:Int)then(pE a b ((wI .i64 (a.2.2.1+(1:Int))),d))else(pE a b (a.2.2.1,(dM .u32 (t_ .u32 a.2.2.2.2 c) d))))))
def fX (U:Nat) (a:Ir) (b:Int) (c:Int):Option ((Int×Int×Int×Int×Int)×Int):=
 Option.bind (jU U ((a.1,a.2.1,a.2.2.1,a.2.2.2.1,a.2.2.2.2))) λe=>(if(!e)=true then(some ((((0:Int),(0:Int),(0:Int),(0:Int),(0:Int))),(7:Int)))else(if b=(0:Int)then(pD U a b c (true))else(Option.bind (gV U ([b,c])) λd=>(pD U a b c ((!d))))))
theorem aao:aU Tryz.prog 112:=Tryz.call112
theorem Lh (U:Nat) {a:Ir} {g:Int} {d:Int} (r:(Int×Int×Int×Int×Int)×Int) (h:fX U a g d=some r):
  aY Tryz.prog 112 #[Value.agg #[vI (a.1),vI (a.2.1),vI (a.2.2.1),vI (a.2.2.2.1),vU (a.2.2.2.2)],vU (g),vU (d)] [] (λx:Unit=>Value.tuple #[Value.agg #[vI (r.1.1),vI (r.1.2.1),vI (r.1.2.2.1),vI (r.1.2.2.2.1),vU (r.1.2.2.2.2)],vI (r.2)]) (λx l=>l) (λ_ l=>l):=by
 refine aY.of Tryz.func112 Z Tryz.ntmps112 Z λc=>?_;refine aW<|aH (aN.box (cs:=[vI (a.1),vI (a.2.1),vI (a.2.2.1),vI (a.2.2.2.1),vU (a.2.2.2.2)]) Z Z) Z λm=>aH (aN.alloc (cs:=vD2) Z Z) Z λn=>aE Z<|aM<|aK<|aW<|eQ 1 Z<|fU h λu v h=>aH (aN.callQ aaB (Iz U  u v) Z .nil) Z λz=>aB (tK Z) Z<|aM ?_;refine BM h Z (λ_ h=>?_) λ_ h=>?_
 ·refine aW ?_;refine aB (MM (r:=Value.agg #[vI (0:Int),vI (0:Int),vI (0:Int),vI (0:Int),vU (0:Int)]) (by intro w;simp[Instr.build,Instr.fill,eX,dY,dH,eY,eZ,dZ,gK])) Z ?_;refine bT 0 (vs:=vD2) Z Z Z Z Z Z<|aE Z<|aM<|aV<|aI ?_;cases h;exact lK () Z Z (RV.cell 0 Z Z Z Z) (RV.tmp Z) .nil aG.nil
 refine cU<|aK<|aK<|eS (λi=>pD U a g d i=some r) (λi t=>[(1,vU (g)),(2,vU (d)),(3,vP m),(6,vP n),(20,vB (i))]) (λi t=>[bY n vD2 47,bY m [vI (a.1),vI (a.2.1),vI (a.2.2.1),vI (a.2.2.2.1),vU (a.2.2.2.2)] 47]) ?_ ?_
 ·refine aS<|aA Z<|cT Z<|aA Z ?_;refine FG h Z (λ_ h=>?_) λ_ h=>?_
  ·refine aP Z<|aP Z<|aP Z<|aP Z<|aP Z<|fM Z<|aM ?_;exact jG (true) () h SF Z
  refine eR Z<|eR Z<|q_ Z (cA (e:=oZ) ([g,d]) [(0,vU (g)),(1,vU (d))] Z Z Z Z (JW (vU (g)) (vU (d)) Z Z) Z Z Z) Z λo=>fU h λk q h=>q_ Z (aN.callQ Tn (AT U o k q) Z (aG.cons (bF (aF.res 0 Z) uV) .nil)) Z λy=>aX Z (tK Z) Z<|iI Z<|aM ?_;exact cK ((!k)) () h SF (aZ.ix [1,2] Z Z) (aG.refl _ _)
 intro i t h;refine BM h Z (λ_ h=>?_) λ_ h=>?_
 ·refine aW ?_;refine aB (MM (r:=Value.agg #[vI (0:Int),vI (0:Int),vI (0:Int),vI (0:Int),vU (0:Int)]) (by intro w;simp[Instr.build,Instr.fill,eX,dY,dH,eY,eZ,dZ,gK])) Z ?_;refine bT 0 (vs:=vD2) Z Z Z Z Z Z<|aE Z<|aM<|aV<|aI ?_;cases h;exact lK () Z Z (RV.cell 0 Z Z Z Z) (RV.tmp Z) .nil aG.nil
 refine cU<|aK<|aW<|bW Z<|dN 1 Z<|cT Z<|aM ?_;refine fJ h Z (λh=>?_) λh=>?_
 ·refine aW ?_;refine aB (MM (r:=Value.agg #[vI (0:Int),vI (0:Int),vI (0:Int),vI (0:Int),vU (0:Int)]) (by intro w;simp[Instr.build,Instr.fill,eX,dY,dH,eY,eZ,dZ,gK])) Z ?_;refine bT 0 (vs:=vD2) Z Z Z Z Z Z<|aE Z<|aM<|aV<|aI ?_;cases h;exact lK () Z Z (RV.cell 0 Z Z Z Z) (RV.tmp Z) .nil aG.nil
 refine cU<|aW<|bW Z<|dN 1 Z<|cL Z<|bW Z<|iB 1 Z Z Z Z Z Z<|aM<|aK ?_;refine JR.start [0,1,0,4,15,31,63] 4 mixedOrders (by decide +kernel) ?_;refine JR.open (by exact rfl) ?_;refine dD Z<|jO 1 Z<|bH Z<|fU h λf p h=>JR.loud Z Z Z (aN.callQ aaC (FQ U  f p) Z .nil) Z (λs=>(vY [([1],[])] Z)) λs=>bQ 4 Z Z<|cL Z<|bW Z<|iB 1 Z Z Z Z Z Z<|aM<|aW<|bW Z<|dN 1 Z<|cL Z<|bW Z<|iB 1 Z Z Z Z Z Z<|aM<|aW<|bW Z<|dN 1 Z<|aA Z<|aB (Jy Z Z) Z<|aA Z<|zQ Z<|bW Z<|iB 1 Z Z Z Z Z Z<|aM<|aK<|eS (λb=>pE a f b=some r) (λb j=>[(3,vP m),(6,vP n)]) (λb j=>[bY n vD2 47,bY m [vI (wI .i64 (a.1+(1:Int))),vI (wI .i64 (a.2.1+f)),vI (b.1),vI (wI .i64 (a.2.2.1+(1:Int))),vU (b.2)] 47]) ?_ ?_
 ·refine aW<|bW Z<|dN 1 Z<|cT Z<|aM ?_;refine fJ h Z (λh=>?_) λh=>?_
  ·refine aW<|bW Z<|dN 1 Z<|bW Z<|iB 1 Z Z Z Z Z Z<|aM<|aS<|aA Z<|bW Z<|iB 1 Z Z Z Z Z Z<|aM ?_;exact jG ((wI .i64 (a.2.2.1+(1:Int))),d) () h SF Z
  refine cU ?_;exact jG (a.2.2.1,(dM .u32 (t_ .u32 a.2.2.2.2 g) d)) () h SF Z
 intro b j h;unfold pE at h;refine aW<|eQ 1 Z<|bT 0 (vs:=[vI (wI .i64 (a.1+(1:Int))),vI (wI .i64 (a.2.1+f)),vI (b.1),vI (wI .i64 (a.2.2.1+(1:Int))),vU (b.2)]) Z Z Z Z Z Z<|aE Z<|aM<|aV ?_;cases h;exact lK () Z Z (RV.cell 0 Z Z Z Z) (RV.tmp Z) .nil aG.nil
end Go.Proofs.YtlkhndebimcbbaaGreatDoor
namespace Go.Proofs.YtlkhndebimcbbaaGreatDoor
open Go Go.Sx
abbrev CT:=Ir
theorem Ff (l:aO) (h:l.length<=900):∃b,gV 1000 l=some b:=by
 unfold gV;have:=wG (step:=iG l) (Q:=λ_:Bool=>True) (λi:Int=>∃k:Nat,i=(k:Int)∧k<=l.length) (λi=>l.length - i.toNat) (λi f c a=>by
  obtain⟨k,rfl,g⟩:=c;unfold iG lR;by_cases e:k<l.length
  ·rw[if_pos (by omega),bZ (by omega)];split
   ·exact⟨_,rfl,trivial⟩
   ·rw[fC (by omega)];exact a _ ⟨k+1,rfl,by omega⟩ (by omega)
  ·rw[if_neg (by omega)];exact⟨_,rfl,trivial⟩) 1000 0 ⟨0,rfl,by omega⟩ (by omega)
 obtain⟨b,d,_⟩:=this;exact⟨b,d⟩
theorem MQ (k:CT):∃b,jU 1000 k=some b:=by
 obtain⟨q,d⟩:=Ff [k.2.2.2.2] (by simp);have c:∀a,∃b,iA 1000 k a=some b:=by
  intro a;unfold iA kM;split
  ·exact⟨_,rfl⟩
  ·split
   ·exact⟨_,rfl⟩
   ·split
    ·split
     ·rw[bG d];exact⟨_,rfl⟩
     ·exact⟨_,rfl⟩
    ·exact⟨_,rfl⟩
 unfold jU
 repeat' split
 all_goals exact c _
theorem VD {t:Nat} (i:t<4294967296):∃n,kQ 1000 (t:Int)=some n:=by
 have g:(List.length IR:Int)=256:=by decide +kernel
 have b:∀a:Nat,a<4294967296->0<=dM .u32 (a:Int) 255∧dM .u32 (a:Int) 255<256:=λa f=>by
  rw[show(255:Int)=((255:Nat):Int)from rfl,DI f (by omega)];have:a &&& 255<=255:=Nat.and_le_right;omega
 have c:∀k:Nat,k<32->rO .u32 (t:Int) (k:Int)=((t / 2^k:Nat):Int):=λk h=>MV h;have e:rO .u32 (t:Int) 24=((t / 2^24:Nat):Int):=c 24 (by omega);have d:rO .u32 (t:Int) 16=((t / 2^16:Nat):Int):=c 16 (by omega);have j:rO .u32 (t:Int) 8=((t / 2^8:Nat):Int):=c 8 (by omega);unfold kQ;rw[g,e,d,j,bZ (by decide),bZ (by omega),bZ (by decide),bZ (b _ (by omega)),bZ (by decide),bZ (b _ (by omega)),bZ (b _ i)];exact⟨_,rfl⟩
theorem WL (k:CT) {t:Nat} (h:t<4294967296) (e:Int):∃r,fX 1000 k (t:Int) e=some r:=by
 obtain⟨b,d⟩:=MQ k;obtain⟨q,g⟩:=Ff [(t:Int),e] (by simp);obtain⟨n,f⟩:=VD h;have c:∀a,∃r,pD 1000 k (t:Int) e a=some r:=by
  intro a;unfold pD pE;split
  ·exact⟨_,rfl⟩
  ·split
   ·exact⟨_,rfl⟩
   ·rw[bG f];split<;>exact⟨_,rfl⟩
 unfold fX;rw[bG (show jU 1000 _=some b from d)];split
 ·exact⟨_,rfl⟩
 ·split
  ·exact c _
  ·rw[bG g];exact c _

def aQ (p:sF) (g:GR):AZ:=(p,g,jR g g.2.length,fI g)
def pZ (S:AZ) (R:List RL) (a:Nat) (c:bE):Nat:=enD S R c &&& a
theorem aaY (S:AZ) (R:List RL) (c:bE) (v:Nat):(enD S R c).testBit v=(decide (v<S.2.1.2.length)&&decide (0<=dL S R c v)):=LX _ v _
theorem Nf (S:AZ) (R:List RL) (a:Nat) (c:bE) (v:Nat):(pZ S R a c).testBit v=true↔v<S.2.1.2.length∧0<=dL S R c v∧a.testBit v=true:=by
 unfold pZ;rw[Nat.testBit_and,aaY,Bool.and_eq_true,Bool.and_eq_true,decide_eq_true_eq,decide_eq_true_eq,and_assoc]
theorem adT {S:AZ} (a:VG S.2.1) (R:List RL) (c:bE):enD S R c<4294967296:=TT _ (by have:=a.n24;omega)
theorem JP (S:AZ) (R:List RL) (a:Nat) (c:bE):QI S.2.1 (pZ S R a c):=λi b=>((Nf S R a c i).1 b).1
def abp (a:oC):aO:=a.map λt=>((t:Nat):Int)
end Go.Proofs.YtlkhndebimcbbaaGreatDoor
namespace Go.Proofs.YtlkhndebimcbbaaGreatDoor
open Go.Sx
def uS  (a:aO):Option aO:=
 some (a)
def qR (c:aO×Int) (b:(aO×Int)->Option aO) (a:aO):Option aO:=
 b (a,(wI .i64 (c.2+(1:Int))))
def nQ (b:aO) (d:Int) (a:aO×Int) (c:(aO×Int)->Option aO):Option aO:=
 if a.2<d then(if(List.length b:Int)=(0:Int)then(ck ((List.length a.1:Int)+(List.length ([(4294967295:Int)]):Int)<=1099511627) (qR a c (a.1++([(4294967295:Int)]))))else(ck ((List.length b:Int)≠0) (ck (0<=(Int.tmod a.2 (List.length b:Int))∧(Int.tmod a.2 (List.length b:Int))<(List.length b:Int)) (ck ((List.length b:Int)≠0) (ck ((24:Int)≠0) (ck (0<=(wI .u64 (Int.tmod (wI .i64 (Int.tdiv a.2 (List.length b:Int))) (24:Int)))) (ck (0<=(wI .u64 ((24:Int) - (wI .u64 (Int.tmod (wI .i64 (Int.tdiv a.2 (List.length b:Int))) (24:Int)))))) (ck ((List.length a.1:Int)+(List.length ([(dM .u32 (MU .u32 (Co .u32 (dM .u32 (at' b (Int.tmod a.2 (List.length b:Int))) (16777215:Int)) (wI .u64 (Int.tmod (wI .i64 (Int.tdiv a.2 (List.length b:Int))) (24:Int)))) (rO .u32 (dM .u32 (at' b (Int.tmod a.2 (List.length b:Int))) (16777215:Int)) (wI .u64 ((24:Int) - (wI .u64 (Int.tmod (wI .i64 (Int.tdiv a.2 (List.length b:Int))) (24:Int))))))) (16777215:Int))]):Int)<=1099511627) (qR a c (a.1++([(dM .u32 (MU .u32 (Co .u32 (dM .u32 (at' b (Int.tmod a.2 (List.length b:Int))) (16777215:Int)) (wI .u64 (Int.tmod (wI .i64 (Int.tdiv a.2 (List.length b:Int))) (24:Int)))) (rO .u32 (dM .u32 (at' b (Int.tmod a.2 (List.length b:Int))) (16777215:Int)) (wI .u64 ((24:Int) - (wI .u64 (Int.tmod (wI .i64 (Int.tdiv a.2 (List.length b:Int))) (24:Int))))))) (16777215:Int))])))))))))))else(uS  (a.1))
def pR (U:Nat) (a:aO) (b:Int):Option aO:=
 bL (nQ a b) U (([]:aO),(0:Int))
theorem adc:aU Tryz.prog 11:=Tryz.call11
theorem KP (U:Nat) {a:aO} {i:Int} (n:Value) (r:aO) (h:pR U a i=some r):
  aY Tryz.prog 11 #[n,vI (i)] [Sl yZ n a] (λx:Value=>x) (λx l=>Ar oZ x r::l) (λ_ l=>l):=by
 refine aY.of Tryz.func11 Z Tryz.ntmps11 Z λc=>?_;unfold pR at h;refine aW<|aE Z<|aM<|aW<|aE Z<|aM<|aK<|ER (B:=Value) (λj=>uS  j=some r) (λj k=>[(5,k)]) (λj k=>[Ar oZ k j]) ?_ ?_
 ·refine aW<|aE Z<|aM<|aT<|jL (iK oZ)<|eV (B:=Value) (nQ a i) (λb f=>[(0,n),(1,vI (i)),(5,f),(6,vI (b.2))]) (λb f=>[Ar oZ f b.1]) (([]:aO),(0:Int)) (lH) h SF (aZ.refl _) ?_;intro w b f h;refine aK<|aW<|aA Z<|aA Z<|cY Z<|aM ?_;refine fJ h Z (λh=>?_) λh=>?_
  ·refine cU<|aK<|ER (B:=Value) (λd=>qR b (bL (nQ a i) w) d=some r) (λd g=>[(0,n),(1,vI (i)),(5,g),(6,vI (b.2))]) (λd g=>[Ar oZ g d]) ?_ ?_
   ·refine aT<|aK<|aW<|aA Z<|kT (aF.fact 0 Z) Z<|cT Z<|aM ?_;refine fJ h Z (λh=>?_) λh=>?_
    ·refine aW<|aA Z<|aH (cA (e:=oZ) ([(4294967295:Int)]) [(0,vU (4294967295:Int))] Z Z Z Z (nT (vU (4294967295:Int)) Z) Z Z Z) Z λC=>dB h λo h=>aH (eW 1 uV Z Z Z (bF (aF.res 0 Z) uV) Z Z Z Z o Z) Z λy=>aE Z<|aM<|s_<|fW<|zO<|zU ?_;exact cK (b.1++([(4294967295:Int)])) (y) h SF (aZ.ix [1] Z Z) (aG.refl _ _)
    refine cU<|aK ?_;refine JR.start [0,0,0,4,14,31,63,0,0,256,896,1920,3968,127,16383] 14 mixedOrders (by decide +kernel) ?_;refine JR.open (by exact rfl) ?_;refine bH Z<|bH Z<|bH Z<|bK Z .nil (lE 0 Z) (h_ Z (aF.fact 0 Z) Z) aL.z<|dB h λp h=>iX Z (OF Z Z p)<|dB h λm h=>bK Z .nil (lE 0 Z) (bB Z Z (aF.fact 0 Z) Z Z m) aL.z<|bK Z .nil (lE 0 Z) (bS Z (aF.fact 0 Z) Z Z Z Hp m) aL.z<|bH Z<|bH Z<|bK Z .nil (lE 0 Z) (h_ Z (aF.fact 0 Z) Z) aL.z<|dB h λq h=>iX Z (WJ Z Z q)<|dB h λs h=>iX Z (OF Z Z s)<|iX Z (Rb Z Z Z)<|iX Z (mE Z)<|bQ 14 Z Z<|aE Z<|aM<|aW<|aA Z<|zQ Z<|aE Z<|aM<|aS<|aA Z<|aA Z<|aA Z<|dB h λt h=>aB (OG Z Z t) Z<|aA Z<|aA Z<|aB (qX Z Z) Z<|dB h λu h=>aB (Lw Z Z u) Z<|aB (ZZ Z Z) Z<|zQ Z<|aH (cA (e:=oZ) ([(dM .u32 (MU .u32 (Co .u32 (dM .u32 (at' a (Int.tmod b.2 (List.length a:Int))) (16777215:Int)) (wI .u64 (Int.tmod (wI .i64 (Int.tdiv b.2 (List.length a:Int))) (24:Int)))) (rO .u32 (dM .u32 (at' a (Int.tmod b.2 (List.length a:Int))) (16777215:Int)) (wI .u64 ((24:Int) - (wI .u64 (Int.tmod (wI .i64 (Int.tdiv b.2 (List.length a:Int))) (24:Int))))))) (16777215:Int))]) [(0,vU (dM .u32 (MU .u32 (Co .u32 (dM .u32 (at' a (Int.tmod b.2 (List.length a:Int))) (16777215:Int)) (wI .u64 (Int.tmod (wI .i64 (Int.tdiv b.2 (List.length a:Int))) (24:Int)))) (rO .u32 (dM .u32 (at' a (Int.tmod b.2 (List.length a:Int))) (16777215:Int)) (wI .u64 ((24:Int) - (wI .u64 (Int.tmod (wI .i64 (Int.tdiv b.2 (List.length a:Int))) (24:Int))))))) (16777215:Int)))] Z Z Z Z (nT (vU (dM .u32 (MU .u32 (Co .u32 (dM .u32 (at' a (Int.tmod b.2 (List.length a:Int))) (16777215:Int)) (wI .u64 (Int.tmod (wI .i64 (Int.tdiv b.2 (List.length a:Int))) (24:Int)))) (rO .u32 (dM .u32 (at' a (Int.tmod b.2 (List.length a:Int))) (16777215:Int)) (wI .u64 ((24:Int) - (wI .u64 (Int.tmod (wI .i64 (Int.tdiv b.2 (List.length a:Int))) (24:Int))))))) (16777215:Int))) Z) Z Z Z) Z λD=>dB h λv h=>aH (eW 1 uV Z Z Z (bF (aF.res 0 Z) uV) Z Z Z Z v Z) Z λA=>aE Z<|eM<|oD ?_;exact cK (b.1++([(dM .u32 (MU .u32 (Co .u32 (dM .u32 (at' a (Int.tmod b.2 (List.length a:Int))) (16777215:Int)) (wI .u64 (Int.tmod (wI .i64 (Int.tdiv b.2 (List.length a:Int))) (24:Int)))) (rO .u32 (dM .u32 (at' a (Int.tmod b.2 (List.length a:Int))) (16777215:Int)) (wI .u64 ((24:Int) - (wI .u64 (Int.tmod (wI .i64 (Int.tdiv b.2 (List.length a:Int))) (24:Int))))))) (16777215:Int))])) (A) h SF (aZ.ix [1] Z Z) (aG.refl _ _)
   intro d g h;unfold qR at h;refine aS<|aA Z<|cL Z<|aE Z<|aM ?_;exact Al (d,(wI .i64 (b.2+(1:Int)))) (g) h SF Z
  refine fV ?_;exact jG (b.1) (f) h SF Z
 intro j k h;unfold uS at h;refine aW<|aA Z<|aE Z<|aM<|aV ?_;cases h;exact hZ (k) Z Z (RV.tmp Z) (aZ.refl _) aG.nil
end Go.Proofs.YtlkhndebimcbbaaGreatDoor