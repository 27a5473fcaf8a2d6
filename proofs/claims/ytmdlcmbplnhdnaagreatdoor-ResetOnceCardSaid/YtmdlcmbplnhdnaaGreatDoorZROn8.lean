/- Models and proofs. Conditions: none. -/
import Derived.Test.YtmdlcmbplnhdnaaGreatDoorZROn7
import Derived.Test.YtmdlcmbplnhdnaaGreatDoorZROn2
import Derived.Test.YtmdlcmbplnhdnaaGreatDoorZROn6
import Derived.Test.YtmdlcmbplnhdnaaGreatDoorZROn5
set_option linter.unusedVariables false
set_option linter.unusedSimpArgs false
set_option maxHeartbeats 4000000
set_option maxRecDepth 20000
namespace Go.Proofs.YtmdlcmbplnhdnaaGreatDoor
open Go Go.Sx
theorem PE (x:Int):0<=wI .u64 x:=by
 rw[DF];have:IntKind.u64.wrap x=x%18446744073709551616:=rfl;rw[this];omega
theorem Lt (l:aP) {n:Nat} (y:n<=900):∃ws,k_ 1000 l (n:Int)=some ws∧ws.length=n∧∀k:Nat,k<ws.length->∃m:Nat,at' ws (k:Int)=(m:Int)∧m<4294967296:=by
 unfold k_;obtain⟨⟨ws,i⟩,⟨c,b,d⟩,t⟩:=zT (step:=nK l (n:Int)) (K:=λz=>some z.1) n
  (λk z=>z.2=(k:Int)∧z.1.length=k∧∀j:Nat,j<k->∃m:Nat,at' z.1 (j:Int)=(m:Int)∧m<4294967296) (λk z q v h=>by
  obtain⟨ws,i⟩:=z;obtain⟨c,b,d⟩:=h;dsimp only at c b d;subst c;have a:∀m:Nat,m<4294967296->∀j:Nat,j<k+1->∃p:Nat,at' (ws++[(m:Int)]) (j:Int)=(p:Int)∧p<4294967296:=λm o j u=>by
   rw[MM ws _ (by omega)];by_cases e:j<ws.length
   ·rw[if_pos e];exact d j (by omega)
   ·rw[if_neg e];exact⟨m,rfl,o⟩
  have f:∀m:Nat,(List.length ws:Int)+(List.length [(m:Int)]:Int)<=1099511627:=λm=>by simp;omega
  unfold nK qF;dsimp only;rw[if_pos (by omega),dZ (by omega)];by_cases x:l.length=0
  ·rw[if_pos (by omega),cC (show(List.length ws:Int)+(List.length [(4294967295:Int)]:Int)<=1099511627 from f 4294967295)];exact⟨_,⟨rfl,by simp[b],a 4294967295 (by omega)⟩,rfl⟩
  ·have r:Int.tmod (k:Int) (l.length:Int)=((k%l.length:Nat):Int):=rfl;have w:k%l.length<l.length:=Nat.mod_lt _ (by omega);rw[if_neg (by omega),cC (by omega),cC (by rw[r];omega),cC (by omega),cC (by decide),cC (PE _),cC (PE _)];have s:∀X:Int,∃m:Nat,dK .u32 X (16777215:Int)=(m:Int)∧m<4294967296:=λX=>⟨_,LW _ _,Nat.lt_of_le_of_lt Nat.and_le_left (IM _)⟩
   obtain⟨m,o,g⟩:=s (LX .u32 (BG .u32 (dK .u32 (at' l (Int.tmod (k:Int) (l.length:Int))) (16777215:Int)) (wI .u64 (Int.tmod (wI .i64 (Int.tdiv (k:Int) (l.length:Int))) (24:Int)))) (qW .u32 (dK .u32 (at' l (Int.tmod (k:Int) (l.length:Int))) (16777215:Int)) (wI .u64 ((24:Int) - (wI .u64 (Int.tmod (wI .i64 (Int.tdiv (k:Int) (l.length:Int))) (24:Int)))))));rw[o,cC (f m)];exact⟨_,⟨rfl,by simp[b],a m g⟩,rfl⟩) (λz q h=>by
  obtain⟨ws,i⟩:=z;obtain⟨c,b,d⟩:=h;dsimp only at c;subst c;unfold nK t_;dsimp only;rw[if_neg (by omega)]) 1000 (([]:aP),(0:Int)) ⟨rfl,rfl,λj u=>by omega⟩ (by omega)
 exact⟨ws,t,b,λk v=>d k (by dsimp only at b;omega)⟩
theorem O_ {a:Type} [Inhabited a] (l:List a) {k:Nat} (h:k<l.length):l.set k (at' l (k:Int))=l:=by
 have:=EW l (k:Int) (by simpa using h) (by omega);simpa using this
def DU (c:bI) (v:Nat):Int:=at' (at' c (v:Int)) 0
def yL (g:GR) (c:bI) (v i:Nat):Int:=at' (at' c (fY (row g v) i).1) 0
theorem DZ {g:GR} {c:bI} {v i u:Nat} (h:(fY (row g v) i).1=(u:Int)):yL g c v i=DU c u:=by unfold yL DU;rw[h]
theorem Qo:∀i,i<256->0<=at' Ie ((i:Nat):Int)∧at' Ie ((i:Nat):Int)<=8∧(i≠0->1<=at' Ie ((i:Nat):Int)):=by
 have h:((List.range 256).all λi=>decide (0<=at' Ie ((i:Nat):Int)∧at' Ie ((i:Nat):Int)<=8∧(i≠0->1<=at' Ie ((i:Nat):Int))))=true:=by decide +kernel
 intro i a;exact of_decide_eq_true (List.all_eq_true.1 h i (List.mem_range.2 a))
theorem aat {t:Nat} (I:t<16777216) (F:t≠0):∃n:Nat,kM 1000 (t:Int)=some (n:Int)∧1<=n∧n<=24:=by
 have q:(List.length Ie:Int)=256:=by decide +kernel
 have b:∀a:Nat,a<4294967296->dK .u32 (a:Int) 255=((a%256:Nat):Int):=λa p=>by
  rw[show(255:Int)=((255:Nat):Int)from rfl,CW p (by omega),show(255:Nat)=2^8 - 1 from rfl,Nat.and_two_pow_sub_one_eq_mod]
 have c:∀k:Nat,k<32->qW .u32 (t:Int) (k:Int)=((t / 2^k:Nat):Int):=λk r=>LY r;have e:qW .u32 (t:Int) 24=((t / 2^24:Nat):Int):=c 24 (by omega);have d:qW .u32 (t:Int) 16=((t / 2^16:Nat):Int):=c 16 (by omega);have s:qW .u32 (t:Int) 8=((t / 2^8:Nat):Int):=c 8 (by omega);have g:t / 2^24=0:=Nat.div_eq_of_lt (by omega);unfold kM;rw[q,e,d,s,b _ (by omega),b _ (by omega),b _ (by omega),g,cC (by decide),cC (by omega),cC (by decide),cC (by omega),cC (by decide),cC (by omega),cC (by omega)];obtain⟨v,w,i⟩:=Qo (t / 2^16%256) (by omega);obtain⟨y,z,j⟩:=Qo (t / 2^8%256) (by omega);obtain⟨D,E,l⟩:=Qo (t%256) (by omega);have u:at' Ie ((0:Nat):Int)=0:=rfl;have h:1<=at' Ie ((t / 2^16%256:Nat):Int)+at' Ie ((t / 2^8%256:Nat):Int)+at' Ie ((t%256:Nat):Int):=by
  by_cases m:t / 2^16%256=0
  ·by_cases o:t / 2^8%256=0
   ·have:=l (by omega);omega
   ·have:=j o;omega
  ·have:=i m;omega
 have f:∀x:Int,0<=x->x<=100->wI .u8 x=x:=λx G H=>by
  rw[DF];have:IntKind.u8.wrap x=x%256:=rfl;rw[this];omega
 generalize at' Ie ((t / 2^16%256:Nat):Int)=A at *
 generalize at' Ie ((t / 2^8%256:Nat):Int)=B at *
 generalize at' Ie ((t%256:Nat):Int)=C at *
 rw[u,f (0+A) (by omega) (by omega),f (0+A+B) (by omega) (by omega),f (0+A+B+C) (by omega) (by omega),wr (by omega) (by omega)];exact⟨(0+A+B+C).toNat,by congr 1;omega,by omega,by omega⟩
theorem HA (l:aP) (j:l.length<=900) (h:∀x∈l,∃a:Nat,x=(a:Int)∧a<16777216):gO 1000 l=some true:=by
 unfold gO;refine eO (step:=h_ l) (K:=some true) l.length (λk=>(k:Int)) (λk f d=> ?_) (λf=> ?_) 1000 (by omega)
 ·obtain⟨a,g,b⟩:=h (at' l (k:Int)) (by rw[kV d];exact List.getElem_mem d);unfold h_;rw[if_pos (by omega),cC (by omega),g,dZ (by omega)];have:tH .u32 (a:Int) (16777215:Int)=0:=(Vw _ _).2 λi c=>by
   rw[xB (by omega)]at c;have e:Ns 16777215=2^24 - 1:=xB (a:=16777215) (by omega);rw[e,Nat.testBit_two_pow_sub_one,decide_eq_true_eq];by_cases h:i<24
   ·exact h
   ·have:=Nat.testBit_lt_two_pow (x:=a) (i:=i) (Nat.lt_of_lt_of_le b (Nat.pow_le_pow_right (n:=2) (by omega) (show 24<=i by omega)));rw[this]at c;cases c
  rw[this,if_neg (by simp)]
 ·unfold h_ lL;rw[if_neg (by omega)]
structure Bf (k:Nat) (cnt:CT) (R B pe:Nat):Prop where
 steps:cnt.1=(k:Int)
 moves:(k:Int)<=cnt.2.1∧cnt.2.1<=24*(k:Int)
 rounds:cnt.2.2.1=(R:Int)
 begun:cnt.2.2.2.1=(B:Int)
 pend:cnt.2.2.2.2=(pe:Int)
 le:R<=B∧B<=k∧B<=R+1
 p24:pe<16777216
theorem Bf.valid {k:Nat} {i:CT} {R B j:Nat} (h:Bf k i R B j) (n:k<=1000):jQ 1000 i=some true:=by
 obtain⟨a,b,c,d,e,f,g⟩:=h;have m:=HA [(j:Int)] (by simp) λx l=>by
  have l:x=(j:Int):=by simpa using l
  exact⟨j,l,g⟩
 unfold jQ;rw[a,c,d,if_neg (by omega),if_neg (by omega),if_neg (by omega),if_neg (by omega),decide_eq_false (by omega)];unfold gX kH;rw[a,c,d,e,if_neg (by decide),dZ (by omega),if_neg (by omega),if_pos b.1,wr (by omega) (by omega),if_pos b.2,bF m]
theorem Bf.add {k:Nat} {r:CT} {R B o:Nat} (h:Bf k r R B o) (I:k<900) {t l:Nat} (A:t<16777216) (C:t≠0) (q:l<16777216) {m:CT} {u:Int} (j:fI 1000 r (t:Int) (l:Int)=some (m,u)):
  ∃p:Nat,(∀i,p.testBit i=(o.testBit i && !t.testBit i&&l.testBit i))∧((p=0∧Bf (k+1) m (R+1) (R+1) l)∨(p≠0∧Bf (k+1) m R (R+1) p)):=by
 have H:=h.valid (by omega);obtain⟨a,b,c,d,e,f,g⟩:=h;obtain⟨n,D,E,F⟩:=aat A C;have G:=HA [(t:Int),(l:Int)] (by simp) λx y=>by
  have y:x=(t:Int)∨x=(l:Int):=by simpa using y
  rcases y with rfl|rfl
  ·exact⟨t,rfl,A⟩
  ·exact⟨l,rfl,q⟩
 have v:Er o t<4294967296:=NY o t;have w:∀i,(Er o t &&& l).testBit i=(o.testBit i && !t.testBit i&&l.testBit i):=λi=>by
  rw[Nat.testBit_and,KH (by omega) (by omega)]
 have s:Er o t &&& l<16777216:=Nat.lt_of_le_of_lt Nat.and_le_right q;unfold fI at j;rw[bF (show jQ 1000 _=some true from H),if_neg (by decide),if_neg (by omega),bF G]at j;unfold oO oP at j;dsimp only at j;rw[a,c,e,if_neg (by decide),if_neg (by omega),bF D,NP,CW v (by omega),dZ (by omega),dZ (by omega),wr (by omega) (by omega)]at j;refine⟨Er o t &&& l,w,?_⟩
 by_cases z:Er o t &&& l=0
 ·rw[if_pos (by rw[z];rfl)]at j;have:=Option.some.inj j;obtain⟨rfl,_⟩:=Prod.mk.inj this;exact .inl ⟨z,rfl,⟨by dsimp only;omega,by dsimp only;omega⟩,rfl,rfl,rfl,by omega,q⟩
 ·rw[if_neg (by omega)]at j;have:=Option.some.inj j;obtain⟨rfl,_⟩:=Prod.mk.inj this;exact .inr ⟨z,rfl,⟨by dsimp only;omega,by dsimp only;omega⟩,rfl,rfl,rfl,by omega,s⟩
def exX:E:= .ite (.bi 37 (.ag 24 (.lf 12 0)) (.lf 6 0)) (.bi 33 (.ag 24 (.lf 12 0)) (.lf 1 1)) (.lf 6 0)
def exY:E:= .ag 23 (.bi 35 (.lf 12 0) (.ag 24 (.lf 12 0)))
def guT:E:= .bi 41 (.lf 10 0) (.bi 42 (.bi 36 (.lf 5 0) (.lf 1 0)) (.bi 36 (.lf 5 1) (.lf 4 0)))
def guB:E:= .bi 41 (.un 19 (.lf 10 0)) (.bi 42 (.bi 36 (.lf 5 0) exX) (.bi 36 (.lf 5 1) exY))
def RB:List RL:=[(guT,[(0,.lf 1 0),(1,.lf 4 0)]),(guB,[(0,exX),(1,exY)])]
theorem Xa (g:GR) (v:Nat):lo g (at' rM ((0:Nat):Int)) v=0:=rfl
theorem ade (g:GR) (v:Nat):lo g (at' rM ((1:Nat):Int)) v = -1:=rfl
theorem WL (g:GR) (v:Nat):hi g (at' rM ((0:Nat):Int)) v=(g.2.length:Int):=by
 show(0:Int)+1*(g.2.length:Int)+0*jT g g.1.length=_;omega
theorem acU (g:GR) (v:Nat):hi g (at' rM ((1:Nat):Int)) v=((row g v).length:Int) - 1:=rfl
def GZ (c:bI) (v:Nat):Int:=at' (at' c (v:Int)) 1
def HN (g:GR) (c:bI) (v:Nat):aP:=(List.range (row g v).length).map λq=>yL g c v q
def XB (g:GR) (c:bI) (v:Nat):Int:=if yK (HN g c v)<(g.1.length:Int)then UE (wI .i64 (yK (HN g c v)+1))else(g.1.length:Int)
def YB (g:GR) (c:bI) (v:Nat):Int:=pN ((List.range (row g v).length).map λq=>zO (decide (yL g c v q=yK (HN g c v))))
def TB (g:GR) (c:bI) (v:Nat):fH:=if v=0 then(0,-1)else(XB g c v,YB g c v)
def ER (g:GR) (c:bI) (v:Nat):Prop:=DU c v=(TB g c v).1∧GZ c v=(TB g c v).2
theorem sW (b:Bool):zO b≠0↔b=true:=by cases b<;>simp[zO]
theorem aeZ (b:Bool):zO b=0↔b=false:=by cases b<;>simp[zO]
section
variable {p:sU} {g:GR} {c:List (List Int)} {v:Nat}
theorem Wo:gA (aO p g) c v exX=XB g c v:=by
 show(if zO (decide (yK (HN g c v)<(g.1.length:Int)))≠0 then UE (wI .i64 (yK (HN g c v)+1))else(g.1.length:Int))=_;unfold XB;by_cases h:yK (HN g c v)<(g.1.length:Int)
 ·rw[if_pos h,if_pos (by rw[sW];exact decide_eq_true h)]
 ·rw[if_neg h,if_neg (by rw[sW];simpa using h)]
theorem Wp:gA (aO p g) c v exY=YB g c v:=rfl
theorem acT:gA (aO p g) c v guT=zO (decide (zO (decide ((v:Int)=0))≠0)&&decide (zO (decide (zO (decide (DU c v≠0))≠0)||decide (zO (decide (GZ c v ≠ -1))≠0))≠0)):=rfl
theorem acS:gA (aO p g) c v guB=zO (decide (zO (decide (zO (decide ((v:Int)=0))=0))≠0)&&decide (zO (decide (zO (decide (DU c v≠gA (aO p g) c v exX))≠0)||decide (zO (decide (GZ c v≠gA (aO p g) c v exY))≠0))≠0)):=rfl
theorem Sp:gA (aO p g) c v guT≠0↔v=0∧(DU c v≠0∨GZ c v ≠ -1):=by
 rw[acT,sW,Bool.and_eq_true,decide_eq_true_eq,decide_eq_true_eq,sW,sW,Bool.or_eq_true,decide_eq_true_eq,decide_eq_true_eq,decide_eq_true_eq,sW,sW,decide_eq_true_eq,decide_eq_true_eq];constructor
 ·rintro⟨a,b⟩;exact⟨by omega,b⟩
 ·rintro⟨a,b⟩;exact⟨by omega,b⟩
theorem So:gA (aO p g) c v guB≠0↔v≠0∧(DU c v≠XB g c v∨GZ c v≠YB g c v):=by
 rw[acS,Wo,Wp,sW,Bool.and_eq_true,decide_eq_true_eq,decide_eq_true_eq,sW,sW,Bool.or_eq_true,decide_eq_true_eq,decide_eq_true_eq,decide_eq_true_eq,aeZ,sW,sW,decide_eq_true_eq,decide_eq_true_eq,decide_eq_false_iff_not];constructor
 ·rintro⟨a,b⟩;exact⟨by omega,b⟩
 ·rintro⟨a,b⟩;exact⟨by omega,b⟩
theorem OP (h:0<=dD (aO p g) RB c v):(dD (aO p g) RB c v=0∧v=0∧¬ER g c v)∨(dD (aO p g) RB c v=1∧v≠0∧¬ER g c v):=by
 obtain⟨i,k,j,l⟩:=(Ah (aO p g) RB c v).resolve_left (λe=>by omega);have j:i<2:=j
 match i,j with
 |0,_=>
  obtain⟨a,b⟩:=Sp.1 l;refine .inl ⟨k,a,?_⟩;unfold ER TB;rw[if_pos a];rintro⟨d,f⟩;rcases b with b|b
  ·exact b d
  ·exact b f
 |1,_=>
  obtain⟨a,b⟩:=So.1 l;refine .inr ⟨k,a,?_⟩;unfold ER TB;rw[if_neg a];rintro⟨d,f⟩;rcases b with b|b
  ·exact b d
  ·exact b f
theorem Uv (h:¬0<=dD (aO p g) RB c v):ER g c v:=by
 have e:dD (aO p g) RB c v = -1:=by
  rcases Ah (aO p g) RB c v with e|⟨i,f,_⟩
  ·exact e
  ·omega
 have b:¬gA (aO p g) c v guT≠0:=λq=>q (EU.1 e 0 (by decide));have d:¬gA (aO p g) c v guB≠0:=λq=>q (EU.1 e 1 (by decide));rw[Sp]at b;rw[So]at d;unfold ER TB;by_cases a:v=0
 ·rw[if_pos a];exact⟨Decidable.not_not.1 λq=>b ⟨a,.inl q⟩,Decidable.not_not.1 λq=>b ⟨a,.inr q⟩⟩
 ·rw[if_neg a];exact⟨Decidable.not_not.1 λq=>d ⟨a,.inl q⟩,Decidable.not_not.1 λq=>d ⟨a,.inr q⟩⟩
theorem Lc:¬0<=dD (aO p g) RB c v↔ER g c v:=by
 refine⟨Uv,λh q=> ?_⟩
 rcases OP q with⟨_,_,e⟩|⟨_,_,e⟩<;>exact e h
theorem aaq (b:VG g) (d:Au g c rM) (h:v<g.2.length) {i:Nat} (e:i<(row g v).length):0<=yL g c v i∧yL g c v i<=(g.2.length:Int):=by
 obtain⟨u,f,a,_⟩:=b.port h e;rw[DZ a];have:=d.ok u f 0 (by decide);rw[Xa,WL]at this;exact this
theorem QR {x:Int} (h:x∈HN g c v):∃i,i<(row g v).length∧yL g c v i=x:=by
 obtain⟨i,b,a⟩:=List.mem_map.1 h;exact⟨i,List.mem_range.1 b,a⟩
theorem aeX (d:VG g) (m:Au g c rM) (o:v<g.2.length):0<=XB g c v∧XB g c v<=(g.2.length:Int)∧(∀i,i<(row g v).length->XB g c v<=yL g c v i+1)∧(XB g c v=(g.2.length:Int)∨∃i,i<(row g v).length∧XB g c v=yL g c v i+1):=by
 have l:=d.n24;have k:=d.len;have a:∀i,i<(row g v).length->yK (HN g c v)<=yL g c v i:=λi b=>MB (List.mem_map.2 ⟨i,List.mem_range.2 b,rfl⟩);unfold XB;by_cases h:yK (HN g c v)<(g.1.length:Int)
 ·rw[if_pos h];rcases JD (HN g c v)with e|e
  ·omega
  ·obtain⟨i,b,r⟩:=QR e;have q:=aaq d m o b;have n:UE (wI .i64 (yK (HN g c v)+1))=yK (HN g c v)+1:=by
    rw[wr (by omega) (by omega)];unfold UE;omega
   rw[n];refine⟨by omega,by omega,λj f=> ?_,.inr ⟨i,b,by omega⟩⟩
   have:=a j f;omega
 ·rw[if_neg h];refine⟨by omega,by omega,λj f=> ?_,.inl (by omega)⟩
  have:=a j f;omega
theorem TV (l:List Int) : -1<=pN l∧pN l<=(l.length:Int) - 1:=by
 unfold pN;cases h:l.findIdx? nz with
 |none=>dsimp only;omega
 |some i=>
  obtain⟨a,_⟩:=List.findIdx?_eq_some_iff_getElem.1 h;dsimp only;omega
theorem aeY : -1<=YB g c v∧YB g c v<=((row g v).length:Int) - 1:=by
 have:=TV ((List.range (row g v).length).map λq=>zO (decide (yL g c v q=yK (HN g c v))));rw[List.length_map,List.length_range]at this;exact this
theorem aeU (d:VG g) (e:Au g c rM) (f:v<g.2.length):(0<=(TB g c v).1∧(TB g c v).1<=(g.2.length:Int)) ∧ -1<=(TB g c v).2∧(TB g c v).2<=((row g v).length:Int) - 1:=by
 unfold TB;split
 ·dsimp only;omega
 ·obtain⟨a,b,_⟩:=aeX d e f;exact⟨⟨a,b⟩,aeY⟩
theorem CX {k a b x:Int} (d:a<=x) (e:x<=b):lZ k (a,b) x=x:=by unfold lZ;rw[if_pos ⟨d,e⟩]
theorem YP {a:List (List Int)} (j:VG g) (l:v<g.2.length) (h:∀u,u<g.2.length->DU a u=DU c u):TB g a v=TB g c v:=by
 have f:∀i,i<(row g v).length->yL g a v i=yL g c v i:=λi b=>by
  obtain⟨u,k,d,_⟩:=j.port l b;rw[DZ d,DZ d,h u k]
 have e:HN g a v=HN g c v:=List.map_congr_left λi b=>f i (List.mem_range.1 b);have m:YB g a v=YB g c v:=by
  unfold YB;rw[e];congr 1;exact List.map_congr_left λi b=>by rw[f i (List.mem_range.1 b)]
 unfold TB;rw[m];unfold XB;rw[e]
end
def Cl (k:Nat) (x y:Int):Prop:=(y<(k:Int)->x=y)∧((k:Int)<=y->(k:Int)<=x)
def nL (g:GR) (d:aP) (v:Nat) (p:Int):Prop:=(∃i:Nat,i<(row g v).length∧p=i∧at' d (fY (row g v) i).1=D d v - 1∧∀k,k<i->¬at' d (fY (row g v) k).1=D d v - 1)∨(p = -1∧∀k,k<(row g v).length->¬at' d (fY (row g v) k).1=D d v - 1)
theorem nL.uniq {g:GR} {d:aP} {v:Nat} {p l:Int} (h:nL g d v p) (m:nL g d v l):p=l:=by
 rcases h with⟨i,a,b,c,n⟩|⟨a,b⟩<;>rcases m with⟨j,e,f,k,o⟩|⟨e,f⟩
 ·have:i=j:=by
   rcases Nat.lt_trichotomy i j with q|q|q
   ·exact absurd c (o i q)
   ·exact q
   ·exact absurd k (n j q)
  omega
 ·exact absurd c (f i a)
 ·exact absurd k (b j e)
 ·omega
section
variable {g:GR} {d:List Int} {c:List (List Int)} (hV:VG g) (hD:qK g 0 d) (h0:∀v,v<g.2.length->0<=D d v)
 include hV hD h0
theorem afS (s:∀u,u<g.2.length->DU c u=D d u) {v:Nat} (l:v<g.2.length):(TB g c v).1=D d v∧nL g d v (TB g c v).2:=by
 have J:=hV.n24;have O:=hV.n1;have I:=hV.len;have b:∀i u:Nat,(fY (row g v) i).1=(u:Int)->u<g.2.length->yL g c v i=D d u∧at' d (fY (row g v) i).1=D d u:=λi u a f=>⟨by rw[DZ a];exact s u f,by rw[a]⟩
 unfold TB;by_cases q:v=0
 ·subst q;rw[if_pos Z];have Q:=(hD.zero 0 l).2 Z;refine⟨Q.symm,.inr ⟨rfl,λk G e=> ?_⟩⟩
  obtain⟨u,f,a,_⟩:=hV.port l G;rw[(b k u a f).2]at e;have:=h0 u f;omega
 ·rw[if_neg q];have z:0<D d v:=by
   have:=h0 v l;have P:D d v≠0:=λe=>q ((hD.zero v l).1 e);omega
  obtain⟨R,H,⟨B,t,A⟩,C⟩:=hD.near v l z;have n:yL g c v B=D d v - 1:=by rw[(b B R A H).1,C]
  have E:∀i,i<(row g v).length->D d v - 1<=yL g c v i:=λi F=>by
   obtain⟨u,f,a,r⟩:=hV.port l F;rw[(b i u a f).1];have:=(hD.next u f (h0 u f) v l (hV.back l r)).2;omega
  have o:yK (HN g c v)=D d v - 1:=by
   have S:yK (HN g c v)<=D d v - 1:=n▸MB (List.mem_map.2 ⟨B,List.mem_range.2 t,rfl⟩);rcases JD (HN g c v)with e|e
   ·have:=hD.hi v l;omega
   ·obtain⟨i,F,T⟩:=QR e;have:=E i F;omega
  have M:=hD.hi v l;have K:XB g c v=D d v:=by
   unfold XB;rw[o,if_pos (by omega),wr (by omega) (by omega)];unfold UE;omega
  refine⟨K,?_⟩
  show nL g d v (YB g c v);obtain⟨m,U,h,y⟩:=FI (p:=λi=>i<(row g v).length∧yL g c v i=D d v - 1) B ⟨t,n⟩;have L:YB g c v=(m:Int):=by
   unfold YB;rw[o];refine qY (by simpa using h.1) ?_ λj N=> ?_
   ·rw[lA _ h.1,decide_eq_true h.2];simp[zO]
   ·have w:j<(row g v).length:=by omega
    rw[lA _ w,decide_eq_false λe=>y j N ⟨w,e⟩];simp[zO]
  refine .inl ⟨m,h.1,L,?_,λk G e=> ?_⟩
  ·obtain⟨u,f,a,_⟩:=hV.port l h.1;rw[(b m u a f).2,<-(b m u a f).1];exact h.2
  ·have x:k<(row g v).length:=by omega
   obtain⟨u,f,a,_⟩:=hV.port l x;rw[(b k u a f).2,<-(b k u a f).1]at e;exact y k G ⟨x,e⟩
end
structure Yt (g:GR) (d:aP) (k:Nat) (c:bI):Prop where
 near:∀v,v<g.2.length->D d v<(k:Int)->DU c v=D d v∧nL g d v (GZ c v)
 far:∀v,v<g.2.length->(k:Int)<=D d v->(k:Int)<=DU c v
def TrT (g:GR) (d:aP) (k:Nat) (c:bI) (v:Nat):Prop:=v<g.2.length∧((D d v<=(k:Int)∧¬(DU c v=D d v∧nL g d v (GZ c v)))∨((k:Int)<D d v∧DU c v<=(k:Int)))
structure TrS (g:GR) (c:bI) (t:Nat) (c':bI):Prop where
 stay:∀v,v<g.2.length->t.testBit v=false->DU c' v=DU c v∧GZ c' v=GZ c v
 move:∀v,v<g.2.length->t.testBit v=true->DU c' v=(TB g c v).1∧GZ c' v=(TB g c v).2
section
variable {g:GR} {d:List Int} {c c':List (List Int)} {k t:Nat} (hV:VG g) (hD:qK g 0 d) (h0:∀v,v<g.2.length->0<=D d v)
 include hV hD h0
theorem XU (h:Yt g d k c) {v:Nat} (w:v<g.2.length):(D d v<=(k:Int)->(TB g c v).1=D d v∧nL g d v (TB g c v).2)∧((k:Int)<D d v->(k:Int)<(TB g c v).1):=by
 have P:=hV.n24;have W:=hV.n1;have O:=hV.len;have T:=hD.hi v w;have x:∀i,i<(row g v).length->∃u,u<g.2.length∧at' d (fY (row g v) i).1=D d u∧D d v - 1<=D d u∧(D d u<(k:Int)->yL g c v i=D d u)∧((k:Int)<=D d u->(k:Int)<=yL g c v i):=λi b=>by
  obtain⟨u,n,y,A⟩:=hV.port w b;have:=(hD.next u n (h0 u n) v w (hV.back w A)).2;rw[DZ y,y];exact⟨u,n,rfl,by omega,λq=>(h.near u n q).1,λq=>h.far u n q⟩
 unfold TB;by_cases z:v=0
 ·subst z;rw[if_pos Z];have Y:=(hD.zero 0 w).2 Z;refine⟨λ_=>⟨Y.symm,.inr ⟨rfl,λi b e=> ?_⟩⟩,λq=>by omega⟩
  obtain⟨u,n,y,_⟩:=x i b;have:=h0 u n;omega
 rw[if_neg z];have E:0<D d v:=by
  have:=h0 v w;have X:D d v≠0:=λe=>z ((hD.zero v w).1 e);omega
 have r:yK (HN g c v)=1073741824∨∃i,i<(row g v).length∧yL g c v i=yK (HN g c v):=by
  rcases JD (HN g c v)with e|e
  ·exact .inl e
  ·exact .inr (QR e)
 refine⟨λU=> ?_,λU=> ?_⟩
 ·obtain⟨u0,K,⟨L,B,F⟩,H⟩:=hD.near v w E;have o:yL g c v L=D d v - 1:=by
   rw[DZ F,(h.near u0 K (by omega)).1,H]
  have f:∀i,i<(row g v).length->D d v - 1<=yL g c v i∧(yL g c v i=D d v - 1↔at' d (fY (row g v) i).1=D d v - 1):=λi b=>by
   obtain⟨u,n,e,M,N,G⟩:=x i b;by_cases q:D d u<(k:Int)
   ·have:=N q;omega
   ·have:=G (by omega);omega
  have s:yK (HN g c v)=D d v - 1:=by
   have M:yK (HN g c v)<=D d v - 1:=o▸MB (List.mem_map.2 ⟨L,List.mem_range.2 B,rfl⟩);rcases r with e|⟨i,b,S⟩
   ·omega
   ·have:=(f i b).1;omega
  have Q:XB g c v=D d v:=by
   unfold XB;rw[s,if_pos (by omega),wr (by omega) (by omega)];unfold UE;omega
  refine⟨Q,?_⟩
  show nL g d v (YB g c v);obtain⟨m,V,a,C⟩:=FI (p:=λi=>i<(row g v).length∧yL g c v i=D d v - 1) L ⟨B,o⟩;have R:YB g c v=(m:Int):=by
   unfold YB;rw[s];refine qY (by simpa using a.1) ?_ λj J=> ?_
   ·rw[lA _ a.1,decide_eq_true a.2];simp[zO]
   ·have l:j<(row g v).length:=by omega
    rw[lA _ l,decide_eq_false λe=>C j J ⟨l,e⟩];simp[zO]
  refine .inl ⟨m,a.1,R,((f m a.1).2).1 a.2,λj J e=> ?_⟩;have l:j<(row g v).length:=by omega
  exact C j J ⟨l,((f j l).2).2 e⟩
 ·have I:∀i,i<(row g v).length->(k:Int)<=yL g c v i:=λi b=>by
   obtain⟨u,n,e,M,N,G⟩:=x i b;exact G (by omega)
  have V:(k:Int)<=yK (HN g c v):=by
   rcases r with e|⟨i,b,S⟩
   ·omega
   ·have:=I i b;omega
  show(k:Int)<XB g c v;unfold XB;by_cases q:yK (HN g c v)<(g.1.length:Int)
  ·rw[if_pos q,wr (by omega) (by omega)];unfold UE;omega
  ·rw[if_neg q];omega
theorem Ta (h:Yt g d k c) {v:Nat} (f:TrT g d k c v):¬ER g c v:=by
 obtain⟨m,f⟩:=f;obtain⟨a,b⟩:=XU hV hD h0 h m;rintro⟨n,o⟩;rcases f with⟨e,i⟩|⟨e,i⟩
 ·obtain⟨j,l⟩:=a e;exact i ⟨by rw[n,j],by rw[o];exact l⟩
 ·have:=b e;omega
theorem XV (h:Yt g d k c) (l:TrS g c t c'):Yt g d k c'∧∀v,TrT g d k c' v->TrT g d k c v∧t.testBit v=false:=by
 refine⟨⟨λv e n=> ?_,λv e n=> ?_⟩,λv ⟨e,m⟩=> ?_⟩
 all_goals obtain⟨a,b⟩:=XU hV hD h0 h e
 ·cases f:t.testBit v with
  |true=>obtain⟨i,j⟩:=l.move v e f;rw[i,j];exact a (by omega)
  |false=>obtain⟨i,j⟩:=l.stay v e f;rw[i,j];exact h.near v e n
 ·cases f:t.testBit v with
  |true=>
   rw[(l.move v e f).1];by_cases q:D d v<=(k:Int)
   ·rw[(a q).1];exact n
   ·have:=b (by omega);omega
  |false=>rw[(l.stay v e f).1];exact h.far v e n
 ·cases f:t.testBit v with
  |true=>
   exfalso;obtain⟨i,j⟩:=l.move v e f;rw[i,j]at m;rcases m with⟨o,p⟩|⟨o,p⟩
   ·exact p (a o)
   ·have:=b o;omega
  |false=>
   obtain⟨i,j⟩:=l.stay v e f;rw[i,j]at m;exact⟨⟨e,m⟩,rfl⟩
 omit hV hD in
theorem Li (b:∀v,v<g.2.length->0<=DU c v):Yt g d 0 c:=⟨λv a q=>by have:=h0 v a;omega,λv a _=>b v a⟩
 omit hV hD h0 in
theorem Pn (h:Yt g d k c) (e:∀v,¬TrT g d k c v):Yt g d (k+1) c:=by
  have b:∀v,v<g.2.length->(D d v<=(k:Int)->DU c v=D d v∧nL g d v (GZ c v))∧((k:Int)<D d v->(k:Int)<DU c v):=λv a=>
   ⟨λq=>Classical.not_not.1 λr=>e v ⟨a,.inl ⟨q,r⟩⟩,λq=>Decidable.not_not.1 λf=>e v ⟨a,.inr ⟨q,by omega⟩⟩⟩
  exact⟨λv a q=>(b v a).1 (by omega),λv a q=>by have:=(b v a).2 (by omega);omega⟩
end
theorem afC {g:GR} {a:List CG} (b:sI g a) {x:Nat} (c:x<a.length) (v:Nat):lo g (at' a (x:Int)) v<=hi g (at' a (x:Int)) v:=by
 rcases b.kind x c with k|k|k
 ·have h:=(b.range x c k).2.1;unfold lo hi at h ⊢;rw[k]at h ⊢;simpa using h
 ·unfold lo hi;rw[k];simp
 ·unfold lo hi;rw[k];simp;omega
theorem TJ {g:GR} {a:List CG} (b:sI g a) {x:Nat} (c:x<a.length) (v:Nat) (y:Int):lo g (at' a (x:Int)) v<=lZ (at' a (x:Int)).2.1 (lR g a v x) y∧lZ (at' a (x:Int)).2.1 (lR g a v x) y<=hi g (at' a (x:Int)) v:=by
 have h:=afC b c v;unfold lZ lR;dsimp only;split
 ·assumption
 ·split
  ·rename_i k;unfold lo hi;rw[k];simp;omega
  ·split<;>omega
section
variable {S:Av} {vars:List CG} {R:List RL} {c:List (List Int)} {t v:Nat}
theorem XK (f:sI S.2.1 vars) {a:List Int} (d:a.length=vars.length) (h:∀x,x<vars.length->lo S.2.1 (at' vars (x:Int)) v<=at' a (x:Int)∧at' a (x:Int)<=hi S.2.1 (at' vars (x:Int)) v) (s:Nat×E):
  (EV S vars c v a s).length=vars.length∧∀x,x<vars.length->lo S.2.1 (at' vars (x:Int)) v<=at' (EV S vars c v a s) (x:Int)∧at' (EV S vars c v a s) (x:Int)<=hi S.2.1 (at' vars (x:Int)) v:=by
 unfold EV;refine⟨by rw[List.length_set,d],λx b=> ?_⟩
 by_cases g:s.1<a.length
 ·rw[sL a s.1 x _ g];split
  ·rename_i e;rw[<-e];exact TJ f b v _
  ·exact h x b
 ·rw[List.set_eq_of_length_le (by omega)];exact h x b
theorem KX (k:sI S.2.1 vars) (h:Au S.2.1 c vars) (j:v<S.2.1.2.length) (i:Int):(kO S vars R c v i).length=vars.length∧∀x,x<vars.length->lo S.2.1 (at' vars (x:Int)) v<=at' (kO S vars R c v i) (x:Int)∧at' (kO S vars R c v i) (x:Int)<=hi S.2.1 (at' vars (x:Int)) v:=by
 have g:∀(l:List (Nat×E)) (d:List Int),d.length=vars.length->(∀x,x<vars.length->lo S.2.1 (at' vars (x:Int)) v<=at' d (x:Int)∧at' d (x:Int)<=hi S.2.1 (at' vars (x:Int)) v)->
   (l.foldl (EV S vars c v) d).length=vars.length∧∀x,x<vars.length->lo S.2.1 (at' vars (x:Int)) v<=at' (l.foldl (EV S vars c v) d) (x:Int)∧at' (l.foldl (EV S vars c v) d) (x:Int)<=hi S.2.1 (at' vars (x:Int)) v:=by
  intro l
  induction l with
  |nil=>intro d e f;exact⟨e,f⟩
  |cons s l m=>
   intro d e f;obtain⟨a,b⟩:=XK (c:=c) k e f s;exact m _ a b
 exact g _ _ (h.row v j) (h.ok v j)
theorem Lg (e:sI S.2.1 vars) (a:Au S.2.1 c vars):Au S.2.1 (gT S vars R c t) vars:=by
 have d:=a.len;refine⟨by rw[Le,d],λv b=> ?_,λv b x f=> ?_⟩
 ·rw[Aj (by omega)];split
  ·exact(KX e a b _).1
  ·exact a.row v b
 ·unfold val;rw[Aj (by omega)];split
  ·exact(KX e a b _).2 x f
  ·exact a.ok v b x f
end
theorem QB (a b:aP):pN (a++b)=if 0<=pN a then pN a else if 0<=pN b then(a.length:Int)+pN b else -1:=by
 unfold pN;rw[List.findIdx?_append];cases c:a.findIdx? nz with
 |some i=>simp
 |none=>
  cases d:b.findIdx? nz with
  |some i=>simp;omega
  |none=>simp
theorem Y_ {c:Type} [Inhabited c] (a b:List c) {i:Nat} (h:i<a.length):at' (a++b) (i:Int)=at' a (i:Int):=by
 rw[fT,fT,List.getD_eq_getElem?_getD,List.getD_eq_getElem?_getD,List.getElem?_append_left h]
theorem Za {c:Type} [Inhabited c] (a b:List c) (i:Nat):at' (a++b) ((a.length+i:Nat):Int)=at' b (i:Int):=by
 rw[fT,fT,List.getD_eq_getElem?_getD,List.getD_eq_getElem?_getD,List.getElem?_append_right (by omega),Nat.add_sub_cancel_left]
section
variable {S:Av} {A B R:List RL} {vars:List CG} {c:List (List Int)} {v:Nat}
theorem Ld:dD S (A++B) c v=if 0<=dD S A c v then dD S A c v else if 0<=dD S B c v then(A.length:Int)+dD S B c v else -1:=by
 unfold dD;rw[List.map_append,QB,List.length_map]
theorem QV {i:Nat} (h:i<A.length):kO S vars (A++B) c v (i:Int)=kO S vars A c v (i:Int):=by
 unfold kO;rw[Y_ _ _ h]
theorem QW (i:Nat):kO S vars (A++B) c v ((A.length+i:Nat):Int)=kO S vars B c v (i:Int):=by
 unfold kO;rw[Za]
theorem Dn {i:Nat} (b:i<R.length) (d:gA S c v (at' R (i:Int)).1≠0) (f:∀j:Nat,j<i->gA S c v (at' R (j:Int)).1=0):dD S R c v=(i:Int):=by
 have e:∀j:Nat,j<R.length->at' (R.map λr=>gA S c v r.1) (j:Int)=gA S c v (at' R (j:Int)).1:=λj a=>by
  rw[kV (by simpa using a),kV a];simp
 exact qY (by simpa using b) (by rw[e i b];exact d) λj a=>by rw[e j (by omega)];exact f j a
theorem JE {x:Nat} (j:∀r∈R,∀s∈r.2,s.1≠x) (i:Int):at' (kO S vars R c v i) (x:Int)=at' (at' c (v:Int)) (x:Int):=by
 have f:∀(l:List (Nat×E)) (b:List Int),(∀s∈l,s.1≠x)->at' (l.foldl (EV S vars c v) b) (x:Int)=at' b (x:Int):=by
  intro l
  induction l with
  |nil=>intro b _;rfl
  |cons s l k=>
   intro b h;refine(k _ λm d=>h m (List.mem_cons_of_mem _ d)).trans ?_;unfold EV;by_cases a:s.1<b.length
   ·rw[sL b s.1 x _ a,if_neg (λe=>h s List.mem_cons_self e.symm)]
   ·rw[List.set_eq_of_length_le (by omega)]
 refine f _ _ λs a=> ?_;unfold at' at a;by_cases g:i.toNat<R.length
 ·rw[List.getD_eq_getElem?_getD,List.getElem?_eq_getElem g,Option.getD_some]at a;exact j _ (List.getElem_mem g) s a
 ·rw[List.getD_eq_getElem?_getD,List.getElem?_eq_none (by omega),Option.getD_none]at a;cases a
end
def GY (g:GR) (c:List (List Int)):List (List Int):=(List.range g.2.length).map λv=>[DU c v,GZ c v]
section
variable {p:sU} {g:GR} {W:List CG} {R':List RL} {c:List (List Int)} {v t:Nat}
theorem SK (a:v<g.2.length):DU (GY g c) v=DU c v:=by
 show at' (at' (GY g c) (v:Int)) 0=_;rw[show at' (GY g c) (v:Int)=[DU c v,GZ c v]from lA _ a];rfl
theorem aaw (a:v<g.2.length):GZ (GY g c) v=GZ c v:=by
 show at' (at' (GY g c) (v:Int)) 1=_;rw[show at' (GY g c) (v:Int)=[DU c v,GZ c v]from lA _ a];rfl
theorem Me (d:Au g c (rM++W)) (e:v<g.2.length):(0<=DU c v∧DU c v<=(g.2.length:Int)) ∧ -1<=GZ c v∧GZ c v<=((row g v).length:Int) - 1:=by
 have a:=d.ok v e 0 (by show 0<W.length+2;omega);have b:=d.ok v e 1 (by show 1<W.length+2;omega);have f:lo g (at' (rM++W) ((0:Nat):Int)) v=0:=Xa g v;have h:hi g (at' (rM++W) ((0:Nat):Int)) v=(g.2.length:Int):=WL g v;have i:lo g (at' (rM++W) ((1:Nat):Int)) v = -1:=ade g v;have j:hi g (at' (rM++W) ((1:Nat):Int)) v=((row g v).length:Int) - 1:=acU g v;rw[f,h]at a;rw[i,j]at b;exact⟨a,b⟩
theorem aax (f:Au g c (rM++W)):Au g (GY g c) rM:=by
 refine⟨by simp[GY],λu d=>by rw[show at' (GY g c) (u:Int)=[DU c u,GZ c u]from lA _ d];rfl,λu d x e=> ?_⟩
 obtain⟨a,b⟩:=Me f d;have e:x<2:=e
 match x,e with
 |0,_=>rw[Xa,WL];show 0<=DU (GY g c) u∧DU (GY g c) u<=_;rw[SK d];exact a
 |1,_=>rw[ade,acU];show -1<=GZ (GY g c) u∧GZ (GY g c) u<=_;rw[aaw d];exact b
theorem abK (a:VG g) (d:Au g c (rM++W)) (b:v<g.2.length):(0<=(TB g c v).1∧(TB g c v).1<=(g.2.length:Int)) ∧ -1<=(TB g c v).2∧(TB g c v).2<=((row g v).length:Int) - 1:=by
 rw[<-YP a b λu e=>SK (c:=c) e];exact aeU a (aax d) b
theorem abp (l:List Int) (h:2<=l.length) (x y:Int):at' ((l.set 0 x).set 1 y) 0=x∧at' ((l.set 0 x).set 1 y) 1=y:=by
 match l,h with
 |a::b::l,_=>exact⟨rfl,rfl⟩
theorem adk (r:VG g) (l:Au g c (rM++W)) (n:v<g.2.length) (h:0<=dD (aO p g) RB c v):at' (kO (aO p g) (rM++W) RB c v (dD (aO p g) RB c v)) 0=(TB g c v).1∧at' (kO (aO p g) (rM++W) RB c v (dD (aO p g) RB c v)) 1=(TB g c v).2:=by
 have m:2<=(at' c (v:Int)).length:=by
  have e:(at' c (v:Int)).length=W.length+2:=l.row v n;omega
 have j:lR g rM v 0=(0,(g.2.length:Int)):=by unfold lR;rw[Xa,WL]
 have k:lR g rM v 1=(-1,((row g v).length:Int) - 1):=by unfold lR;rw[ade,acU]
 obtain⟨⟨o,b⟩,q,d⟩:=abK r l n;rcases OP h with⟨e,a,_⟩|⟨e,a,_⟩
 ·have f:kO (aO p g) (rM++W) RB c v 0=((at' c (v:Int)).set 0 (lZ 1 (lR g rM v 0) 0)).set 1 (lZ 3 (lR g rM v 1) (-1)):=rfl;have i:TB g c v=(0,-1):=by unfold TB;rw[if_pos a]
  rw[i]at d b ⊢;dsimp only at d b;rw[e,f,j,k,CX (by omega) (by omega),CX (by omega) (by omega)];exact abp _ m _ _
 ·have f:kO (aO p g) (rM++W) RB c v 1=((at' c (v:Int)).set 0 (lZ 1 (lR g rM v 0) (gA (aO p g) c v exX))).set 1 (lZ 3 (lR g rM v 1) (gA (aO p g) c v exY)):=rfl;have i:TB g c v=(XB g c v,YB g c v):=by unfold TB;rw[if_neg a]
  rw[i]at o b q d ⊢;dsimp only at o b q d;rw[e,f,j,k,Wo,Wp,CX (by omega) (by omega),CX (by omega) (by omega)];exact abp _ m _ _
theorem FM (h:ER g c v):dD (aO p g) (RB++R') c v=if 0<=dD (aO p g) R' c v then 2+dD (aO p g) R' c v else -1:=by
 rw[Ld,if_neg (Lc.2 h)];rfl
theorem JH (h:¬ER g c v):dD (aO p g) (RB++R') c v=dD (aO p g) RB c v∧0<=dD (aO p g) RB c v:=by
 have:0<=dD (aO p g) RB c v:=Decidable.not_not.1 λq=>h (Lc.1 q);exact⟨by rw[Ld,if_pos this],this⟩
theorem Ot (h:ER g c v) (a:0<=dD (aO p g) (RB++R') c v):0<=dD (aO p g) R' c v∧kO (aO p g) (rM++W) (RB++R') c v (dD (aO p g) (RB++R') c v)=kO (aO p g) (rM++W) R' c v (dD (aO p g) R' c v):=by
 rw[FM h]at a;by_cases q:0<=dD (aO p g) R' c v
 ·refine⟨q,?_⟩
  rw[FM h,if_pos q];obtain⟨i,b⟩:∃i:Nat,dD (aO p g) R' c v=(i:Int):=⟨_,(Int.toNat_of_nonneg q).symm⟩
  rw[b,show(2:Int)+(i:Int)=((RB.length+i:Nat):Int) by simp[RB]];exact QW i
 ·rw[if_neg q]at a;omega
theorem adF (u:VG g) (m:Au g c (rM++W)) (l:∀r∈R',∀s∈r.2,2<=s.1) (j:∀v,t.testBit v=true->v<g.2.length∧0<=dD (aO p g) (RB++R') c v):TrS g c t (gT (aO p g) (rM++W) (RB++R') c t):=by
 have a:=m.len;refine⟨λv f b=> ?_,λv f b=> ?_⟩
 ·unfold DU GZ;rw[Aj (by rw[a];exact f),if_neg (by rw[b];decide)];exact⟨rfl,rfl⟩
 ·obtain⟨_,y⟩:=j v b;unfold DU GZ;rw[Aj (by rw[a];exact f),if_pos b];by_cases d:ER g c v
  ·obtain⟨_,e⟩:=Ot (W:=W) d y;rw[e];have z:=JE (S:=aO p g) (R:=R') (vars:=rM++W) (c:=c) (v:=v) (x:=0) (λr h s k=>by have:=l r h s k;omega) (dD (aO p g) R' c v);have A:=JE (S:=aO p g) (R:=R') (vars:=rM++W) (c:=c) (v:=v) (x:=1) (λr h s k=>by have:=l r h s k;omega) (dD (aO p g) R' c v);exact⟨z.trans d.1,A.trans d.2⟩
  ·obtain⟨e,o⟩:=JH (p:=p) (R':=R') d;rw[e];obtain⟨i,n,w⟩:∃i:Nat,dD (aO p g) RB c v=(i:Int)∧i<RB.length:=by
    rcases Ah (aO p g) RB c v with q|⟨i,B,C,_⟩
    ·omega
    ·exact⟨i,B,C⟩
   rw[n,QV w,<-n];exact adk u m f o
end
section
variable {L:Int->Int->Int->Int} {deg:Nat} {x y:E} {q:Int}
theorem vE:(E.bi 41 x y).den L deg q≠0↔x.den L deg q≠0∧y.den L deg q≠0:=by
 show zO (decide (x.den L deg q≠0)&&decide (y.den L deg q≠0))≠0↔_;rw[sW,Bool.and_eq_true,decide_eq_true_eq,decide_eq_true_eq]
theorem Qx:(E.bi 42 x y).den L deg q≠0↔x.den L deg q≠0∨y.den L deg q≠0:=by
 show zO (decide (x.den L deg q≠0)||decide (y.den L deg q≠0))≠0↔_;rw[sW,Bool.or_eq_true,decide_eq_true_eq,decide_eq_true_eq]
theorem BN:(E.un 19 x).den L deg q≠0↔x.den L deg q=0:=by
 show zO (decide (x.den L deg q=0))≠0↔_;rw[sW,decide_eq_true_eq]
theorem Jf:(E.bi 35 x y).den L deg q≠0↔x.den L deg q=y.den L deg q:=by
 show zO (decide (x.den L deg q=y.den L deg q))≠0↔_;rw[sW,decide_eq_true_eq]
theorem Qw:(E.bi 36 x y).den L deg q≠0↔x.den L deg q≠y.den L deg q:=by
 show zO (decide (x.den L deg q≠y.den L deg q))≠0↔_;rw[sW,decide_eq_true_eq]
theorem Jg:(E.ag 21 x).den L deg q≠0↔∃i:Nat,i<deg∧x.den L deg (i:Int)≠0:=by
 show zO (((List.range deg).map λi=>x.den L deg ((i:Nat):Int)).any nz)≠0↔_;rw[sW,List.any_eq_true];constructor
 ·rintro⟨z,c,b⟩;obtain⟨i,a,rfl⟩:=List.mem_map.1 c;exact⟨i,List.mem_range.1 a,by simpa [nz]using b⟩
 ·rintro⟨i,a,b⟩;exact⟨_,List.mem_map.2 ⟨i,List.mem_range.2 a,rfl⟩,by simpa [nz]using b⟩
theorem ZL:(E.ag 20 x).den L deg q≠0↔∀i:Nat,i<deg->x.den L deg (i:Int)≠0:=by
 show zO (((List.range deg).map λi=>x.den L deg ((i:Nat):Int)).all nz)≠0↔_;rw[sW,List.all_eq_true];constructor
 ·intro h i a;have:=h _ (List.mem_map.2 ⟨i,List.mem_range.2 a,rfl⟩);simpa [nz]using this
 ·intro h z b;obtain⟨i,a,rfl⟩:=List.mem_map.1 b;simpa [nz]using h i (List.mem_range.1 a)
end
def iB (c:List (List Int)) (v:Nat) (x:Int):Int:=at' (at' c (v:Int)) x
def MD (g:GR) (c:List (List Int)) (v i:Nat) (x:Int):Int:=at' (at' c (fY (row g v) i).1) x
theorem vX {g:GR} {c:List (List Int)} {v i u:Nat} {x:Int} (h:(fY (row g v) i).1=(u:Int)):MD g c v i x=iB c u x:=by unfold MD iB;rw[h]
def QK:E:= .bi 35 (.lf 11 0) (.lf 5 1)
def WC:E:= .bi 41 (.bi 41 (.lf 10 0) (.un 19 (.lf 5 2))) (.lf 5 5)
def ZZ:E:= .bi 41 (.un 19 (.lf 10 0)) (.ag 21 (.bi 41 QK (.bi 42 (.bi 36 (.lf 12 3) (.lf 5 3)) (.bi 41 (.lf 5 2) (.un 19 (.lf 12 2))))))
def Z_:E:= .bi 41 (.lf 5 2) (.ag 20 (.bi 42 (.bi 36 (.lf 12 1) (.lf 17 0)) (.bi 41 (.un 19 (.lf 12 2)) (.bi 35 (.lf 12 3) (.lf 5 3)))))
def WH:E:= .bi 41 (.bi 41 (.un 19 (.lf 5 2)) (.un 19 (.lf 5 5))) (.ag 21 (.bi 41 (.bi 41 (.bi 35 (.lf 12 1) (.lf 17 0)) (.lf 12 5)) (.un 19 (.lf 12 2))))
def RS:List RL:=[(guT,[(0,.lf 1 0),(1,.lf 4 0)]),(guB,[(0,exX),(1,exY)]),(WC,[(2,.lf 2 0),(3,.un 19 (.lf 5 3)),(4,.lf 1 0),(5,.lf 3 0)]),
 (ZZ,[(2,.ag 21 (.bi 41 QK (.lf 12 2))),(3,.ag 21 (.bi 41 QK (.lf 12 3))),(4,.lf 1 0),(5,.lf 3 0)]),(Z_,[(2,.lf 3 0)]),(WH,[(5,.lf 2 0)])]
theorem aaE:w_ 6 RS=true:=by decide +kernel
section
variable {p:sU} {g:GR} {c:List (List Int)} {v:Nat}
theorem adw {a:Nat} {q:Int}:(E.lf 10 0).den (W_ (aO p g,c,(v:Int),[])) a q≠0↔v=0:=by
 show zO (decide ((v:Int)=0))≠0↔_;rw[sW,decide_eq_true_eq];omega
theorem afL {a:Nat} {q:Int}:(E.lf 10 0).den (W_ (aO p g,c,(v:Int),[])) a q=0↔v≠0:=by
 show zO (decide ((v:Int)=0))=0↔_;rw[aeZ,decide_eq_false_iff_not];omega
theorem LZ (d:v<g.2.length) {a i:Nat} (b:i<(row g v).length):(E.lf 17 0).den (W_ (aO p g,c,(v:Int),[])) a (i:Int)=Cs g v i:=by
 show at' (at' (eS g) (v:Int)) (i:Int)=_;unfold eS;rw[lA _ d,lA _ b]
theorem WE:gA (aO p g) c v WC≠0↔(v=0∧iB c v 2=0)∧iB c v 5≠0:=by
 unfold gA WC;rw[vE,vE,BN,adw];exact Iff.rfl
theorem WF:gA (aO p g) c v ZZ≠0↔v≠0∧∃i:Nat,i<(row g v).length∧(i:Int)=iB c v 1∧(MD g c v i 3≠iB c v 3∨(iB c v 2≠0∧MD g c v i 2=0)):=by
 unfold gA ZZ QK;rw[vE,BN,afL,Jg];simp only[vE,Qx,BN,Jf,Qw];exact Iff.rfl
theorem WG (b:v<g.2.length):gA (aO p g) c v Z_≠0↔iB c v 2≠0∧∀i:Nat,i<(row g v).length->MD g c v i 1≠Cs g v i∨(MD g c v i 2=0∧MD g c v i 3=iB c v 3):=by
 unfold gA Z_;rw[vE,ZL];simp only[vE,Qx,BN,Jf,Qw];refine and_congr Iff.rfl ⟨λh i a=> ?_,λh i a=> ?_⟩
 ·have:=h i a;rw[LZ b a]at this;exact this
 ·rw[LZ b a];exact h i a
theorem WI (b:v<g.2.length):gA (aO p g) c v WH≠0↔(iB c v 2=0∧iB c v 5=0)∧∃i:Nat,i<(row g v).length∧(MD g c v i 1=Cs g v i∧MD g c v i 5≠0)∧MD g c v i 2=0:=by
 unfold gA WH;rw[vE,vE,BN,BN,Jg];simp only[vE,Qx,BN,Jf,Qw];refine and_congr Iff.rfl ⟨fun⟨i,a,h⟩=>⟨i,a,?_⟩,fun⟨i,a,h⟩=>⟨i,a,?_⟩⟩
 ·rw[LZ b a]at h;exact h
 ·rw[LZ b a];exact h
end
end Go.Proofs.YtmdlcmbplnhdnaaGreatDoor
namespace Go.Proofs.YtmdlcmbplnhdnaaGreatDoor
structure RT (n E:Nat) (par dp:Nat->Nat):Prop where
 n1:0<n
 d0:dp 0=0
 up:∀v,v<n->v≠0->par v<n∧dp v=dp (par v)+1
 le:∀v,v<n->dp v<=E
def Ib (a:Nat->Nat) (s b:Nat->Int) (v:Nat):Prop:=v≠0∧(b (a v)≠b v∨(s v≠0∧s (a v)=0))
def M_ (n:Nat) (a:Nat->Nat) (s b:Nat->Int) (v:Nat):Prop:=s v≠0∧∀w,w<n->w≠0->a w=v->s w=0∧b w=b v
structure WS (n:Nat) (par:Nat->Nat) (m:Nat->Prop) (s b s' b':Nat->Int):Prop where
 stay:∀v,v<n->¬m v->s' v=s v∧b' v=b v
 take:∀v,v<n->m v->Ib par s b v->s' v=s (par v)∧b' v=b (par v)
 fin:∀v,v<n->m v->¬Ib par s b v->M_ n par s b v->s' v=0∧b' v=b v
 oth:∀v,v<n->m v->¬Ib par s b v->¬M_ n par s b v->(s' v=s v∧b' v=b v)∨(v=0∧s 0=0∧s' 0≠0∧b' 0≠b 0)
def gd (a:Nat->Nat) (s b:Nat->Int) (v:Nat):Prop:=s (a v)≠0∨(s v=0∧b v=b (a v))
def AG (n:Nat) (a:Nat->Nat) (s b:Nat->Int):Prop:=∀v,v<n->v≠0->gd a s b v
def Qt (n:Nat) (s b:Nat->Int):Prop:=∀v,v<n->s v=0∧b v=b 0
def UY (n:Nat) (a:Nat->Nat) (b:Nat->Int) (j:Nat):Prop:=∀v,v<n->a v<=j->b v=b 0
def Tu (n E:Nat) (a:Nat->Nat) (s:Nat->Int) (i:Nat):Prop:=∀v,v<n->E<a v+i->s v=0
def CI (n:Nat) (a:Nat->Nat) (s b:Nat->Int):Prop:=∀v,v<n->(b v=b 0->s v=0->∀w,w<n->w≠0->a w=v->s w=0∧b w=b 0)∧(b v≠b 0->s v=0∧∀w,w<n->w≠0->a w=v->b w≠b 0)
section
variable {n E:Nat} {par dp:Nat->Nat} {m:Nat->Prop} {s b s' b':Nat->Int} (hT:RT n E par dp) (hW:WS n par m s b s' b')
theorem WS.cases (hW:WS n par m s b s' b') {v:Nat} (d:v<n):(s' v=s v∧b' v=b v)∨(m v∧Ib par s b v∧s' v=s (par v)∧b' v=b (par v))∨(m v∧¬Ib par s b v∧M_ n par s b v∧s' v=0∧b' v=b v)∨(m v∧v=0∧s 0=0∧s' 0≠0∧b' 0≠b 0):=by
 by_cases a:m v
 ·by_cases c:Ib par s b v
  ·exact .inr (.inl ⟨a,c,hW.take v d a c⟩)
  ·by_cases e:M_ n par s b v
   ·exact .inr (.inr (.inl ⟨a,c,e,hW.fin v d a c e⟩))
   ·rcases hW.oth v d a c e with h|h
    ·exact .inl h
    ·exact .inr (.inr (.inr ⟨a,h⟩))
 ·exact .inl (hW.stay v d a)
theorem WS.rest (hW:WS n par m s b s' b') {v:Nat} (e:v<n) (c:v≠0) (a:s v=0) (d:b v=b (par v)):s' v=s v∧b' v=b v:=by
 rcases hW.cases e with h|⟨_,h,_⟩|⟨_,_,h,_⟩|⟨_,h,_⟩
 ·exact h
 ·rcases h.2 with q|q
  ·exact absurd d.symm q
  ·exact absurd a q.1
 ·exact absurd a h.1
 ·exact absurd h c
theorem QX {v:Nat} (c:v≠0) (h:¬gd par s b v):Ib par s b v:=by
 refine⟨c,?_⟩
 by_cases a:b (par v)=b v
 ·refine .inr ⟨λq=>h (.inr ⟨q,a.symm⟩),Decidable.not_not.1 λq=>h (.inl q)⟩
 ·exact .inl a
 include hT hW
theorem Il {v:Nat} (i:v<n) (g:v≠0) (x:par v=0∨gd par s b (par v)) (h:gd par s b v∨m v):gd par s' b' v:=by
 obtain⟨o,_⟩:=hT.up v i g;rcases hW.cases o with⟨d,k⟩|⟨_,t,d,_⟩|⟨_,_,w,d,k⟩|⟨_,u,_,d,_⟩
 ·unfold gd;rw[d,k];by_cases l:s (par v)=0
  ·right;have j:gd par s b v->s' v=0∧b' v=b (par v):=λh=>by
    rcases h with q|⟨a,c⟩
    ·exact absurd l q
    ·obtain⟨e,f⟩:=hW.rest i g a c;rw[e,f];exact⟨a,c⟩
   rcases h with h|h
   ·exact j h
   ·by_cases p:gd par s b v
    ·exact j p
    ·obtain⟨e,f⟩:=hW.take v i h (QX g p);rw[e,f];exact⟨l,rfl⟩
  ·exact .inl l
 ·left;rw[d];rcases x with q|q|⟨a,c⟩
  ·exact absurd q t.1
  ·exact q
  ·rcases t.2 with r|r
   ·exact absurd c.symm r
   ·exact absurd a r.1
 ·obtain⟨a,c⟩:=w.2 v i g Z;obtain⟨e,f⟩:=hW.rest i g a c;exact .inr ⟨by rw[e,a],by rw[f,k,c]⟩
 ·left;rw[u];exact d
theorem DO (h:AG n par s b):AG n par s' b':=λv c a=>by
 refine Il hT hW c a ?_ (.inl (h v c a));by_cases e:par v=0
 ·exact .inl e
 ·exact .inr (h _ (hT.up v c a).1 e)
 omit hW
theorem XC (h:AG n par s b) (g:s 0=0):Qt n s b:=by
 have c:∀k v,v<n->dp v=k->s v=0∧b v=b 0:=by
  intro k
  induction k with
  |zero=>
   intro v a i;by_cases e:v=0
   ·subst e;exact⟨g,rfl⟩
   ·have:=(hT.up v a e).2;omega
  |succ k o=>
   intro v a i;have e:v≠0:=λe=>by subst e;have:=hT.d0;omega
   obtain⟨l,j⟩:=hT.up v a e;obtain⟨d,f⟩:=o _ l (by omega);rcases h v a e with q|⟨p,r⟩
   ·exact absurd d q
   ·exact⟨p,by rw[r,f]⟩
 exact λv a=>c _ v a Z
 omit hT in
theorem Qt.ag (h:Qt n s b) (hT:RT n E par dp):AG n par s b:=λv a c=> .inr ⟨(h v a).1,by rw[(h v a).2,(h _ (hT.up v a c).1).2]⟩
 include hW
theorem Ec (h:AG n par s b) (d:s 0≠0):(s' 0=s 0∧b' 0=b 0)∨(m 0∧M_ n par s b 0∧s' 0=0∧b' 0=b 0∧Qt n s' b'):=by
 rcases hW.cases hT.n1 with e|⟨_,e,_⟩|⟨g,_,f,a,c⟩|⟨_,_,e,_⟩
 ·exact .inl e
 ·exact absurd Z e.1
 ·exact .inr ⟨g,f,a,c,XC hT (DO hT hW h) a⟩
 ·exact absurd e d
theorem Oh {j:Nat} (h:UY n dp b j) (f:b' 0=b 0):UY n dp b' j:=λv c d=>by
 rw[f];rcases hW.cases c with e|⟨_,g,_,e⟩|⟨_,_,_,_,e⟩|⟨_,e,_⟩
 ·rw[e.2];exact h v c d
 ·rw[e];obtain⟨a,i⟩:=hT.up v c g.1;exact h _ a (by omega)
 ·rw[e];exact h v c d
 ·rw[e,f]
theorem WZ {j v:Nat} (h:UY n dp b j) (k:b' 0=b 0) (f:v<n) (r:dp v<=j+1):(b v≠b 0->Ib par s b v)∧(b' v≠b' 0->b v≠b 0∧¬m v):=by
 have g:b v≠b 0->Ib par s b v:=λd=>by
  have e:v≠0:=λe=>d (by rw[e]);obtain⟨a,o⟩:=hT.up v f e;exact⟨e,.inl λq=>d (by rw[<-q];exact h _ a (by omega))⟩
 refine⟨g,λd=> ?_⟩
 rw[k]at d;have l:Ib par s b v->b (par v)=b 0:=λi=>by
  obtain⟨a,o⟩:=hT.up v f i.1;exact h _ a (by omega)
 have c:b v≠b 0:=λq=>d (by
  rcases hW.cases f with e|⟨_,i,_,e⟩|⟨_,_,_,_,e⟩|⟨_,e,_⟩
  ·rw[e.2,q]
  ·rw[e,l i]
  ·rw[e,q]
  ·rw[e,k])
 exact⟨c,λp=>d (by rw[(hW.take v f p (g c)).2,l (g c)])⟩
theorem Xd {i:Nat} (f:UY n dp b E) (h:Tu n E dp s i) (g:s 0≠0):Tu n E dp s' i:=λv c j=>by
 have d:=h v c j;have e:v≠0:=λe=>g (by rw[<-e];exact d);obtain⟨a,_⟩:=hT.up v c e;rw[(hW.rest c e d (by rw[f v c (hT.le v c),f _ a (hT.le _ a)])).1,d]
theorem Xc {i v:Nat} (t:AG n par s b) (u:UY n dp b E) (h:Tu n E dp s i) (d:v<n) (y:E<dp v+(i+1)):(s v≠0->M_ n par s b v)∧(s 0≠0->s' v≠0->s v≠0∧¬m v):=by
 have c:∀w,w<n->b w=b 0:=λw f=>u w f (hT.le w f);have o:s v≠0->M_ n par s b v:=λj=>⟨j,λw f l e=>by
  obtain⟨_,p⟩:=hT.up w f l;rw[e]at p;exact⟨h w f (by omega),by rw[c w f,c v d]⟩⟩
 refine⟨o,λl j=> ?_⟩
 have g:s v≠0:=λq=>j (by
  have e:v≠0:=λe=>l (by rw[<-e];exact q);obtain⟨a,_⟩:=hT.up v d e;rw[(hW.rest d e q (by rw[c v d,c _ a])).1,q])
 refine⟨g,λx=>j ?_⟩
 by_cases k:Ib par s b v
 ·obtain⟨a,_⟩:=hT.up v d k.1;rcases k.2 with q|q
  ·exact absurd (by rw[c v d,c _ a]) q
  ·rcases t v d k.1 with r|r
   ·exact absurd q.2 r
   ·exact absurd r.1 q.1
 ·exact(hW.fin v d x k (o g)).1
theorem ZH (I:AG n par s b) (h:CI n par s b) (G:b' 0=b 0):CI n par s' b':=λv j=>by
 rw[G]
 -- a child of a finished node stays as it is
 have y:∀w,w<n->w≠0->∀x,par w=x->b x=b 0->s w=0->b w=b 0->s' w=0∧b' w=b 0:=λw f d x e C D t=>by
  obtain⟨o,p⟩:=hW.rest f d D (by rw[e,t,C]);rw[o,p];exact⟨D,t⟩
 have k:∀w,w<n->w≠0->b (par w)≠b 0->b w≠b 0->b' w≠b 0:=λw f d C t=>by
  rcases hW.cases f with e|⟨_,_,_,e⟩|⟨_,_,_,_,e⟩|⟨_,e,_⟩
  ·rw[e.2];exact t
  ·rw[e];exact C
  ·rw[e];exact t
  ·exact absurd e d
 rcases hW.cases j with⟨l,i⟩|⟨_,u,l,i⟩|⟨_,_,F,l,i⟩|⟨_,e,J,l,i⟩
 ·refine⟨λc z w f d e=> ?_,λc=>⟨?_,λw f d e=> ?_⟩⟩
  ·rw[l]at z;rw[i]at c;obtain⟨o,p⟩:=(h v j).1 c z w f d e;exact y w f d v e c o p
  ·rw[l];rw[i]at c;exact((h v j).2 c).1
  ·rw[i]at c;exact k w f d (by rw[e];exact c) (((h v j).2 c).2 w f d e)
 ·obtain⟨H,_⟩:=hT.up v j u.1;have A:b (par v)≠b v:=u.2.resolve_right λq=>by
   rcases I v j u.1 with r|r
   ·exact r q.2
   ·exact q.1 r.1
  by_cases g:b (par v)=b 0
  ·have B:s (par v)≠0:=λq=>A (by rw[((h _ H).1 g q v j u.1 Z).2,g]);exact⟨λ_ z=>absurd (by rw[<-l];exact z) B,λc=>absurd (by rw[i];exact g) c⟩
  ·obtain⟨o,p⟩:=(h _ H).2 g;refine⟨λc=>absurd (by rw[<-i];exact c) g,λ_=>⟨by rw[l];exact o,λw f d e=> ?_⟩⟩
   have c:=p v j u.1 Z;exact k w f d (by rw[e];exact c) (((h v j).2 c).2 w f d e)
 ·have c:b v=b 0:=Decidable.not_not.1 λq=>F.1 ((h v j).2 q).1;refine⟨λ_ _ w f d e=> ?_,λq=>absurd (by rw[i];exact c) q⟩
  obtain⟨o,p⟩:=F.2 w f d e;exact y w f d v e c o (by rw[p,c])
 ·exact absurd G i
 omit hW
theorem Sa (h:CI n par s b) (o:M_ n par s b 0):∀v,v<n->v≠0->s v=0∧b v=b 0:=by
 have d:∀k v,v<n->v≠0->dp v=k->s v=0∧b v=b 0:=by
  intro k
  induction k with
  |zero=>intro v c a j;have:=(hT.up v c a).2;omega
  | succ k ih =>
   intro v c a j;obtain⟨f,l⟩:=hT.up v c a;by_cases e:par v=0
   ·exact o.2 v c a e
   ·obtain⟨g,i⟩:=ih _ f e (by omega);exact(h _ f).1 i g v c a Z
 exact λv c a=>d _ v c a Z
 include hW
theorem VU (h:Qt n s b) (k:s' 0≠0) (i:b' 0≠b 0):CI n par s' b'∧UY n dp b' 0∧AG n par s' b':=by
 have j:∀v,v<n->v≠0->s' v=0∧b' v=b 0:=λv c d=>by
  obtain⟨a,_⟩:=hT.up v c d;obtain⟨f,g⟩:=hW.rest c d (h v c).1 (by rw[(h v c).2,(h _ a).2]);rw[f,g];exact h v c
 refine⟨λv c=> ?_,λv c o=> ?_,DO hT hW (h.ag hT)⟩
 ·by_cases e:v=0
  ·subst e;exact⟨λ_ q=>absurd q k,λq=>absurd Z q⟩
  ·obtain⟨f,g⟩:=j v c e;refine⟨λq=>absurd (by rw[<-q,g]) i,λ_=>⟨f,λw l d _ q=>i ?_⟩⟩
   rw[<-q,(j w l d).2]
 ·by_cases e:v=0
  ·rw[e]
  ·have:=(hT.up v c e).2;omega
theorem aay (h:Qt n s b) (f:s' 0=s 0) (d:b' 0=b 0):Qt n s' b':=λv c=>by
 by_cases e:v=0
 ·subst e;exact⟨by rw[f];exact(h 0 c).1,rfl⟩
 ·obtain⟨a,_⟩:=hT.up v c e;obtain⟨g,i⟩:=hW.rest c e (h v c).1 (by rw[(h v c).2,(h _ a).2]);rw[g,i,d];exact h v c
end
end Go.Proofs.YtmdlcmbplnhdnaaGreatDoor
namespace Go.Proofs.YtmdlcmbplnhdnaaGreatDoor
open Go Go.Sx
structure TP (g:GR) (d:aP) (par fp:Nat->Nat):Prop where
 at_:∀v,v<g.2.length->v≠0->fp v<(row g v).length∧nL g d v (fp v:Int)∧(fY (row g v) (fp v)).1=(par v:Int)∧par v<g.2.length∧D d (par v)=D d v - 1
def Ep (g:GR) (d:aP) (c:bI):Prop:=∀v,v<g.2.length->DU c v=D d v∧nL g d v (GZ c v)
def sC (c:bI) (v:Nat):Int:=iB c v 2
def bC (c:bI) (v:Nat):Int:=iB c v 3
section
variable {g:GR} {d:List Int} {c:List (List Int)} (hV:VG g) (hD:qK g 0 d) (h0:∀v,v<g.2.length->0<=D d v)
 include hV
theorem GX {v i u:Nat} (f:v<g.2.length) (a:i<(row g v).length) (b:(fY (row g v) i).1=(u:Int)):zW (row g v) (u:Int)=(i:Int):=
 Hz i a b λk e=>by
  have:=((hV.node v f).links i a).2.2.2 k e;rwa[b]at this
 include hD h0
theorem afW:∃x y:Nat->Nat,TP g d x y:=by
 have n:∀v,∃u f:Nat,v<g.2.length->v≠0->f<(row g v).length∧nL g d v (f:Int)∧(fY (row g v) f).1=(u:Int)∧u<g.2.length∧D d u=D d v - 1:=λv=>by
  by_cases j:v<g.2.length∧v≠0
  ·obtain⟨j,l⟩:=j;have o:0<D d v:=by
    have:=h0 v j;have A:D d v≠0:=λe=>l ((hD.zero v j).1 e);omega
   obtain⟨G,C,⟨E,t,r⟩,s⟩:=hD.near v j o;obtain⟨m,F,h,w⟩:=FI (p:=λi=>i<(row g v).length∧at' d (fY (row g v) i).1=D d v - 1) E ⟨t,by rw[r];exact s⟩;obtain⟨u,B,q,_⟩:=hV.port j h.1;refine⟨u,m,λ_ _=>⟨h.1,.inl ⟨m,h.1,rfl,h.2,λk z e=>w k z ⟨by omega,e⟩⟩,q,B,?_⟩⟩
   have:=h.2;rw[q]at this;exact this
  ·exact⟨0,0,λa b=>absurd ⟨a,b⟩ j⟩
 refine⟨λv=>(n v).choose,λv=>(n v).choose_spec.choose,⟨λv j l=>(n v).choose_spec.choose_spec j l⟩⟩
 omit hV hD h0 in
theorem Lh {k:Nat} (h:Yt g d k c) (b:∀v,v<g.2.length->D d v<(k:Int)):Ep g d c:=λv a=>h.near v a (b v a)
theorem Iz (h:Ep g d c) {v:Nat} (e:v<g.2.length):ER g c v:=by
 obtain⟨a,b⟩:=afS hV hD h0 (λu f=>(h u f).1) e;exact⟨by rw[a];exact(h v e).1,(h v e).2.uniq b⟩
 omit h0 in
theorem Um (h0:∀v,v<g.2.length->0<=D d v) (h:∀v,v<g.2.length->0<=DU c v) (i:∀v,v<g.2.length->ER g c v):Ep g d c:=by
  have f:=hV.n24;have a:∀k:Nat,Yt g d k c:=by
   intro k
   induction k with
   |zero=>exact Li h0 h
   |succ k e=>exact Pn e λv b=>Ta hV hD h0 e b (i v b.1)
  exact Lh (a (g.2.length+1)) λv j=>by have:=hD.hi v j;omega
 omit h0 in
theorem Xz (h0:∀v,v<g.2.length->0<=D d v) (h:Ep g d c):GZ c 0 = -1:=by
  have k:=hV.n1;rcases(h 0 (by omega)).2 with⟨i,e,_,a,_⟩|⟨a,_⟩
  ·obtain⟨u,f,b,_⟩:=hV.port (v:=0) (by omega) e;rw[b]at a;have j:D d u=D d 0 - 1:=a;have:=(hD.zero 0 (by omega)).2 Z;have:=h0 u f;omega
  ·exact a
variable {par fp:Nat->Nat} (hP:TP g d par fp)
 include hP
theorem OO {E:Nat} (h:∀v,v<g.2.length->D d v<=(E:Int)):RT g.2.length E par (λv=>(D d v).toNat):=by
 have i:=hV.n1;refine⟨by omega,?_,λv e f=> ?_,λv e=> ?_⟩
 ·rw[(hD.zero 0 (by omega)).2 Z];rfl
 ·obtain⟨_,_,_,a,b⟩:=hP.at_ v e f;have:=h0 _ a;exact⟨a,by rw[b];omega⟩
 ·have:=h v e;omega
 omit hV hD h0 in
theorem JL (h:Ep g d c) {v:Nat} (b:v<g.2.length) (a:v≠0):GZ c v=(fp v:Int):=(h v b).2.uniq (hP.at_ v b a).2.1
theorem Iq (h:Ep g d c) {v i u:Nat} (r:v<g.2.length) (t:i<(row g v).length) (n:(fY (row g v) i).1=(u:Int)):MD g c v i 1=Cs g v i↔u≠0∧par u=v:=by
 obtain⟨w,j,p,l⟩:=hV.port r t;obtain rfl:u=w:=by omega
 obtain⟨k,o,m⟩:=hV.back r l;have s:Cs g v i=(k:Int):=by
  unfold Cs;rw[n,Int.toNat_natCast];exact GX hV j o m
 rw[vX n,s,show iB c u 1=GZ c u from rfl];constructor
 ·intro e;have f:u≠0:=λq=>by
   subst q;rw[Xz hV hD h0 h]at e;omega
  rw[JL hP h j f]at e;have:fp u=k:=by omega
  subst this;have:=(hP.at_ u j f).2.2.1;exact⟨f,by omega⟩
 ·rintro⟨f,e⟩;rw[JL hP h j f];obtain⟨a,_,b,_⟩:=hP.at_ u j f;rw[e]at b;have x:=GX hV j a b;have y:=GX hV j o m;omega
 omit hV hD h0 in
theorem XT (h:Ep g d c) {v:Nat} (f:v<g.2.length):(v≠0∧∃i:Nat,i<(row g v).length∧(i:Int)=iB c v 1∧(MD g c v i 3≠iB c v 3∨(iB c v 2≠0∧MD g c v i 2=0)))↔Ib par (sC c) (bC c) v:=by
  constructor
  ·rintro⟨e,i,k,l,j⟩;have:iB c v 1=(fp v:Int):=JL hP h f e;obtain rfl:i=fp v:=by omega
   have b:=(hP.at_ v f e).2.2.1;rw[vX b,vX b]at j;exact⟨e,j⟩
  ·rintro⟨e,j⟩;obtain⟨a,_,b,_⟩:=hP.at_ v f e;refine⟨e,fp v,a,(JL hP h f e).symm,?_⟩
   rw[vX b,vX b];exact j
theorem ZT (h:Ep g d c) {v:Nat} (o:v<g.2.length):(iB c v 2≠0∧∀i:Nat,i<(row g v).length->MD g c v i 1≠Cs g v i∨(MD g c v i 2=0∧MD g c v i 3=iB c v 3))↔M_ g.2.length par (sC c) (bC c) v:=by
 constructor
 ·rintro⟨n,p⟩;refine⟨n,λw r m e=> ?_⟩
  obtain⟨a,_,f,_⟩:=hP.at_ w r m;rw[e]at f;obtain⟨i,l,j⟩:=hV.back r ⟨fp w,a,f⟩;have s:=(Iq hV hD h0 hP h o l j).2 ⟨m,e⟩;have:=(p i l).resolve_left λq=>q s;rw[vX j,vX j]at this;exact this
 ·rintro⟨n,p⟩;refine⟨n,λi l=> ?_⟩
  obtain⟨u,t,k,_⟩:=hV.port o l;by_cases q:MD g c v i 1=Cs g v i
  ·obtain⟨a,b⟩:=(Iq hV hD h0 hP h o l k).1 q;refine .inr ?_;rw[vX k,vX k];exact p u t a b
  ·exact .inl q
 omit hV hD h0 in
theorem Pa (h:Ep g d c) {v:Nat} (q:v<g.2.length) (l:v≠0) (p:sU) (x:Nat) (s:iB c (par v) x=0∨iB c (par v) x=1):gA (aO p g) c v (.ag 21 (.bi 41 QK (.lf 12 x)))=iB c (par v) x:=by
  obtain⟨a,_,f,_⟩:=hP.at_ v q l;have r:iB c v 1=(fp v:Int):=JL hP h q l;have j:∀b:Bool,(b=true↔iB c (par v) x≠0)->zO b=iB c (par v) x:=λb j=>by
   rcases s with e|e
   ·rw[e]at j ⊢;have:b=false:=by cases b with|true=>exact absurd Z (j.1 Z)|false=>rfl
    rw[this];rfl
   ·rw[e]at j ⊢;rw[j.2 (by decide)];rfl
  have m:gA (aO p g) c v (.ag 21 (.bi 41 QK (.lf 12 x)))≠0↔iB c (par v) x≠0:=by
   unfold gA;rw[Jg];constructor
   ·rintro⟨i,t,k⟩;unfold QK at k;rw[vE,Jf]at k;have e:(i:Int)=iB c v 1:=k.1;obtain rfl:i=fp v:=by omega
    have o:MD g c v (fp v) x≠0:=k.2;rw[vX f]at o;exact o
   ·intro k;refine⟨fp v,a,?_⟩
    unfold QK;rw[vE,Jf];refine⟨r.symm,?_⟩
    show MD g c v (fp v) x≠0;rw[vX f];exact k
  have n:∃b:Bool,gA (aO p g) c v (.ag 21 (.bi 41 QK (.lf 12 x)))=zO b:=⟨_,rfl⟩
  obtain⟨b,e⟩:=n;rw[e];rw[e,sW]at m;exact j b m
end
def PC:List CG:=[(ByteArray.mk #[115],2,0,0,0,0),(ByteArray.mk #[98],2,0,0,0,0),(ByteArray.mk #[121],1,0,3,0,0),(ByteArray.mk #[114],2,0,0,0,0)]
def dQ:List CG:=rM++PC
def RW:List RL:=[(WC,[(2,.lf 2 0),(3,.un 19 (.lf 5 3)),(4,.lf 1 0),(5,.lf 3 0)]),
 (ZZ,[(2,.ag 21 (.bi 41 QK (.lf 12 2))),(3,.ag 21 (.bi 41 QK (.lf 12 3))),(4,.lf 1 0),(5,.lf 3 0)]),(Z_,[(2,.lf 3 0)]),(WH,[(5,.lf 2 0)])]
theorem IN:RS=RB++RW:=rfl
theorem aeP:∀r∈RW,∀s∈r.2,2<=s.1:=by decide
theorem aiF {l:aP} (h:l.length=6):l=[at' l 0,at' l 1,at' l 2,at' l 3,at' l 4,at' l 5]:=by
 match l,h with
 | [a,b,c,d,e,f],_=>rfl
theorem sX {k a b x:Int} (h:a<=x∧x<=b):lZ k (a,b) x=x:=CX h.1 h.2
section
variable {p:sU} {g:GR} {c:List (List Int)} {v t:Nat}
theorem Ut (a:Au g c dQ) (b:v<g.2.length):(iB c v 2=0∨iB c v 2=1)∧(iB c v 3=0∨iB c v 3=1)∧(0<=iB c v 4∧iB c v 4<=3)∧(iB c v 5=0∨iB c v 5=1):=by
 have f:=a.ok v b 2 (by decide);have h:=a.ok v b 3 (by decide);have i:=a.ok v b 4 (by decide);have j:=a.ok v b 5 (by decide);have k:0<=iB c v 2∧iB c v 2<=1:=f;have l:0<=iB c v 3∧iB c v 3<=1:=h;have d:0<=iB c v 4∧iB c v 4<=hi g (at' dQ ((4:Nat):Int)) v:=i;have e:hi g (at' dQ ((4:Nat):Int)) v=3:=by
  show(3:Int)+0*(g.2.length:Int)+0*jT g g.1.length=3;omega
 rw[e]at d;have m:0<=iB c v 5∧iB c v 5<=1:=j;omega
theorem afg (g:GR) (v:Nat):lR g dQ v 2=(0,1)∧lR g dQ v 3=(0,1)∧lR g dQ v 4=(0,3)∧lR g dQ v 5=(0,1):=by
 refine⟨rfl,rfl,?_,rfl⟩
 show((0:Int),(3:Int)+0*(g.2.length:Int)+0*jT g g.1.length)=(0,3)
 congr 1;omega
theorem afG (o:Au g c dQ) (q:v<g.2.length):
  kO (aO p g) dQ RW c v 0=[iB c v 0,iB c v 1,1,zO (decide (iB c v 3=0)),0,0]∧
  (∀s b,gA (aO p g) c v (.ag 21 (.bi 41 QK (.lf 12 2)))=s->gA (aO p g) c v (.ag 21 (.bi 41 QK (.lf 12 3)))=b->0<=s∧s<=1->0<=b∧b<=1->kO (aO p g) dQ RW c v 1=[iB c v 0,iB c v 1,s,b,0,0])∧
  kO (aO p g) dQ RW c v 2=[iB c v 0,iB c v 1,0,iB c v 3,iB c v 4,iB c v 5]∧
  kO (aO p g) dQ RW c v 3=[iB c v 0,iB c v 1,iB c v 2,iB c v 3,iB c v 4,1]:=by
 have a:(at' c (v:Int)).length=6:=o.row v q;have d:=aiF a;obtain⟨e,h,i,f⟩:=afg g v;have r:kO (aO p g) dQ RW c v 0=((((at' c (v:Int)).set 2 (lZ 2 (lR g dQ v 2) 1)).set 3 (lZ 2 (lR g dQ v 3) (zO (decide (iB c v 3=0))))).set 4 (lZ 1 (lR g dQ v 4) 0)).set 5 (lZ 2 (lR g dQ v 5) 0):=rfl;have u:kO (aO p g) dQ RW c v 1=((((at' c (v:Int)).set 2 (lZ 2 (lR g dQ v 2) (gA (aO p g) c v (.ag 21 (.bi 41 QK (.lf 12 2)))))).set 3 (lZ 2 (lR g dQ v 3) (gA (aO p g) c v (.ag 21 (.bi 41 QK (.lf 12 3)))))).set 4 (lZ 1 (lR g dQ v 4) 0)).set 5 (lZ 2 (lR g dQ v 5) 0):=rfl;have w:kO (aO p g) dQ RW c v 2=(at' c (v:Int)).set 2 (lZ 2 (lR g dQ v 2) 0):=rfl;have x:kO (aO p g) dQ RW c v 3=(at' c (v:Int)).set 5 (lZ 2 (lR g dQ v 5) 1):=rfl;have n:∀b:Bool,0<=zO b∧zO b<=1:=λb=>by cases b<;>decide
 refine⟨?_,λs b j k l m=> ?_,?_,?_⟩
 ·rw[r,e,h,i,f,sX (by omega),sX (n _),sX (by omega),sX (by omega),d];rfl
 ·rw[u,e,h,i,f,j,k,sX l,sX m,sX (by omega),sX (by omega),d];rfl
 ·rw[w,e,sX (by omega),d];rfl
 ·rw[x,f,sX (by omega),d];rfl
variable {d:List Int} (hV:VG g) (hD:qK g 0 d) (h0:∀v,v<g.2.length->0<=D d v) {par fp:Nat->Nat} (hP:TP g d par fp)
 include hV hD h0 hP
theorem enS (G:Ep g d c) (o:v<g.2.length):(0<=dD (aO p g) RW c v↔(v=0∧iB c v 2=0∧iB c v 5≠0)∨Ib par (sC c) (bC c) v∨M_ g.2.length par (sC c) (bC c) v∨(iB c v 2=0∧iB c v 5=0∧∃w,w<g.2.length∧w≠0∧par w=v∧iB c w 5≠0∧iB c w 2=0))∧
  ((v=0∧iB c v 2=0∧iB c v 5≠0)->dD (aO p g) RW c v=0)∧(Ib par (sC c) (bC c) v->dD (aO p g) RW c v=1)∧(¬Ib par (sC c) (bC c) v->M_ g.2.length par (sC c) (bC c) v->dD (aO p g) RW c v=2)∧
  (¬(v=0∧iB c v 2=0∧iB c v 5≠0)->¬Ib par (sC c) (bC c) v->¬M_ g.2.length par (sC c) (bC c) v->0<=dD (aO p g) RW c v->dD (aO p g) RW c v=3):=by
 have C:=WE (p:=p) (g:=g) (c:=c) (v:=v);have F:=(WF (p:=p) (g:=g) (c:=c) (v:=v)).trans (XT hP G o);have H:=(WG (p:=p) (g:=g) (c:=c) o).trans (ZT hV hD h0 hP G o);have M:gA (aO p g) c v WH≠0↔(iB c v 2=0∧iB c v 5=0∧∃w,w<g.2.length∧w≠0∧par w=v∧iB c w 5≠0∧iB c w 2=0):=by
  rw[WI o];constructor
  ·rintro⟨⟨x,f⟩,i,k,⟨b,y⟩,l⟩;obtain⟨u,Q,z,_⟩:=hV.port o k;obtain⟨r,s⟩:=(Iq hV hD h0 hP G o k z).1 b;rw[vX z]at y l;exact⟨x,f,u,Q,r,s,y,l⟩
  ·rintro⟨x,f,w,N,A,e,y,l⟩;obtain⟨a,_,m,_⟩:=hP.at_ w N A;rw[e]at m;obtain⟨i,k,n⟩:=hV.back N ⟨fp w,a,m⟩;exact⟨⟨x,f⟩,i,k,⟨(Iq hV hD h0 hP G o k n).2 ⟨A,e⟩,by rw[vX n];exact y⟩,by rw[vX n];exact l⟩
 have P:∀{e:E},¬gA (aO p g) c v e≠0->gA (aO p g) c v e=0:=λh=>Decidable.not_not.1 h;have J:(v=0∧iB c v 2=0∧iB c v 5≠0)->dD (aO p g) RW c v=0:=λh=>Dn (i:=0) (by decide) (C.2 ⟨⟨h.1,h.2.1⟩,h.2.2⟩) λj I=>by omega
 have O:¬(v=0∧iB c v 2=0∧iB c v 5≠0)->gA (aO p g) c v WC=0:=λh=>P λq=>h (by obtain⟨⟨r,s⟩,B⟩:=C.1 q;exact⟨r,s,B⟩);have K:Ib par (sC c) (bC c) v->dD (aO p g) RW c v=1:=λh=>Dn (i:=1) (by decide) (F.2 h) λj I=>by
  obtain rfl:j=0:=by omega
  exact O λq=>h.1 q.1
 have L:¬Ib par (sC c) (bC c) v->M_ g.2.length par (sC c) (bC c) v->dD (aO p g) RW c v=2:=λb h=>Dn (i:=2) (by decide) (H.2 h) λj I=>by
  match j,I with
  |0,_=>exact O λq=>h.1 q.2.1
  |1,_=>exact P λq=>b (F.1 q)
 refine⟨⟨λh=> ?_,λh=> ?_⟩,J,K,L,λf b y h=> ?_⟩
 ·obtain⟨i,x,f,b⟩:=(Ah (aO p g) RW c v).resolve_left (λe=>by omega);have f:i<4:=f
  match i,f with
  |0,_=>obtain⟨⟨r,s⟩,B⟩:=C.1 b;exact .inl ⟨r,s,B⟩
  |1,_=>exact .inr (.inl (F.1 b))
  |2,_=>exact .inr (.inr (.inl (H.1 b)))
  |3,_=>exact .inr (.inr (.inr (M.1 b)))
 ·by_cases b:Ib par (sC c) (bC c) v
  ·rw[K b];decide
  ·rcases h with h|h|h|h
   ·rw[J h];decide
   ·exact absurd h b
   ·rw[L b h];decide
   ·refine Decidable.not_not.1 λq=> ?_;rcases Ah (aO p g) RW c v with e|⟨i,e,_⟩
    ·exact M.2 h (EU.1 e 3 (by decide))
    ·omega
 ·obtain⟨i,x,k,l⟩:=(Ah (aO p g) RW c v).resolve_left (λe=>by omega);have k:i<4:=k
  match i,k with
  |0,_=>obtain⟨⟨r,s⟩,B⟩:=C.1 l;exact absurd ⟨r,s,B⟩ f
  |1,_=>exact absurd (F.1 l) b
  |2,_=>exact absurd (H.1 l) y
  |3,_=>exact x
end
def yC (c:bI) (v:Nat):Int:=iB c v 4
def rC (c:bI) (v:Nat):Int:=iB c v 5
def MvS (n:Nat) (a:Nat->Nat) (c b:bI) (v:Nat):Prop:=
 (v=0∧sC c 0=0∧rC c 0≠0∧sC b v≠0∧bC b v≠bC c v∧yC b v=0∧rC b v=0)∨
 (Ib a (sC c) (bC c) v∧sC b v=sC c (a v)∧bC b v=bC c (a v)∧yC b v=0∧rC b v=0)∨
 (¬Ib a (sC c) (bC c) v∧M_ n a (sC c) (bC c) v∧sC b v=0∧bC b v=bC c v∧yC b v=yC c v∧rC b v=rC c v)∨
 (¬Ib a (sC c) (bC c) v∧¬M_ n a (sC c) (bC c) v∧¬(v=0∧sC c 0=0∧rC c 0≠0)∧(sC c v=0∧rC c v=0∧∃w,w<n∧w≠0∧a w=v∧rC c w≠0∧sC c w=0)∧sC b v=sC c v∧bC b v=bC c v∧yC b v=yC c v∧rC b v≠0)
structure StS (n:Nat) (par:Nat->Nat) (c:bI) (t:Nat) (c':bI):Prop where
 stay:∀v,v<n->t.testBit v=false->sC c' v=sC c v∧bC c' v=bC c v∧yC c' v=yC c v∧rC c' v=rC c v
 move:∀v,v<n->t.testBit v=true->MvS n par c c' v
def CL (n:Nat) (a:Nat->Nat) (c:bI):Prop:=CI n a (sC c) (bC c)∧∀v,v<n->bC c v=bC c 0->rC c v=0∧yC c v=0
section
variable {n E:Nat} {par dp:Nat->Nat} {c c':List (List Int)} {t:Nat}
theorem StS.ws (h:StS n par c t c'):WS n par (λv=>t.testBit v=true) (sC c) (bC c) (sC c') (bC c'):=by
 refine⟨λv g d=> ?_,λv g d f=> ?_,λv g d f i=> ?_,λv g d f i=> ?_⟩
 ·obtain⟨a,b,_⟩:=h.stay v g (by simpa using d);exact⟨a,b⟩
 ·rcases h.move v g d with q|q|q|q
  ·exact absurd q.1 f.1
  ·exact⟨q.2.1,q.2.2.1⟩
  ·exact absurd f q.1
  ·exact absurd f q.1
 ·rcases h.move v g d with q|q|q|q
  ·have:=q.2.1;rw[<-q.1]at this;exact absurd this i.1
  ·exact absurd q.1 f
  ·exact⟨q.2.2.1,q.2.2.2.1⟩
  ·exact absurd i q.2.1
 ·rcases h.move v g d with q|q|q|q
  ·obtain⟨rfl,a,_,b,e,_⟩:=q;exact .inr ⟨rfl,a,b,e⟩
  ·exact absurd q.1 f
  ·exact absurd q.2.1 i
  ·exact .inl ⟨q.2.2.2.2.1,q.2.2.2.2.2.1⟩
variable (hT:RT n E par dp) (h:StS n par c t c')
 include hT h
theorem Ig (m:AG n par (sC c) (bC c)) (p:sC c 0≠0) (f:CL n par c) (j:bC c' 0=bC c 0):CL n par c':=by
 have o:=h.ws;refine⟨ZH hT o m f.1 j,λv g d=> ?_⟩
 rw[j]at d;cases k:t.testBit v with
 |false=>
  obtain⟨_,a,b,e⟩:=h.stay v g k;rw[b,e];rw[a]at d;exact f.2 v g d
 | true =>
  rcases h.move v g k with q|q|q|q
  ·exact absurd q.2.1 p
  ·exact⟨q.2.2.2.2,q.2.2.2.1⟩
  ·obtain⟨_,_,_,a,b,e⟩:=q;rw[b,e];rw[a]at d;exact f.2 v g d
  ·obtain⟨_,_,_,⟨r,u,w,l,i,e,s,_⟩,_,a,_⟩:=q;rw[a]at d;have:=((f.1 v g).1 d r w l i e).2;exact absurd (f.2 w l this).1 s
theorem If (d:CL n par c) (o:M_ n par (sC c) (bC c) 0) (r:t.testBit 0=true):∀v,v<n->rC c' v=0∧yC c' v=0:=by
 have k:=Sa hT d.1 o;intro v a;have f:bC c v=bC c 0:=by
  by_cases e:v=0
  ·rw[e]
  ·exact(k v a e).2
 obtain⟨i,j⟩:=d.2 v a f;cases l:t.testBit v with
 |false=>
  obtain⟨_,_,b,e⟩:=h.stay v a l;rw[b,e];exact⟨i,j⟩
 | true =>
  rcases h.move v a l with q|q|q|q
  ·exact⟨q.2.2.2.2.2.2,q.2.2.2.2.2.1⟩
  ·exact⟨q.2.2.2.2,q.2.2.2.1⟩
  ·obtain⟨_,_,_,_,b,e⟩:=q;rw[b,e];exact⟨i,j⟩
  ·obtain⟨_,s,_,⟨u,x,w,m,g,e,p,_⟩,_⟩:=q;exact absurd (d.2 w m (k w m g).2).1 p
theorem Iu (f:Qt n (sC c) (bC c)):(t.testBit 0=true∧rC c 0≠0∧sC c' 0≠0∧bC c' 0≠bC c 0∧CL n par c'∧UY n dp (bC c') 0∧AG n par (sC c') (bC c'))∨
  (Qt n (sC c') (bC c')∧(t.testBit 0=true->rC c 0=0)∧∀v,v<n->(rC c v≠0->rC c' v≠0)∧(t.testBit v=true->rC c' v≠0)):=by
 have m:=h.ws;have j:=hT.n1;have u:∀v,v<n->¬Ib par (sC c) (bC c) v:=λv d q=>by
  obtain⟨a,_⟩:=hT.up v d q.1;rcases q.2 with r|r
  ·exact r (by rw[(f v d).2,(f _ a).2])
  ·exact r.1 (f v d).1
 have s:∀v,v<n->¬M_ n par (sC c) (bC c) v:=λv d q=>q.1 (f v d).1;by_cases i:t.testBit 0=true∧rC c 0≠0
 ·left;obtain⟨k,p⟩:=i;rcases h.move 0 j k with q|q|q|q
  ·obtain⟨_,_,_,w,o,x,y⟩:=q;obtain⟨a,b,e⟩:=VU hT m f w o;refine⟨k,p,w,o,⟨a,λv d i=> ?_⟩,b,e⟩
   by_cases l:v=0
   ·subst l;exact⟨y,x⟩
   ·obtain⟨a,_⟩:=hT.up v d l;have:=(m.rest d l (f v d).1 (by rw[(f v d).2,(f _ a).2])).2;rw[this,(f v d).2]at i;exact absurd i.symm o
  ·exact absurd q.1 (u 0 j)
  ·exact absurd q.2.1 (s 0 j)
  ·exact absurd ⟨rfl,(f 0 j).1,p⟩ q.2.2.1
 ·right;have g:∀v,v<n->sC c' v=sC c v∧bC c' v=bC c v∧(rC c v≠0->rC c' v≠0)∧(t.testBit v=true->rC c' v≠0):=λv d=>by
   cases k:t.testBit v with
   |false=>
    obtain⟨a,b,_,e⟩:=h.stay v d k;exact⟨a,b,λq=>by rw[e];exact q,λq=>by cases q⟩
   | true =>
    rcases h.move v d k with q|q|q|q
    ·obtain⟨rfl,_,q,_⟩:=q;exact absurd ⟨k,q⟩ i
    ·exact absurd q.1 (u v d)
    ·exact absurd q.2.1 (s v d)
    ·obtain⟨_,_,_,_,a,b,_,e⟩:=q;exact⟨a,b,λ_=>e,λ_=>e⟩
  refine⟨aay hT m f (g 0 j).1 (g 0 j).2.1,λq=>Decidable.not_not.1 λr=>i ⟨q,r⟩,λv d=>(g v d).2.2⟩
end
theorem XP {p:sU} {g:GR} {d:List Int} {c:List (List Int)} {a M:Nat->Nat} {t:Nat} (C:VG g) (B:qK g 0 d) (A:∀v,v<g.2.length->0<=D d v) (n:TP g d a M) (s:Au g c dQ) (o:Ep g d c)
  (w:∀v,t.testBit v=true->v<g.2.length∧0<=dD (aO p g) RS c v):StS g.2.length a c t (gT (aO p g) dQ RS c t):=by
 have l:=s.len;refine⟨λv f r=> ?_,λv f r=> ?_⟩
 ·have e:at' (gT (aO p g) dQ RS c t) (v:Int)=at' c (v:Int):=by rw[Aj (by rw[l];exact f),if_neg (by rw[r];decide)]
  unfold sC bC yC rC iB;rw[e];exact⟨rfl,rfl,rfl,rfl⟩
 ·obtain⟨_,O⟩:=w v r;obtain⟨m,K⟩:=Ot (p:=p) (W:=PC) (R':=RW) (Iz C B A o f) (by rw[<-IN];exact O);have e:at' (gT (aO p g) dQ RS c t) (v:Int)=kO (aO p g) dQ RW c v (dD (aO p g) RW c v):=by
   rw[Aj (by rw[l];exact f),if_pos r];exact K
  obtain⟨L,G,H,I,J⟩:=enS (p:=p) C B A n o f;obtain⟨Q,R,S,T⟩:=afG (p:=p) s f;have u:sC (gT (aO p g) dQ RS c t) v=at' (kO (aO p g) dQ RW c v (dD (aO p g) RW c v)) 2∧bC (gT (aO p g) dQ RS c t) v=at' (kO (aO p g) dQ RW c v (dD (aO p g) RW c v)) 3∧yC (gT (aO p g) dQ RS c t) v=at' (kO (aO p g) dQ RW c v (dD (aO p g) RW c v)) 4∧rC (gT (aO p g) dQ RS c t) v=at' (kO (aO p g) dQ RW c v (dD (aO p g) RW c v)) 5:=by
   unfold sC bC yC rC iB;rw[e];exact⟨rfl,rfl,rfl,rfl⟩
  unfold MvS;rw[u.1,u.2.1,u.2.2.1,u.2.2.2];by_cases i:v=0∧iB c v 2=0∧iB c v 5≠0
  ·left;rw[G i,Q];obtain⟨rfl,y,z⟩:=i;refine⟨rfl,y,z,show(1:Int)≠0 by decide,?_,rfl,rfl⟩
   show zO (decide (iB c 0 3=0))≠iB c 0 3;rcases(Ut s f).2.1 with q|q<;>rw[q]<;>decide
  ·by_cases b:Ib a (sC c) (bC c) v
   ·right;left;obtain⟨P,_⟩:=(n.at_ v f b.1).2.2.2;obtain⟨E,F,_⟩:=Ut s P;have k:∀x:Nat,iB c (a v) (x:Int)=0∨iB c (a v) (x:Int)=1->0<=iB c (a v) (x:Int)∧iB c (a v) (x:Int)<=1:=λx h=>by omega
    rw[H b,R _ _ (Pa n o f b.1 p 2 E) (Pa n o f b.1 p 3 F) (k 2 E) (k 3 F)];exact⟨b,rfl,rfl,rfl,rfl⟩
   ·right;right;by_cases j:M_ g.2.length a (sC c) (bC c) v
    ·left;rw[I b j,S];exact⟨b,j,rfl,rfl,rfl,rfl⟩
    ·right;have N:=(L.1 m).resolve_left i |>.resolve_left b |>.resolve_left j;rw[J i b j m,T];refine⟨b,j,λq=>i ?_,N,rfl,rfl,rfl,show(1:Int)≠0 by decide⟩
     obtain⟨rfl,y,z⟩:=q;exact⟨rfl,y,z⟩
structure YO {I C:Type} (idx:I->Nat) (last:Nat) (Ph:I->C->Prop) (T:I->C->Nat->Prop) (en:C->Nat) (St:C->Nat->C->Prop):Prop where
 le:∀i c,Ph i c->idx i<=last
 adv:∀i c,Ph i c->idx i<last->(∀v,¬T i c v)->∃i',idx i<idx i'∧Ph i' c
 en:∀i c v,Ph i c->T i c v->(en c).testBit v=true
 step:∀i c t c',Ph i c->St c t c'->∃i',Ph i' c'∧(idx i<idx i'∨(i'=i∧∀v,T i c' v->T i c v∧t.testBit v=false))
def xS {I C:Type} (a:I->Nat) (b:Nat) (d:I->C->Prop) (T:I->C->Nat->Prop) (R e:Nat) (c:C):Prop:=∃i,d i c∧(a i=b∨R<a i∨(R=a i∧∀v,T i c v->e.testBit v=true))
section
variable {I C:Type} {idx:I->Nat} {last:Nat} {Ph:I->C->Prop} {T:I->C->Nat->Prop} {en:C->Nat} {St:C->Nat->C->Prop} {c c':C} {R pe pe' t:Nat}
theorem xS.start (h:YO idx last Ph T en St) {i:I} (a:Ph i c):xS idx last Ph T 0 (en c) c:=by
 refine⟨i,a,?_⟩
 rcases Nat.eq_zero_or_pos (idx i)with e|e
 ·exact .inr (.inr ⟨e.symm,λv b=>h.en i c v a b⟩)
 ·exact .inr (.inl e)
theorem xS.next (h:YO idx last Ph T en St) (n:xS idx last Ph T R pe c) (q:St c t c') (g:∀v,pe'.testBit v=(pe.testBit v && !t.testBit v&&(en c').testBit v)):xS idx last Ph T R pe' c':=by
 obtain⟨i,l,j⟩:=n;obtain⟨r,d,f⟩:=h.step i c t c' l q;refine⟨r,d,?_⟩
 have p:=h.le _ _ d;have k:=h.le _ _ l;rcases f with f|⟨rfl,f⟩
 ·rcases j with e|e|⟨e,_⟩
  ·omega
  ·exact .inr (.inl (by omega))
  ·exact .inr (.inl (by omega))
 ·rcases j with e|e|⟨e,o⟩
  ·exact .inl e
  ·exact .inr (.inl e)
  ·refine .inr (.inr ⟨e,λv m=> ?_⟩);obtain⟨a,b⟩:=f v m;rw[g,o v a,b,h.en _ _ v d m];rfl
theorem xS.round (h:YO idx last Ph T en St) (g:xS idx last Ph T R 0 c):xS idx last Ph T (R+1) (en c) c:=by
 obtain⟨i,a,k⟩:=g;rcases k with e|e|⟨e,j⟩
 ·exact⟨i,a,.inl e⟩
 ·refine⟨i,a,?_⟩
  by_cases q:R+1=idx i
  ·exact .inr (.inr ⟨q,λv b=>h.en i c v a b⟩)
  ·exact .inr (.inl (by omega))
 ·by_cases q:idx i=last
  ·exact⟨i,a,.inl q⟩
  ·have l:=h.le _ _ a;obtain⟨d,m,f⟩:=h.adv i c a (by omega) λv b=>by have:=j v b;rw[Nat.zero_testBit]at this;cases this
   refine⟨d,f,?_⟩
   by_cases q:R+1=idx d
   ·exact .inr (.inr ⟨q,λv b=>h.en d c v f b⟩)
   ·exact .inr (.inl (by omega))
theorem xS.done (h:YO idx last Ph T en St) (b:xS idx last Ph T R pe c) (d:last<=R):∃i,Ph i c∧idx i=last:=by
 obtain⟨i,a,e⟩:=b;have:=h.le _ _ a;exact⟨i,a,by omega⟩
theorem YO.shift (h:YO idx last Ph T en St) (b:Nat):YO (λi=>idx i - b) (last - b) (λi c=>Ph i c∧b<=idx i) T en St:=by
 refine⟨λi c d=>by have:=h.le i c d.1;omega,λi c d l g=> ?_,λi c v d k=>h.en i c v d.1 k,λi c t c' d j=> ?_⟩
 ·obtain⟨e,a,f⟩:=h.adv i c d.1 (by omega) g;exact⟨e,by have:=d.2;omega,f,by have:=d.2;omega⟩
 ·obtain⟨e,a,f⟩:=h.step i c t c' d.1 j;rcases f with q|⟨rfl,q⟩
  ·exact⟨e,⟨a,by have:=d.2;omega⟩,.inl (by have:=d.2;omega)⟩
  ·exact⟨e,⟨a,d.2⟩,.inr ⟨rfl,q⟩⟩
theorem EF (h:YO idx last Ph T en St) (s:xS idx last Ph T R pe c) (w:St c t c') {k:Nat} {f b:CT} {B:Nat} (u:Bf k f R B pe) (v:k<900) (x:t<16777216) (r:t≠0) (n:en c'<16777216) {m:Int} (g:fI 1000 f (t:Int) (en c':Int)=some (b,m)):
  ∃l q pe',Bf (k+1) b l q pe'∧xS idx last Ph T l pe' c'∧(t=pe->l=R+1∧pe'=en c'):=by
 obtain⟨pe',j,d⟩:=u.add v x r n g;have p:=xS.next h s w j;rcases d with⟨o,a⟩|⟨o,a⟩
 ·subst o;exact⟨R+1,R+1,_,a,xS.round h p,λ_=>⟨rfl,rfl⟩⟩
 ·refine⟨R,R+1,pe',a,p,λe=>absurd (Nat.eq_of_testBit_eq λi=> ?_) o⟩
  rw[j,<-e,Nat.zero_testBit];cases t.testBit i<;>rfl
end
end Go.Proofs.YtmdlcmbplnhdnaaGreatDoor
namespace Go.Proofs.YtmdlcmbplnhdnaaGreatDoor
open Go.Sx
def pY  (a:Bool):Option (Bool):=
 some (a)
def vM (U:Nat) (a:Int):Option (Bool):=
 if(1:Int)<=a then(pY  (decide (a<=(4:Int))))else(pY  (false))
theorem acn:aT Tryz.prog 78:=Tryz.call78
theorem JP (U:Nat) {b:Int} (r:Bool) (h:vM U b=some r):
  aY Tryz.prog 78 #[vI (b)] [] (λx:Unit=>vB (r)) (λx l=>l) (λ_ l=>l):=by
 refine aY.of Tryz.func78 Z Tryz.ntmps78 Z λc=>?_;refine aU<|aD Z<|aM<|aJ<|fF (λa=>pY  a=some r) (λa d=>[(2,vB (a))]) (λa d=>[]) ?_ ?_
 ·refine aR<|aA Z<|aC (Hn Z Z) Z<|aA Z ?_;refine EN h Z (λ_ h=>?_) λ_ h=>?_
  ·refine eX Z<|aW Z (Cr Z Z) Z<|fK Z<|aD Z<|aM ?_;exact jP (decide (b<=(4:Int))) () h SF Z
  refine aN Z<|aN Z<|iL Z<|aD Z<|aM ?_;exact jP (false) () h SF Z
 intro a d h;unfold pY at h;refine aS ?_;cases h;exact lI Z
def xY (U:Nat) (a:Bc) (b:cQ) (d:Int) (e:bI) (f:Int):Option (Int):=
 Option.bind (rB U ((a.1,a.2.1,a.2.2)) ((b.1,b.2)) e) λc=>(if c≠(0:Int)then(some (c))else(Option.bind (vM U d) λg=>(if(!g)=true then(some (12:Int))else(if(4096:Int)<f then(some (3:Int))else(some (0:Int))))))
theorem ace:aT Tryz.prog 50:=Tryz.call50
theorem Pk (U:Nat) {a:Bc} {g:cQ} {j:Int} {k:bI} {m:Int} (b:Value)  (d:Value)  (e:Value)  (f:Value)  (n:mZ)  (i:Value)  (o:sD) (r:Int) (h:xY U a g j k m=some r):
  aY Tryz.prog 50 #[Value.agg #[vS (a.1),b,d],Value.agg #[e,f],vI (j),i,vI (m)] [Sl aQ b a.2.1,Sl aH d a.2.2,PF (Value.agg #[vS a.1,b,d]),Sl bP e g.1,S2 bA f n g.2,S2 bP i o k] (λx:Unit=>vI (r)) (λx l=>l) (λ_ l=>l):=by
 refine aY.of Tryz.func50 Z Tryz.ntmps50 Z λc=>?_;refine aU<|aG (aL.box (cs:=[vS (a.1),b,d]) Z Z) Z λu=>aG (aL.box (cs:=[e,f]) Z Z) Z λv=>aD Z<|aM<|aJ<|aU<|fG 1 Z<|fG 0 Z<|aA Z<|fN h λp s h=>aG (aL.callQ acj (JU U b d e f n i o p s) Z (qB [0,1,2,3,4,5] Z)) Z λw=>aD Z<|aM<|aU<|aA Z<|pI Z<|aM ?_;refine fC h Z (λh=>?_) λh=>?_
 ·refine aU<|aA Z<|aD Z<|aM<|aS<|aI ?_;cases h;exact vZ Z
 refine cV<|aJ<|aU<|aA Z<|fN h λq t h=>aG (aL.callQ acn (JP U  q t) Z .nil) Z λy=>aC (sV Z) Z<|aM ?_;refine Bm h Z (λ_ h=>?_) λ_ h=>?_
 ·refine aU<|aD Z<|aM<|aS<|aI ?_;cases h;exact vZ Z
 refine cV<|aJ<|aU<|aA Z<|aC (wL Z Z) Z<|aM ?_;refine fC h Z (λh=>?_) λh=>?_
 ·refine aU<|aD Z<|aM<|aS<|aI ?_;cases h;exact vZ Z
 refine cV<|aU<|aD Z<|aM<|aS ?_;cases h;exact vZ Z
def tR (U:Nat) (a:Int):Option ((Int×Int×Int×Int×Int)):=
 some (((0:Int),(0:Int),(0:Int),(0:Int),(dK .u32 a (16777215:Int))))
theorem Ze:aT Tryz.prog 111:=Tryz.call111
theorem HO (U:Nat) {a:Int} (r:(Int×Int×Int×Int×Int)) (h:tR U a=some r):
  aY Tryz.prog 111 #[vU (a)] [] (λx:Unit=>Value.agg #[vI (r.1),vI (r.2.1),vI (r.2.2.1),vI (r.2.2.2.1),vU (r.2.2.2.2)]) (λx l=>l) (λ_ l=>l):=by
 refine aY.of Tryz.func111 Z Tryz.ntmps111 Z λc=>?_;unfold tR at h;refine aU<|aG (aL.alloc (cs:=vD2) Z Z) Z λb=>aM<|aU<|aA Z<|yR Z ?_;refine aC (Vk (r:=Value.agg #[vI (0:Int),vI (0:Int),vI (0:Int),vI (0:Int),vU (dK .u32 a (16777215:Int))]) Z (by intro w;simp[Instr.build,Instr.fill,eL,dU,dC,eM,eN,dV,f_])) Z ?_;refine bQ 0 (vs:=[vI (0:Int),vI (0:Int),vI (0:Int),vI (0:Int),vU (dK .u32 a (16777215:Int))]) Z Z Z Z Z Z<|aM<|aS ?_;cases h;exact iI () Z Z (RV.cell 0 Z Z Z Z) .nil aF.nil
end Go.Proofs.YtmdlcmbplnhdnaaGreatDoor
namespace Go.Proofs.YtmdlcmbplnhdnaaGreatDoor
open Go Go.Sx
def dY (g:GR):Nat:=2^g.2.length - 1
theorem YW {g:GR} (b:VG g):dY g<4294967296:=by
 have a:=b.n24;have:(2:Nat)^g.2.length<=2^24:=Nat.pow_le_pow_right (by omega) a;unfold dY;omega
inductive SR where
 |tree (k:Nat)
 |good (k:Nat)
 |lev (cl:Bool) (k:Nat)
 |low (cl:Bool) (k:Nat)
 |ask (k u:Nat)
 |done
def zU (E:Nat):SR->Nat
 | .tree k=>k
 | .good k=>E+1+k
 | .lev false k=>2*E+1+k
 | .low false k=>3*E+1+k
 | .ask k _=>4*E+2+k
 | .lev true k=>5*E+3+k
 | .low true k=>6*E+3+k
 | .done=>7*E+4
def Gd (n:Nat) (a c:Nat->Nat) (s b:Nat->Int) (k:Nat):Prop:=∀v,v<n->v≠0->c v<=k->gd a s b v
section
variable (g:GR) (d:List Int) (E:Nat) (par dp:Nat->Nat)
def Nb (i:SR) (c:List (List Int)):Prop:=Au g c dQ∧match i with
 | .tree k=>k<=E∧Yt g d k c
 | .good k=>k<E∧Ep g d c∧Gd g.2.length par dp (sC c) (bC c) k
 | .lev cl k=>k<E∧Ep g d c∧AG g.2.length par (sC c) (bC c)∧sC c 0≠0∧UY g.2.length dp (bC c) k∧(cl=true->CL g.2.length par c)
 | .low cl k=>k<=E∧Ep g d c∧AG g.2.length par (sC c) (bC c)∧sC c 0≠0∧UY g.2.length dp (bC c) E∧Tu g.2.length E dp (sC c) k∧(cl=true->CL g.2.length par c)
 | .ask k u=>k<=E∧Ep g d c∧Qt g.2.length (sC c) (bC c)∧u<g.2.length∧dp u+k<=E∧rC c u≠0
 | .done=>Ep g d c∧Qt g.2.length (sC c) (bC c)∧∀v,v<g.2.length->rC c v=0
def TsR (i:SR) (c:List (List Int)) (v:Nat):Prop:=match i with
 | .tree k=>TrT g d k c v
 | .good k=>v<g.2.length∧v≠0∧dp v<=k+1∧¬gd par (sC c) (bC c) v
 | .lev _ k=>v<g.2.length∧dp v<=k+1∧bC c v≠bC c 0
 | .low _ k=>v<g.2.length∧E<dp v+(k+1)∧sC c v≠0
 | .ask _ u=>(u≠0∧v=par u∧rC c v=0)∨(u=0∧v=0)
 | .done=>False
end
section
variable {g:GR} {d:List Int} {E:Nat} {par dp:Nat->Nat} {c c':List (List Int)} {t:Nat} (hT:RT g.2.length E par dp)
 include hT
theorem afD {s:Nat->Int}:Tu g.2.length E dp s 0:=λv a b=>by have:=hT.le v a;omega
theorem Mq {cl:Bool} {k:Nat} (l:Au g c dQ) (m:k<=E) (a:Ep g d c) (b:AG g.2.length par (sC c) (bC c)) (f:sC c 0≠0) (h:UY g.2.length dp (bC c) k) (j:cl=true->CL g.2.length par c):∃i,zU E (.lev cl k)<=zU E i∧Nb g d E par dp i c:=by
 by_cases e:k<E
 ·exact⟨.lev cl k,Nat.le_refl _,l,e,a,b,f,h,j⟩
 ·obtain rfl:k=E:=by omega
  refine⟨.low cl 0,?_,l,Nat.zero_le _,a,b,f,h,afD hT,j⟩
  cases cl<;>(simp only[zU];omega)
 omit hT in
theorem Jt (f:Au g c dQ) (j:RT g.2.length E par dp) (a:Ep g d c) (b:Qt g.2.length (sC c) (bC c)):∃i,4*E+2<=zU E i∧Nb g d E par dp i c:=by
  by_cases e:∃u,u<g.2.length∧rC c u≠0
  ·obtain⟨u,h,k⟩:=e;exact⟨.ask 0 u,Nat.le_refl _,f,Nat.zero_le _,a,b,h,by have:=j.le u h;omega,k⟩
  ·refine⟨.done,by simp only[zU];omega,f,a,b,λv l=>Decidable.not_not.1 λq=>e ⟨v,l,q⟩⟩
theorem Sr {k:Nat} (j:Au g c dQ) (u:k<=E) (h:Ep g d c) (m:Gd g.2.length par dp (sC c) (bC c) k):∃i,E+1+k<=zU E i∧Nb g d E par dp i c:=by
 by_cases e:k<E
 ·exact⟨.good k,Nat.le_refl _,j,e,h,m⟩
 ·have n:AG g.2.length par (sC c) (bC c):=λv f p=>m v f p (by have:=hT.le v f;omega);by_cases o:sC c 0=0
  ·obtain⟨i,a,b⟩:=Jt j hT h (XC hT n o);exact⟨i,by omega,b⟩
  ·have r:UY g.2.length dp (bC c) 0:=λv f s=>by
    by_cases l:v=0
    ·rw[l]
    ·have:=(hT.up v f l).2;omega
   obtain⟨i,a,b⟩:=Mq (cl:=false) hT j (Nat.zero_le _) h n o r (λq=>by cases q);exact⟨i,by simp only[zU]at a ⊢;omega,b⟩
theorem gd0:Gd g.2.length par dp (sC c) (bC c) 0:=λv b a e=>by have:=(hT.up v b a).2;omega
 omit hT in
theorem Xu {i:SR} (h:Nb g d E par dp i c):zU E i<=7*E+4:=by
  obtain⟨_,h⟩:=h
  match i,h with
  | .tree k,h=>have:=h.1;simp only[zU];omega
  | .good k,h=>have:=h.1;simp only[zU];omega
  | .lev false k,h=>have:=h.1;simp only[zU];omega
  | .lev true k,h=>have:=h.1;simp only[zU];omega
  | .low false k,h=>have:=h.1;simp only[zU];omega
  | .low true k,h=>have:=h.1;simp only[zU];omega
  | .ask k u,h=>have:=h.1;simp only[zU];omega
  | .done,h=>exact Nat.le_refl _
theorem aav (r:∀v,v<g.2.length->D d v<=(E:Int)) {i:SR} (h:Nb g d E par dp i c) (s:zU E i<7*E+4) (f:∀v,¬TsR g d E par dp i c v):∃o,zU E i<zU E o∧Nb g d E par dp o c:=by
 obtain⟨l,h⟩:=h
 match i,h,f with
 | .tree k, ⟨hk, h⟩, f =>
  have m:=Pn h f;by_cases e:k<E
  ·exact⟨.tree (k+1),by simp only[zU];omega,l,e,m⟩
  ·obtain⟨i,a,b⟩:=Sr (k:=0) hT l (Nat.zero_le _) (Lh m λv j=>by have:=r v j;omega) (gd0 hT);exact⟨i,by simp only[zU]at a ⊢;omega,b⟩
 | .good k,⟨hk,h1,h2⟩,f=>
  obtain⟨i,a,b⟩:=Sr (k:=k+1) hT l hk h1 (λv j p n=>Classical.not_not.1 λq=>f v ⟨j,p,n,q⟩);exact⟨i,by simp only[zU]at a ⊢;omega,b⟩
 | .lev cl k,⟨hk,h1,h2,h3,h4,h5⟩,f=>
  obtain⟨i,a,b⟩:=Mq (k:=k+1) hT l hk h1 h2 h3 (λv j n=>Decidable.not_not.1 λq=>f v ⟨j,n,q⟩) h5;refine⟨i,?_,b⟩
  cases cl<;>(simp only[zU]at a ⊢;omega)
 | .low cl k, ⟨hk, h1, h2, h3, h4, h5, h6⟩, f =>
  have m:Tu g.2.length E dp (sC c) (k+1):=λv j n=>Decidable.not_not.1 λq=>f v ⟨j,n,q⟩;by_cases e:k<E
  ·refine⟨.low cl (k+1),?_,l,e,h1,h2,h3,h4,m,h6⟩
   cases cl<;>(simp only[zU];omega)
  ·exact absurd (m 0 hT.n1 (by have:=hT.d0;omega)) h3
 | .ask k u, ⟨hk, h1, h2, h3, h4, h5⟩, f =>
  by_cases e:u=0
  ·exact absurd (.inr ⟨e,rfl⟩) (f 0)
  ·obtain⟨a,w⟩:=hT.up u h3 e;refine⟨.ask (k+1) (par u),by simp only[zU];omega,l,by omega,h1,h2,a,by omega,λq=>f _ (.inl ⟨e,rfl,q⟩)⟩
 | .done,_,_=>simp only[zU]at s;omega
end
structure StR (g:GR) (d:List Int) (par:Nat->Nat) (c:List (List Int)) (t:Nat) (c':List (List Int)):Prop where
 tr:TrS g c t c'
 rc:Au g c' dQ
 ws:Ep g d c->Ep g d c'∧StS g.2.length par c t c'
section
variable {g:GR} {d:List Int} {E:Nat} {par dp:Nat->Nat} {c c':List (List Int)} {t:Nat} (hV:VG g) (hD:qK g 0 d) (h0:∀v,v<g.2.length->0<=D d v) (hT:RT g.2.length E par dp) (hs:StR g d par c t c')
 include hV hD h0 hT hs
theorem Xv {i:SR} (h:Nb g d E par dp i c):∃H,Nb g d E par dp H c'∧(zU E i<zU E H∨(H=i∧∀v,TsR g d E par dp i c' v->TsR g d E par dp i c v∧t.testBit v=false)):=by
 obtain⟨Q,h⟩:=h;have l:=hs.rc;have F:∀{v:Nat},¬(t.testBit v=true)->t.testBit v=false:=λh=>by simpa using h
 match i,h with
 | .tree k,⟨hk,h⟩=>
  obtain⟨a,b⟩:=XV hV hD h0 h hs.tr;exact⟨.tree k,⟨l,hk,a⟩,.inr ⟨rfl,b⟩⟩
 | .good k, ⟨hk, h1, h2⟩ =>
  obtain⟨f,n⟩:=hs.ws h1;have o:=n.ws;have I:∀v,v<g.2.length->v≠0->dp v<=k+1->par v=0∨gd par (sC c) (bC c) (par v):=λv j m r=>by
   obtain⟨a,b⟩:=hT.up v j m;by_cases e:par v=0
   ·exact .inl e
   ·exact .inr (h2 _ a e (by omega))
  refine⟨.good k,⟨l,hk,f,λv j m r=>Il hT o j m (I v j m (by omega)) (.inl (h2 v j m r))⟩,.inr ⟨rfl,λv ⟨j,m,r,z⟩=> ?_⟩⟩
  exact⟨⟨j,m,r,λq=>z (Il hT o j m (I v j m r) (.inl q))⟩,F λq=>z (Il hT o j m (I v j m r) (.inr q))⟩
 | .lev cl k, ⟨hk, h1, h2, h3, h4, h5⟩ =>
  obtain⟨f,n⟩:=hs.ws h1;have o:=n.ws;rcases Ec hT o h2 h3 with⟨A,y⟩|⟨B,G,A,y,x⟩
  ·refine⟨.lev cl k,⟨l,hk,f,DO hT o h2,by rw[A];exact h3,Oh hT o h4 y,λq=>Ig hT n h2 h3 (h5 q) y⟩,.inr ⟨rfl,λv ⟨j,r,z⟩=> ?_⟩⟩
   obtain⟨a,b⟩:=(WZ hT o h4 y j r).2 z;exact⟨⟨j,r,a⟩,F b⟩
  ·cases cl with
   |false=>
    obtain⟨i,a,b⟩:=Jt l hT f x;exact⟨i,b,.inl (by simp only[zU]at a ⊢;omega)⟩
   |true=>exact⟨.done,⟨l,f,x,λv j=>(If hT n (h5 Z) G B v j).1⟩,.inl (by simp only[zU];omega)⟩
 | .low cl k, ⟨hk, h1, h2, h3, h4, h5, h6⟩ =>
  obtain⟨f,n⟩:=hs.ws h1;have o:=n.ws;rcases Ec hT o h2 h3 with⟨A,y⟩|⟨B,G,A,y,x⟩
  ·refine⟨.low cl k,⟨l,hk,f,DO hT o h2,by rw[A];exact h3,Oh hT o h4 y,Xd hT o h4 h5 h3,λq=>Ig hT n h2 h3 (h6 q) y⟩,.inr ⟨rfl,λv ⟨j,r,z⟩=> ?_⟩⟩
   obtain⟨a,b⟩:=(Xc hT o h2 h4 h5 j r).2 h3 z;exact⟨⟨j,r,a⟩,F b⟩
  ·cases cl with
   |false=>
    obtain⟨i,a,b⟩:=Jt l hT f x;exact⟨i,b,.inl (by simp only[zU]at a ⊢;omega)⟩
   |true=>exact⟨.done,⟨l,f,x,λv j=>(If hT n (h6 Z) G B v j).1⟩,.inl (by simp only[zU];omega)⟩
 | .ask k u, ⟨hk, h1, h2, h3, h4, h5⟩ =>
  obtain⟨f,n⟩:=hs.ws h1;rcases Iu hT n h2 with⟨B,C,M,R,N,O,P⟩|⟨x,s,p⟩
  ·obtain⟨i,a,b⟩:=Mq (cl:=true) hT l (Nat.zero_le _) f P M O (λ_=>N);exact⟨i,b,.inl (by simp only[zU]at a ⊢;omega)⟩
  ·refine⟨.ask k u,⟨l,hk,f,x,h3,h4,(p u h3).1 h5⟩,.inr ⟨rfl,λv j=> ?_⟩⟩
   rcases j with⟨e,rfl,C⟩|⟨e,rfl⟩
   ·obtain⟨a,_⟩:=hT.up u h3 e;exact⟨.inl ⟨e,rfl,Decidable.not_not.1 λq=>(p _ a).1 q C⟩,F λq=>(p _ a).2 q C⟩
   ·subst e;exact⟨.inr ⟨rfl,rfl⟩,F λq=>h5 (s q)⟩
 | .done, ⟨h1, h2, h3⟩ =>
  obtain⟨f,n⟩:=hs.ws h1;rcases Iu hT n h2 with⟨B,C,_⟩|⟨x,s,p⟩
  ·exact absurd (h3 0 hT.n1) C
  ·refine⟨.done,⟨l,f,x,λv j=> ?_⟩,.inr ⟨rfl,λv q=>q.elim⟩⟩
   cases J:t.testBit v with
   |false=>rw[(n.stay v j J).2.2.2];exact h3 v j
   | true =>
    have q:=n.move v j J;have K:=h2 v j;rcases q with q|q|q|q
    ·obtain⟨rfl,_,q,_⟩:=q;exact absurd (h3 0 j) q
    ·exact q.2.2.2.2
    ·exact absurd K.1 q.2.1.1
    ·obtain⟨_,_,_,⟨_,_,w,L,_,_,q,_⟩,_⟩:=q;exact absurd (h3 w L) q
end
theorem XO {p:sU} {g:GR} {d:List Int} {c:List (List Int)} {h r:Nat->Nat} {t:Nat} (k:VG g) (n:qK g 0 d) (m:∀v,v<g.2.length->0<=D d v) (s:TP g d h r) (u:sI g dQ) (l:Au g c dQ)
  (e:∀v,t.testBit v=true->v<g.2.length∧0<=dD (aO p g) RS c v):StR g d h c t (gT (aO p g) dQ RS c t):=by
 have j:=adF (p:=p) (W:=PC) (R':=RW) (t:=t) k l aeP (by rw[<-IN];exact e);refine⟨j,Lg (S:=aO p g) u l,λi=>⟨λv f=> ?_,XP k n m s l i e⟩⟩
 have q:=Iz k n m i f;cases o:t.testBit v with
 |false=>obtain⟨a,b⟩:=j.stay v f o;rw[show gT (aO p g) dQ RS c t=gT (aO p g) (rM++PC) (RB++RW) c t from rfl,a,b];exact i v f
 |true=>obtain⟨a,b⟩:=j.move v f o;rw[show gT (aO p g) dQ RS c t=gT (aO p g) (rM++PC) (RB++RW) c t from rfl,a,b,<-q.1,<-q.2];exact i v f
theorem aaH (p b:sU) (g:GR) (a:List CG) (R:List RL) (c:bI) (t:Nat):gT (aO p g) a R c t=gT (aO b g) a R c t:=rfl
theorem NZ (p b:sU) (g:GR) (R:List RL) (a:Nat) (c:bI):oA (aO p g) R a c=oA (aO b g) R a c:=rfl
noncomputable def nxt (g:GR) (a:Int) (c:Nat) (w:Int):Nat:=(((nE 1000 g).bind λb=>eG 1000 b a (c:Int) w).getD 0).toNat
noncomputable def Cb (p:sU) (vars:List CG) (R:List RL) (g:GR) (kind:Int) (ws:aP) (a:bI):Nat->bI
 |0=>a
 |k+1=>gT (aO p g) vars R (Cb p vars R g kind ws a k) (nxt g kind (oA (aO p g) R (dY g) (Cb p vars R g kind ws a k)) (at' ws (k:Int)))
theorem JN (p p':sU) (vars:List CG) (R:List RL) (g:GR) (kind:Int) (ws:aP) (a:bI) (k:Nat):Cb p vars R g kind ws a k=Cb p' vars R g kind ws a k:=by
 induction k with
 |zero=>rfl
 |succ k b=>
  rw[Cb,Cb,b,aaH p p',NZ p p']
theorem exZ (D:Kb):∃z:List wJ,z.map zB=D:=by
 refine⟨D.map λd=>(ByteArray.mk #[],(.bool true,d.1),(.bool true,d.2.map λs=>(s.1,(.bool true,s.2)))),?_⟩
 rw[List.map_map]
 conv=>rhs;rw[<-List.map_id D]
 refine List.map_congr_left λd _=> ?_;show(d.1,(d.2.map λs=>(s.1,((.bool true:Value),s.2))).map λs=>(s.1,s.2.2))=d;rw[List.map_map];exact Prod.ext Z (by
  conv=>rhs;rw[<-List.map_id d.2]
  rfl)
end Go.Proofs.YtmdlcmbplnhdnaaGreatDoor
namespace Go.Proofs.YtmdlcmbplnhdnaaGreatDoor
open Go.Sx
def FW  (a:abq):Option Ax:=
 if a.2.2.2.2.2.1≠(0:Int)then(some (([]:yA),([]:Ll),a.2.2.2.2.2.1))else(some (a.2.2.2.2.2.2.2.2.2.2,a.2.2.2.2.2.2.2.2.2.1,(0:Int)))
def zH  (a:abr):Option Ax:=
 FW  (a.2.2.2.2.2.1,a.2.2.2.2.2.2.1,a.2.2.2.2.2.2.2.1,a.2.2.2.2.2.2.2.2.1,a.2.2.2.2.2.2.2.2.2.1,a.2.2.2.2.2.2.2.2.2.2,a.2.2.1,a.2.2.2.1,a.2.2.2.2.1,a.1,a.2.1)
def v_  (a:aP×Int×Int×Int×Int×Int×bI×aP×(List (Int×Int×Int×Int×Int))×List bI):Option Ax:=
 zH  (a.2.2.2.2.2.2.2.2.1,a.2.2.2.2.2.2.2.2.2,a.2.2.2.2.2.2.2.1,a.1,a.2.2.2.2.2.2.1,a.2.1,a.2.2.1,a.2.2.2.1,a.2.2.2.2.1,a.2.2.2.2.2.1,(0:Int))
def Cf (e:Lm) (b:XY) (f:XX->Option Ax) (d:Int) (h:bI) (c:Int) (a:(Int×Int×Int×Int×Int)×Int) (g:yA):Option Ax:=
 ck ((List.length b.2.2.2.2.2.2.2.2.2.1:Int)+(List.length ([d]):Int)<=1099511627) (ck ((List.length b.2.1:Int)+(List.length ([(dK .u32 c e.1)]):Int)<=1099511627) (f ((dK .u32 c e.1),(b.2.1++([(dK .u32 c e.1)])),(wI .i64 (b.2.2.1+(1:Int))),a.1.1,a.1.2.1,a.1.2.2.1,a.1.2.2.2.1,a.1.2.2.2.2,h,(b.2.2.2.2.2.2.2.2.2.1++[d]),(b.2.2.2.2.2.2.2.2.2.2.1++([(a.1.1,a.1.2.1,a.1.2.2.1,a.1.2.2.2.1,a.1.2.2.2.2)])),g)))
def Ce (U:Nat) (e:Bc) (k:cQ) (l:Int) (c:Lm) (a:XY) (i:XX->Option Ax) (d:Int):Option Ax:=
 if¬(a.1≠(0:Int))then(v_  (a.2.1,a.2.2.2.1,a.2.2.2.2.1,a.2.2.2.2.2.1,a.2.2.2.2.2.2.1,a.2.2.2.2.2.2.2.1,a.2.2.2.2.2.2.2.2.1,a.2.2.2.2.2.2.2.2.2.1,a.2.2.2.2.2.2.2.2.2.2.1,a.2.2.2.2.2.2.2.2.2.2.2))else(Option.bind (eZ U c.2.1 l a.1 d) λj=>(if(!j)=true then(zH  (a.2.2.2.2.2.2.2.2.2.2.1,a.2.2.2.2.2.2.2.2.2.2.2,([]:aP),([]:aP),([]:bI),(0:Int),(0:Int),(0:Int),(0:Int),(0:Int),(11:Int)))else(Option.bind (iX U ((((e.1,e.2.1,e.2.2)),((((e.1,e.2.1,e.2.2)),((k.1,k.2)),c.2.2.2.1,c.2.2.2.2)),c.2.2.1)) a.2.2.2.2.2.2.2.2.1 d) λf=>(Option.bind (dW U ((((e.1,e.2.1,e.2.2)),((((e.1,e.2.1,e.2.2)),((k.1,k.2)),c.2.2.2.1,c.2.2.2.2)),c.2.2.1)) f) λg=>(Option.bind (fI U ((a.2.2.2.1,a.2.2.2.2.1,a.2.2.2.2.2.1,a.2.2.2.2.2.2.1,a.2.2.2.2.2.2.2.1)) d (dK .u32 g c.1)) λb=>(Option.bind (lS U f) λh=>(ck ((List.length a.2.2.2.2.2.2.2.2.2.2.2:Int)+(List.length (([]:yA)++[h]):Int)<=1099511627) (ck ((List.length a.2.2.2.2.2.2.2.2.2.2.1:Int)+(List.length ([(b.1.1,b.1.2.1,b.1.2.2.1,b.1.2.2.2.1,b.1.2.2.2.2)]):Int)<=1099511627) (Cf c a i d f g b (a.2.2.2.2.2.2.2.2.2.2.2++(([]:yA)++[h])))))))))))
def sA (U:Nat) (g:Bc) (h:cQ) (f:Int) (e:aP) (c:Lm) (a:XY) (b:XX->Option Ax):Option Ax:=
 if a.2.2.1<(List.length e:Int)then(ck (0<=a.2.2.1∧a.2.2.1<(List.length e:Int)) (Option.bind (eG U c.2.1 f a.1 (at' e a.2.2.1)) λd=>(Ce U g h f c a b (d))))else(v_  (a.2.1,a.2.2.2.1,a.2.2.2.2.1,a.2.2.2.2.2.1,a.2.2.2.2.2.2.1,a.2.2.2.2.2.2.2.1,a.2.2.2.2.2.2.2.2.1,a.2.2.2.2.2.2.2.2.2.1,a.2.2.2.2.2.2.2.2.2.2.1,a.2.2.2.2.2.2.2.2.2.2.2))
def Cd (U:Nat) (f:Bc) (g:cQ) (h:Int) (i:aP) (b:Lm) (e:bI) (c:Int) (a:(Int×Int×Int×Int×Int)) (d:yA):Option Ax:=
 ck ((List.length ([]:aP):Int)+(List.length ([(dK .u32 c b.1)]):Int)<=1099511627) (bK (sA U f g h i b) U ((dK .u32 c b.1),(([]:aP)++([(dK .u32 c b.1)])),(0:Int),a.1,a.2.1,a.2.2.1,a.2.2.2.1,a.2.2.2.2,e,([]:aP),(([]:Ll)++([(a.1,a.2.1,a.2.2.1,a.2.2.2.1,a.2.2.2.2)])),d))
def Cc (U:Nat) (d:Bc) (g:cQ) (h:Int) (i:bI) (j:aP) (b:Lm):Option Ax:=
 Option.bind (lS U i) λe=>(Option.bind (dW U ((((d.1,d.2.1,d.2.2)),((((d.1,d.2.1,d.2.2)),((g.1,g.2)),b.2.2.2.1,b.2.2.2.2)),b.2.2.1)) e) λf=>(Option.bind (tR U (dK .u32 f b.1)) λa=>(Option.bind (lS U e) λc=>(ck ((List.length ([]:yA):Int)+(List.length (([]:yA)++[c]):Int)<=1099511627) (ck ((List.length ([]:Ll):Int)+(List.length ([(a.1,a.2.1,a.2.2.1,a.2.2.2.1,a.2.2.2.2)]):Int)<=1099511627) (Cd U d g h j b e f a (([]:yA)++(([]:yA)++[c]))))))))
def zI (U:Nat) (e:Bc) (b:cQ) (f:Int) (g:bI) (h:aP) (a:gE×Int×bI):Option Ax:=
 Option.bind (nE U ((b.1,b.2))) λc=>(Option.bind (xX U ((b.1,b.2))) λd=>(Cc U e b f g h (d,c,a.1,a.2.1,a.2.2)))
def zJ (U:Nat) (c:Bc) (d:cQ) (e:Int) (f:bI) (g:aP) (a:Int×bI):Option Ax:=
 Option.bind (mK U ((c.1,c.2.1,c.2.2)) ((d.1,d.2))) λb=>(zI U c d e f g (b,a.1,a.2))
def tB (U:Nat) (b:Bc) (c:cQ) (d:Int) (e:bI) (f:aP) (a:Int×bI):Option Ax:=
 zJ U b c d e f (a.1,a.2)
def xK (d:cQ) (a:Int×Int×bI) (b:(Int×Int×bI)->Option Ax) (c:bI):Option Ax:=
 b ((wI .i64 (a.1+(1:Int))),(max a.2.1 (at' d.1 a.1)),c)
def sB (U:Nat) (f:cQ) (a:Int×Int×bI) (d:(Int×Int×bI)->Option Ax) (b:Int×bI) (e:(Int×bI)->Option Ax):Option Ax:=
 if b.1<(List.length (at' f.2 a.1):Int)then(ck (0<=b.1∧b.1<(List.length (at' f.2 a.1):Int)) (ck (0<=a.1∧a.1<(List.length b.2:Int)) (Option.bind (rA U ((f.1,f.2)) ((at' (at' f.2 a.1) b.1).1) a.1) λc=>(ck ((List.length (at' b.2 a.1):Int)+(List.length ([c]):Int)<=1099511627) (ck (0<=a.1∧a.1<(List.length (List.set b.2 (Int.toNat a.1) ((at' b.2 a.1)++[c])):Int)) (e ((wI .i64 (b.1+(1:Int))),(List.set b.2 (Int.toNat a.1) ((at' b.2 a.1)++[c])))))))))else(xK f a d (b.2))
def nU (U:Nat) (d:Bc) (c:cQ) (e:Int) (f:bI) (g:aP) (a:Int×Int×bI) (b:(Int×Int×bI)->Option Ax):Option Ax:=
 if a.1<(List.length c.2:Int)then(ck (0<=a.1∧a.1<(List.length c.2:Int)) (ck (0<=a.1∧a.1<(List.length c.1:Int)) (bK (sB U c a b) U ((0:Int),a.2.2))))else(tB U d c e f g (a.2.1,a.2.2))
def uT (U:Nat) (b:Bc) (a:cQ) (c:Int) (d:bI) (e:aP):Option Ax:=
 Option.bind (xY U ((b.1,b.2.1,b.2.2)) ((a.1,a.2)) c d (List.length e:Int)) λf=>(if f≠(0:Int)then(some (([]:yA),([]:Ll),f))else(ck (0<=(List.length a.2:Int)∧(List.length a.2:Int)<=1099511627) (bK (nU U b a c d e) U ((0:Int),(0:Int),(List.replicate (Int.toNat (List.length a.2:Int)) ([]:aP))))))
theorem abY:aT Tryz.prog 29:=Tryz.call29
theorem Pj (U:Nat) {s:Bc} {G:cQ} {R:Int} {p3:bI} {p4:aP} (u:Value)  (v:Value)  (E:Value)  (D:Value)  (z4:mZ)  (v5:Value)  (z6:sD)  (v7:Value) (r:List bI×(List (Int×Int×Int×Int×Int))×Int) (h:uT U s G R p3 p4=some r):
  aY Tryz.prog 29 #[Value.agg #[vS (s.1),u,v],Value.agg #[E,D],vI (R),v5,v7] [Sl aQ u s.2.1,Sl aH v s.2.2,PF (Value.agg #[vS s.1,u,v]),Sl bP E G.1,S2 bA D z4 G.2,S2 bP v5 z6 p3,Sl yD v7 p4,Gb 0 (cellsOf Hl wD)] (λx:Value×List Value×List (List Value)×Value=>Value.tuple #[x.1,x.2.2.2,vI (r.2.2)]) (λx l=>Ar cO.raw x.1 x.2.1::Fq b_ x.2.1 x.2.2.1 r.1::Ar cG x.2.2.2 r.2.1::l) (λ_ l=>l):=by
 refine aY.of Tryz.func29 Z Tryz.ntmps29 Z λc=>?_;refine aU<|aG (aL.box (cs:=[vS (s.1),u,v]) Z Z) Z λb1=>aG (aL.box (cs:=[E,D]) Z Z) Z λb2=>aD Z<|aD Z<|aD Z<|aM<|aJ<|aU<|fG 1 Z<|fG 0 Z<|aA Z<|aA Z<|aA Z<|kP (aE.fact 6 Z) Z<|fN h λr3 w4 h=>aG (aL.callQ ace (Pk U u v E D z4 v5 z6 r3 w4) Z (qB [0,1,2,3,4,5] Z)) Z λx5=>aD Z<|aM<|aU<|aA Z<|pI Z<|aM ?_;refine fC h Z (λh=>?_) λh=>?_
 ·refine aU<|aA Z<|aD Z<|aD Z<|aD Z<|aM<|aS<|aI<|jD (iC cO.raw) (jD (zN b_) ?_);refine jD (iC cG) ?_;cases h;exact HZ ((lC),([]:fM),([]:List (List Value)),(lC)) Z Z (RV.tmp Z) (RV.tmp Z) (RV.tmp Z) (aZ.ix [2,1,0] Z Z) aF.nil
 refine cV<|aU<|aG (aL.alloc (cs:=[lC]) Z Z) Z λM=>aM<|aU<|aG (aL.alloc (cs:=[lC]) Z Z) Z λN=>aM<|aU<|fG 3 Z<|fG 2 Z<|aA Z<|aC (wR (cs:=[.tmp 14,.tmp 15]) (vs:=[vP M,vP N]) Z) Z<|AQ (A:=Lm) (B:=Nat×Value×Nat×Value×List Value×Value×List Value) (vs:=[Value.agg #[vS (s.1),u,v],Value.agg #[E,D],vI (R),Value.func (.func 52) #[] #[vP M,vP N]]) (λg=>Cc U s G R p3 p4 g=some r) (λg a=>Value.agg #[vP a.1,a.2.1,vI (R),vU (g.1),Value.func (.func 52) #[] #[vP M,vP N]]) (λg a=>[Ar oJ a.2.1 g.2.1,bV a.1 [vS (s.1),u,v,vP a.2.2.1,a.2.2.2.1] 108,Ar cO.raw a.2.2.2.1 a.2.2.2.2.1,kN bT a.2.2.2.2.1 g.2.2.1,bV a.2.2.1 [vS (s.1),u,v,E,D,vI (g.2.2.2.1),a.2.2.2.2.2.1] 137,Ar cO.raw a.2.2.2.2.2.1 a.2.2.2.2.2.2,kN b_ a.2.2.2.2.2.2 g.2.2.2.2,bV N [lC] 33,bV M [lC] 32]) (λg a=>[Sl aQ u s.2.1,Sl aH v s.2.2,PF (Value.agg #[vS s.1,u,v]),Sl bP E G.1,S2 bA D z4 G.2,S2 bP v5 z6 p3,Sl yD v7 p4,Gb 0 (cellsOf Hl wD)]) (sS.fn (show aT Tryz.prog 51 from Tryz.call51) Z) Tryz.func51 Z Tryz.ntmps51 Z Z ?_ ?_
 ·refine aU<|aG (aL.box (cs:=[vS (s.1),u,v]) Z Z) Z λaf=>aG (aL.box (cs:=[E,D]) Z Z) Z λag=>aG (aL.alloc (cs:=vD1) Z Z) Z λah=>aM<|aJ ?_;refine JR.start [0,0,3,0,15,0,0,95,0,511,1023] 9 mixedOrders (by decide +kernel) ?_;refine JR.open (by exact rfl) ?_;refine pG 2 Z<|pG 1 Z<|RA (A:=gE×Int×bI) (B:=Nat×Nat×Value×List Value×Value×List Value) (vs:=[Value.agg #[vS (s.1),u,v],Value.agg #[E,D]]) (λP=>zI U s G R p3 p4 P=some r) (λP t=>vP t.1) (λP t=>[bV t.1 [vS (s.1),u,v,vP t.2.1,t.2.2.1] 108,Ar cO.raw t.2.2.1 t.2.2.2.1,kN bT t.2.2.2.1 P.1,bV t.2.1 [vS (s.1),u,v,E,D,vI (P.2.1),t.2.2.2.2.1] 137,Ar cO.raw t.2.2.2.2.1 t.2.2.2.2.2,kN b_ t.2.2.2.2.2 P.2.2,bV ah vD1 97,bV ag [E,D] 29,bV af [vS (s.1),u,v] 60,bV N [lC] 33,bV M [lC] 32]) (λP t=>[Sl aQ u s.2.1,Sl aH v s.2.2,PF (Value.agg #[vS s.1,u,v]),Sl bP E G.1,S2 bA D z4 G.2,S2 bP v5 z6 p3,Sl yD v7 p4,Gb 0 (cellsOf Hl wD)]) Z Z Z (sS.fn (show aT Tryz.prog 43 from Tryz.call43) Z) Tryz.func43 Z Tryz.ntmps43 Z Z (λ_ _=>(uZ [] Z)) ?_ ?_
  ·refine aU<|aG (aL.box (cs:=[vS (s.1),u,v]) Z Z) Z λar=>aG (aL.box (cs:=[E,D]) Z Z) Z λau=>aD Z<|aM<|aJ ?_;refine JR.start [0,0,0,6,0,0,62,127,255,511] 7 mixedOrders (by decide +kernel) ?_;refine JR.open (by exact rfl) ?_;refine pG 1 Z<|pG 1 Z<|pG 0 Z<|RA (A:=Int×bI) (B:=Nat×Value×List Value) (vs:=[Value.agg #[vS (s.1),u,v],Value.agg #[E,D]]) (λS=>zJ U s G R p3 p4 S=some r) (λS I=>vP I.1) (λS I=>[bV I.1 [vS (s.1),u,v,E,D,vI (S.1),I.2.1] 137,Ar cO.raw I.2.1 I.2.2,kN b_ I.2.2 S.2,bV au [E,D] 29,bV ar [vS (s.1),u,v] 60,bV ah vD1 97,bV ag [E,D] 29,bV af [vS (s.1),u,v] 60,bV N [lC] 33,bV M [lC] 32]) (λS I=>[Sl aQ u s.2.1,Sl aH v s.2.2,PF (Value.agg #[vS s.1,u,v]),Sl bP E G.1,S2 bA D z4 G.2,S2 bP v5 z6 p3,Sl yD v7 p4,Gb 0 (cellsOf Hl wD)]) Z Z Z (sS.fn (show aT Tryz.prog 66 from Tryz.call66) Z) Tryz.func66 Z Tryz.ntmps66 Z Z (λ_ _=>(uZ [([4],[])] Z)) ?_ ?_
   ·refine aU<|aG (aL.box (cs:=[vS (s.1),u,v]) Z Z) Z λc6=>aG (aL.box (cs:=[E,D]) Z Z) Z λai=>aD Z<|aM<|aJ ?_;refine JR.start [0,0,0,4,12,28,63,127,255] 6 mixedOrders (by decide +kernel) ?_;refine JR.open (by exact rfl) ?_;refine pG 1 Z<|pG 0 Z<|cY Z<|jO 0 Z<|bJ Z .nil (nA 4 Z) (jW Z (aE.fact 0 Z) Z) aK.z<|dH h λcl h=>JR.stp (xT b_ (Int.toNat (List.length G.2:Int)))<|JR.loud Z Z Z (pM (e:=cO.raw) (lC) Z Z Z Z cl Z Z Z) Z (λL=>(uZ [([2],[]),([3],[])] Z)) λL=>bN 6 Z Z<|bX (Know.one (aE.sl (bS (i:=0) (j:=1) Z Z cZ))) λb3=>?_;refine aC (Vl (r:=Value.agg #[vS (s.1),u,v,E,D,vI (0:Int),L]) Z Z Z (by intro w;simp[Instr.build,Instr.fill,eL,dU,dC,eM,eN,dV,f_,fJ b3])) Z ?_;refine aG (aL.box (cs:=[vS (s.1),u,v,E,D,vI (0:Int),L]) Z Z) Z λT=>aD Z<|aM<|aJ<|Ei (B:=fM) (λX=>tB U s G R p3 p4 X=some r) (λX av=>[(5,vP T)]) (λX av=>[bV T [vS (s.1),u,v,E,D,vI (X.1),L] 137,Ar cO.raw L av,kN b_ av X.2,bV au [E,D] 29,bV ar [vS (s.1),u,v] 60,bV ah vD1 97,bV ag [E,D] 29,bV af [vS (s.1),u,v] 60,bV N [lC] 33,bV M [lC] 32]) ?_ ?_
    ·refine aU<|bU Z<|dL 3 Z<|aC (jW Z (aE.fact 4 Z) Z) Z<|aA Z<|aM<|aV<|e_ (B:=fM) (nU U s G R p3 p4) (λo aj=>[(3,vP ai),(5,vP T),(19,D),(20,vI (List.length G.2:Int)),(21,vI (o.1))]) (λo aj=>[bV T [vS (s.1),u,v,E,D,vI (o.2.1),L] 137,Ar cO.raw L aj,kN b_ aj o.2.2,bV ai [E,D] 29,bV au [E,D] 29,bV ar [vS (s.1),u,v] 60,bV ah vD1 97,bV ag [E,D] 29,bV af [vS (s.1),u,v] 60,bV N [lC] 33,bV M [lC] 32]) ((0:Int),(0:Int),(List.replicate (Int.toNat (List.length G.2:Int)) ([]:aP))) (List.replicate (Int.toNat (List.length G.2:Int)) (lC)) h SF (aZ.ix [0,1,2,3,5,6,7,8,9,10,11] Z Z) ?_;intro bh o aj h;refine aU<|cX Z<|aM<|aJ ?_;refine fC h Z (λh=>?_) λh=>?_
     ·refine cV<|aJ<|Ei (B:=fM) (λae=>xK G o (bK (nU U s G R p3 p4) bh) ae=some r) (λae aw=>[(3,vP ai),(5,vP T),(19,D),(20,vI (List.length G.2:Int)),(21,vI (o.1))]) (λae aw=>[bV T [vS (s.1),u,v,E,D,vI (max o.2.1 (at' G.1 o.1)),L] 137,Ar cO.raw L aw,kN b_ aw ae,bV ai [E,D] 29,bV au [E,D] 29,bV ar [vS (s.1),u,v] 60,bV ah vD1 97,bV ag [E,D] 29,bV af [vS (s.1),u,v] 60,bV N [lC] 33,bV M [lC] 32]) ?_ ?_
      ·refine aV<|aU<|aA Z<|dH h λaa h=>aC (cL Z Z (aE.fact 4 Z) Z Z aa) Z<|aC (cT Z (aE.fact 4 Z) Z Z aa) Z<|aD Z<|aD Z<|aM<|aJ ?_;refine JR.start [0,0,2,6,14,0,32,0,224,480,1022,2047,4095,8191] 11 mixedOrders (by decide +kernel) ?_;refine JR.open (by exact rfl) ?_;refine bG Z<|bG Z<|iH Z (bW Z)<|cY Z<|jO 0 Z<|cY Z<|jO 3 Z<|bG Z<|dH h λbe h=>bJ Z .nil (nA 3 Z) (bB Z Z (aE.fact 0 Z) Z Z be) aK.z<|bJ Z .nil (nA 3 Z) (bY Z (aE.fact 0 Z) Z Z Z dJ be) aK.z<|iH Z (NL Z Z)<|bN 11 Z Z<|aC (bW Z) Z<|bU Z<|gY 0 Z Z Z Z Z Z<|aM<|aU<|aA Z<|aC (jC Z (aE.el (aE.fact 4 Z) aa.1 aa.2) Z) Z<|aA Z<|aM<|aV<|e_ (B:=fM) (sB U G o (bK (nU U s G R p3 p4) bh)) (λK ak=>[(3,vP ai),(5,vP T),(6,vI (o.1)),(19,D),(20,vI (List.length G.2:Int)),(21,vI (o.1)),(39,(at' z4 o.1).1),(40,vI (List.length (at' G.2 o.1):Int)),(41,vI (K.1))]) (λK ak=>[bV T [vS (s.1),u,v,E,D,vI (max o.2.1 (at' G.1 o.1)),L] 137,Ar cO.raw L ak,kN b_ ak K.2,bV ai [E,D] 29,bV au [E,D] 29,bV ar [vS (s.1),u,v] 60,bV ah vD1 97,bV ag [E,D] 29,bV af [vS (s.1),u,v] 60,bV N [lC] 33,bV M [lC] 32]) ((0:Int),o.2.2) (aj) h SF (aZ.refl _) ?_;intro c8 K ak h;refine aU<|cX Z<|aM<|aJ ?_;refine fC h Z (λh=>?_) λh=>?_
       ·refine cV<|aJ<|aV<|aU<|dH h λbf h=>aC (bB Z Z (aE.el (aE.fact 4 Z) aa.1 aa.2) Z Z bf) Z<|aC (jG (cs:=[vI ((at' (at' G.2 o.1) K.1).1),vI ((at' (at' G.2 o.1) K.1).2)]) Z (aE.el (aE.fact 4 Z) aa.1 aa.2) bR Z Z Z Z bf) Z<|aG (aL.alloc (cs:=UG) Z Z) Z λc7=>bQ 0 (vs:=[vI ((at' (at' G.2 o.1) K.1).1),vI ((at' (at' G.2 o.1) K.1).2)]) Z Z Z Z Z Z<|aM ?_;refine JR.start [0,1,3,7,0,0,32,96,224,0,992,2016,0,0,8192,0,61440,126976,262112,524287,1048575] 19 mixedOrders (by decide +kernel) ?_;refine JR.open (by exact rfl) ?_;refine bG Z<|iH Z (bW Z)<|cY Z<|jO 1 Z<|bG Z<|bG Z<|iH Z (bW Z)<|cY Z<|jO 1 Z<|bG Z<|dH h λaW h=>c_ (dA 3 Z) λbo=>?_;refine bJ Z (aZ.cons 2 Z .nil) .nil (fD 0 Z Z Z Z Z aW.1 (by have q1:=aW.2;have q2:=bo;(try simp only[List.length_set]at q1);(try simp only[List.length_set]at q2);(try simp only[List.length_set]);omega)) aK.z ?_;refine c_ (dA 3 Z) λbp=>bJ Z (aZ.cons 2 Z .nil) .nil (gW 0 Z Z bp Z Z aW) aK.z<|pG 4 Z<|cY Z<|jO 0 Z<|bG Z<|fN h λax cK h=>JR.loud Z Z Z (aL.callQ acx (JS U E D z4 ax cK) Z (qB [3,4] Z)) Z (λcW=>(uZ [([2],[]),([2],[]),([1],[]),([1],[])] Z)) λcW=>JR.loud Z Z Z (bZ (e:=b_) ([ax]) [(0,vI (ax))] Z Z Z Z (nQ (vI (ax)) Z) Z Z Z) Z (λcy=>(uZ [([3],[]),([3],[]),([2],[]),([2],[])] Z)) λcy=>dH h λcm h=>JR.loud Z Z Z (pX 4 cZ Z Z Z (bD (aE.res 0 Z) cZ) Z Z Z Z aW cm Z) Z (λbn=>(uZ [([2],[])] Z)) λbn=>bN 19 Z Z<|dH h λab h=>bX (dA 4 Z) λbq=>?_;refine aC (fD 3 Z Z Z Z Z ab.1 (by have q1:=ab.2;have q2:=bq;(try simp only[List.length_set]at q1);(try simp only[List.length_set]at q2);(try simp only[List.length_set]);omega)) Z ?_;refine bX (AB 4 (k:=o.1) Z ⟨ab.1,by first|exact ab.2|simpa using ab.2⟩) λb4=>?_;refine pK 3 4 ⟨ab.1,by first|exact ab.2|simpa using ab.2⟩ Z Z Z Z Z (by simp) b4 Z ?_;refine eR<|o_<|aR<|cP Z<|aA Z<|aM ?_;exact nM ((wI .i64 (K.1+(1:Int))),(List.set K.2 (Int.toNat o.1) ((at' K.2 o.1)++[ax]))) (List.set ak (Int.toNat o.1) bn) h SF (aZ.ix [2,3,4,5,6,7,8,9,10,11,12] Z Z) (aF.refl _ _)
       refine u_<|gU<|gU<|Az<|o_ ?_;exact jP (K.2) (ak) h SF Z
      intro ae aw h;unfold xK at h;refine aR<|cP Z<|aA Z<|aM ?_;exact AT ((wI .i64 (o.1+(1:Int))),(max o.2.1 (at' G.1 o.1)),ae) (aw) h SF Z
     refine gK ?_;exact cU (o.2.1,o.2.2) (aj) h SF (aZ.ix [0,1,2,4,5,6,7,8,9,10] Z Z) (aF.refl _ _)
    intro X av h;unfold tB at h;refine aU<|aA Z<|aD Z<|aM<|aS ?_;exact uC (X.1,X.2) (T,L,av) h (.inl Z) (Gw.r1 Z (RV.tmp Z)) Z (aZ.refl _) (aF.refl _ _)
   intro S I h;unfold zJ at h;refine bJ Z (aZ.cons 4 Z .nil) .nil (hZ 0 Z Z Z Z) (aK.h (aZ.ix [1] Z Z) .nil aK.z)<|bJ Z (aZ.cons 3 Z .nil) .nil (hZ 0 Z Z Z Z) (aK.h (aZ.ix [0] Z Z) .nil aK.z)<|fN h λbm cJ h=>JR.loud Z Z Z (aL.callQ VJ (Du U u v E D z4 bm cJ) Z (qB [0,1,2,3,4] Z)) Z (λay=>(uZ [([6],[])] Z)) λay=>bN 7 Z Z<|bX (Know.one (aE.sl (bS (i:=0) (j:=1) Z Z bR))) λb0=>?_;refine aC (Vl (r:=Value.agg #[vS (s.1),u,v,Value.pointer (some ⟨I.1,0,none⟩),ay.1]) Z Z Z (by intro w;simp[Instr.build,Instr.fill,eL,dU,dC,eM,eN,dV,f_,fJ b0])) Z ?_;refine aG (aL.box (cs:=[vS (s.1),u,v,vP I.1,ay.1]) Z Z) Z λb5=>aD Z<|aM<|aS ?_;exact uC (bm,S.1,S.2) (b5,I.1,ay.1,ay.2,I.2.1,I.2.2) h (.inl Z) (Gw.r1 Z (RV.tmp Z)) Z (aZ.ix [0,1,2,3,4,5,8,9,10,11,12] Z Z) (aF.refl _ _)
  intro P t h;unfold zI at h;refine bJ Z (aZ.cons 7 Z .nil) .nil (hZ 0 Z Z Z Z) (aK.h (aZ.ix [1] Z Z) .nil aK.z)<|fN h λbl cH h=>JR.loud Z Z Z (aL.callQ aco (HQ U E D z4 bl cH) Z (qB [3,4] Z)) Z (λa0=>(uZ [] Z)) λa0=>iH Z (fZ Z)<|bJ Z (aZ.cons 8 Z .nil) .nil (hZ 0 Z Z Z Z) (aK.h (aZ.ix [7] Z Z) .nil (aK.h (aZ.ix [1] Z Z) .nil aK.z))<|fN h λaX cI h=>JR.loud Z Z Z (aL.callQ acp (Pf U E D z4 aX cI) Z (qB [3,4] Z)) Z (λcS=>(uZ [] Z)) λcS=>iH Z (fZ Z)<|bN 9 Z Z<|bX (Know.one ((bD (aE.res 0 Z) sT))) λbL=>?_;refine aC (Y.bld5 (r:=Value.agg #[Value.pointer (some ⟨t.1,0,none⟩),a0,vI (R),vU (aX),Value.func (.func 52) #[] #[Value.pointer (some ⟨M,0,none⟩),Value.pointer (some ⟨N,0,none⟩)]]) Z Z Z Z Z (by intro w;simp[Instr.build,Instr.fill,eL,dU,dC,eM,eN,dV,f_,fJ bL])) Z ?_;refine bX (Know.one ((bD (aE.res 0 Z) sT))) λbO=>bQ 7 (vs:=[vP t.1,a0,vI (R),vU (aX),Value.func (.func 52) #[] #[vP M,vP N]]) Z Z (kR Z (kR bO (kR Z (kR Z (kR Z Z))))) Z Z Z<|aM<|aS ?_;exact uC (aX,bl,P.1,P.2.1,P.2.2) (t.1,a0,t.2.1,t.2.2.1,t.2.2.2.1,t.2.2.2.2.1,t.2.2.2.2.2) h (.inl Z) (Gw.r1 Z (RV.cell 7 Z Z Z Z)) Z (aZ.ix [0,1,2,3,4,5,6,10,11] Z Z) (aF.refl _ _)
 intro g a h;refine aG (aL.alloc (cs:=vD1) Z Z) Z λdg=>bX (Know.one ((bD (aE.res 1 Z) sT))) λb6=>bQ 0 (vs:=[vP a.1,a.2.1,vI (R),vU (g.1),Value.func (.func 52) #[] #[vP M,vP N]]) Z Z (kR Z (kR b6 (kR Z (kR Z (kR Z Z))))) Z Z Z<|aM<|aJ<|aU<|fG 0 Z<|aA Z<|aA Z<|AQ (A:=abq) (B:=Value×Value×Value×Value×Value×List Value×List Value×List (List Value)) (vs:=[Value.agg #[vP a.1,a.2.1,vI (R),vU (g.1),Value.func (.func 52) #[] #[vP M,vP N]],v5,v7]) (λJ=>FW  J=some r) (λJ F=>Value.tuple #[Value.agg #[F.1,F.2.1,F.2.2.1,vI (J.1),vI (J.2.1),vI (J.2.2.1),vI (J.2.2.2.1),vU (J.2.2.2.2.1)],vI (J.2.2.2.2.2.1)]) (λJ F=>[Ar cG F.2.2.2.1 J.2.2.2.2.2.2.2.2.2.1,Fq b_ F.2.2.2.2.2.2.1 F.2.2.2.2.2.2.2 J.2.2.2.2.2.2.2.2.2.2,Ar cO.raw F.2.2.2.2.1 F.2.2.2.2.2.2.1,bV N [F.2.2.2.1] 33,bV M [F.2.2.2.2.1] 32,Ar oJ F.1 J.2.2.2.2.2.2.1,Ar oJ F.2.1 J.2.2.2.2.2.2.2.1,Ar cO.raw F.2.2.1 F.2.2.2.2.2.1,kN b_ F.2.2.2.2.2.1 J.2.2.2.2.2.2.2.2.1]) (λJ F=>[Sl aQ u s.2.1,Sl aH v s.2.2,PF (Value.agg #[vS s.1,u,v]),Sl bP E G.1,S2 bA D z4 G.2,S2 bP v5 z6 p3,Sl yD v7 p4,Gb 0 (cellsOf Hl wD)]) (sS.fn (show aT Tryz.prog 54 from Tryz.call54) Z) Tryz.func54 Z Tryz.ntmps54 Z Z ?_ ?_
 ·refine aU<|aG (aL.box (cs:=[vP a.1,a.2.1,vI (R),vU (g.1),Value.func (.func 52) #[] #[vP M,vP N]]) Z Z) Z λao=>bX (Know.one ((aE.fact 6 Z))) λcc=>?_;refine aG (aL.box (cs:=[v7]) Z (by rw[fJ cc])) Z λap=>?_;refine aG (aL.alloc (cs:=Pt) Z Z) Z λa1=>aD Z<|aM<|aU<|fG 2 Z<|aA Z<|dL 1 Z<|kP (aE.fact 6 Z) Z<|aC (wR (cs:=[.tmp 3,.tmp 5]) (vs:=[vP ao,vP ap]) Z) Z<|AQ (A:=abr) (B:=Value×Value×List Value×List (List Value)×Value×Value×Value×List Value) (vs:=[Value.agg #[vP a.1,a.2.1,vI (R),vU (g.1),Value.func (.func 52) #[] #[vP M,vP N]],v5,vI (List.length p4:Int),Value.func (.func 82) #[] #[vP ao,vP ap]]) (λy=>zH  y=some r) (λy C=>Value.tuple #[Value.agg #[C.2.2.2.2.1,C.2.2.2.2.2.1,C.2.2.2.2.2.2.1,vI (y.2.2.2.2.2.1),vI (y.2.2.2.2.2.2.1),vI (y.2.2.2.2.2.2.2.1),vI (y.2.2.2.2.2.2.2.2.1),vU (y.2.2.2.2.2.2.2.2.2.1)],vI (y.2.2.2.2.2.2.2.2.2.2)]) (λy C=>[Ar cG C.1 y.1,Fq b_ C.2.2.1 C.2.2.2.1 y.2.1,Ar cO.raw C.2.1 C.2.2.1,bV a1 Pt 78,bV N [C.1] 33,bV M [C.2.1] 32,Ar oJ C.2.2.2.2.1 y.2.2.1,Ar oJ C.2.2.2.2.2.1 y.2.2.2.1,Ar cO.raw C.2.2.2.2.2.2.1 C.2.2.2.2.2.2.2,kN b_ C.2.2.2.2.2.2.2 y.2.2.2.2.1]) (λy C=>[Sl aQ u s.2.1,Sl aH v s.2.2,PF (Value.agg #[vS s.1,u,v]),Sl bP E G.1,S2 bA D z4 G.2,S2 bP v5 z6 p3,Sl yD v7 p4,Gb 0 (cellsOf Hl wD)]) (sS.fn (show aT Tryz.prog 81 from Tryz.call81) Z) Tryz.func81 Z Tryz.ntmps81 Z Z ?_ ?_
  ·refine aU<|aG (aL.box (cs:=[vP a.1,a.2.1,vI (R),vU (g.1),Value.func (.func 52) #[] #[vP M,vP N]]) Z Z) Z λa4=>aG (aL.alloc (cs:=Pt) Z Z) Z λaB=>aD Z<|aM<|aU<|aG (aL.alloc (cs:=Pt) Z Z) Z λaN=>aM<|aU<|aA Z<|fN h λa2 c0 h=>aG (aL.callQ Ma (xO U v5 z6 a2 c0) Z (qB [5] Z)) Z λad=>aD Z<|aM<|aJ ?_;refine JR.start [0,1,0,7,0,16,63,127] 6 mixedOrders (by decide +kernel) ?_;refine JR.open (by exact rfl) ?_;refine cY Z<|jO 4 Z<|bG Z<|fN h λaq c1 h=>JR.loud Z Z Z (aL.callQ VD (uV U a.1 u v a.2.2.1 u v E D z4 a.2.2.2.2.2.1 (List.zip a.2.2.2.2.2.2 g.2.2.2.2) a.2.2.2.1 (List.zip a.2.2.2.2.1 g.2.2.1) ad.1 (List.zip ad.2 a2) aq c1) Z (aF.cons (aE.res 10 Z) (aF.cons (aE.fact 0 Z) (aF.cons (aE.fact 1 Z) (aF.cons (aE.res 13 Z) (aF.cons (aE.fact 0 Z) (aF.cons (aE.fact 1 Z) (aF.cons (aE.fact 3 Z) (aF.cons (aE.fact 4 Z) (aF.cons (bS (i:=14) (j:=15) Z Z cZ) (aF.cons (bS (i:=11) (j:=12) Z Z bR) (aF.cons (bS (i:=0) (j:=1) Z Z cZ) .nil)))))))))))) Z (λc3=>(uZ [] Z)) λc3=>iH Z (eT Z Z Z Z Z)<|bJ Z (aZ.cons 4 Z .nil) .nil (gV 0 Z Z Z Z Z) (aK.h (aZ.ix [4] Z Z) .nil aK.z)<|bN 6 Z Z<|yR Z<|aD Z<|aM<|aU<|aA Z<|fN h λm c2 h=>aG (aL.callQ Ze (HO U  m c2) Z .nil) Z λdj=>aG (aL.alloc (cs:=vD2) Z Z) Z λaO=>bQ 0 (vs:=[vI (m.1),vI (m.2.1),vI (m.2.2.1),vI (m.2.2.2.1),vU (m.2.2.2.2)]) Z Z Z Z Z Z<|aM<|aU<|bU Z<|dL 5 Z<|aA Z<|aA Z<|fG 0 Z<|AQ (A:=yA) (B:=Value×Value×List Value×List (List Value)) (vs:=[ad.1,vU (dK .u32 aq g.1),Value.agg #[vI (m.1),vI (m.2.1),vI (m.2.2.1),vI (m.2.2.2.1),vU (m.2.2.2.2)],vP M,vP N]) (λaz=>Cd U s G R p4 g a2 aq m az=some r) (λaz V=>Value.tuple #[]) (λaz V=>[Ar cG V.1 (([]:Ll)++([(m.1,m.2.1,m.2.2.1,m.2.2.2.1,m.2.2.2.2)])),Fq b_ V.2.2.1 V.2.2.2 az,Ar cO.raw V.2.1 V.2.2.1,bV aO [vI (m.1),vI (m.2.1),vI (m.2.2.1),vI (m.2.2.2.1),vU (m.2.2.2.2)] 49,Ar cO.raw ad.1 ad.2,kN b_ ad.2 a2,bV aN Pt 78,bV aB Pt 78,bV a4 [vP a.1,a.2.1,vI (R),vU (g.1),Value.func (.func 52) #[] #[vP M,vP N]] 97,bV a1 Pt 78,bV ap [v7] 26,bV ao [vP a.1,a.2.1,vI (R),vU (g.1),Value.func (.func 52) #[] #[vP M,vP N]] 97,Ar oJ a.2.1 g.2.1,bV a.1 [vS (s.1),u,v,vP a.2.2.1,a.2.2.2.1] 108,Ar cO.raw a.2.2.2.1 a.2.2.2.2.1,kN bT a.2.2.2.2.1 g.2.2.1,bV a.2.2.1 [vS (s.1),u,v,E,D,vI (g.2.2.2.1),a.2.2.2.2.2.1] 137,Ar cO.raw a.2.2.2.2.2.1 a.2.2.2.2.2.2,kN b_ a.2.2.2.2.2.2 g.2.2.2.2,bV N [V.1] 33,bV M [V.2.1] 32]) (λaz V=>[Sl aQ u s.2.1,Sl aH v s.2.2,PF (Value.agg #[vS s.1,u,v]),Sl bP E G.1,S2 bA D z4 G.2,S2 bP v5 z6 p3,Sl yD v7 p4,Gb 0 (cellsOf Hl wD)]) (Gp (us:=[ad.1,vU (dK .u32 aq g.1),Value.agg #[vI (m.1),vI (m.2.1),vI (m.2.2.1),vI (m.2.2.2.1),vU (m.2.2.2.2)]]) (cs:=[vP M,vP N]) (show aT Tryz.prog 52 from Tryz.call52) Z Z Z) Tryz.func52 Z Tryz.ntmps52 Z Z ?_ ?_
   ·refine aU<|aG (aL.box (cs:=[vI (m.1),vI (m.2.1),vI (m.2.2.1),vI (m.2.2.2.1),vU (m.2.2.2.2)]) Z Z) Z λc5=>aM<|aJ ?_;refine JR.start [0,0,2,6,15,31] 4 mixedOrders (by decide +kernel) ?_;refine JR.open (by exact rfl) ?_;refine jO 19 Z<|bG Z<|fN h λbk cF h=>JR.loud Z Z Z (aL.callQ Ma (xO U ad.1 (List.zip ad.2 a2) bk cF) Z (aF.cons (bS (i:=2) (j:=3) Z Z cZ) .nil)) Z (λan=>(uZ [([21],[])] Z)) λan=>c_ (Know.one (aE.sl (bS (i:=0) (j:=1) Z Z cZ))) λba=>JR.stp (zN b_)<|JR.stp (RD 1 2 Z Z Z)<|JR.stp (IP 0 1 Z Z Z) ?_;refine JR.loud Z Z Z (bZ (e:=cO.raw) (([]:fM)++[an.1]) [(0,an.1)] Z Z Z Z (nQ (an.1) ba) Z Z (by simp[cellsOf,cO.raw,ba])) Z (λcv=>(uZ [([21],[])] Z)) λcv=>?_;refine bN 4 Z Z<|jD (iC cO.raw) (jD (zN b_) ?_);refine bX (jF 0 Z) λa7=>bX (jF 3 Z) λa8=>dH h λbd h=>jD (IQ 0 3 Z Z Z) ?_;refine aG (aL.append 1 2 Z Z Z Z Z Z Z (by have q:=bd;have q1:=a7;have q2:=a8;(try simp only[List.length_cons,List.length_nil,List.length_append]at q q1 q2 ⊢);omega) (by have q:=bd;have q1:=a7;have q2:=a8;(try simp only[List.length_cons,List.length_nil,List.length_append]at q q1 q2 ⊢);omega) Z) Z λcw=>?_;refine bX (II 1 Z) λbF=>gY 22 Z Z bF Z Z Z<|aM<|aR<|dL 21 Z<|fG 3 Z<|aG (bZ (e:=cG) ([((m.1,m.2.1,m.2.2.1,m.2.2.2.1,m.2.2.2.2))]) [(0,Value.agg #[vI (m.1),vI (m.2.1),vI (m.2.2.1),vI (m.2.2.2.1),vU (m.2.2.2.2)])] Z Z Z Z (Oa (vI (m.1)) (vI (m.2.1)) (vI (m.2.2.1)) (vI (m.2.2.2.1)) (vU (m.2.2.2.2))) Z Z Z) Z λdc=>jD (iC cG)<|dH h λck h=>aG (eJ 0 jE Z Z Z (bD (aE.res 1 Z) jE) Z Z Z Z ck Z) Z λcx=>bX (Know.one ((bD (aE.res 0 Z) jE))) λbH=>gY 23 Z Z bH Z Z Z<|eR ?_;exact uC (([]:yA)++(([]:yA)++[bk])) (cx,cw,(([]:fM)++(([]:fM)++[an.1])),(([]:List (List Value))++(([]:List (List Value))++[an.2]))) h (.inr Z) (Gw.r0 Z) Z (aZ.ix [0,2,3,6,7,8,9,10,11,12,13,14,16,17,18,19,20,21,22,23,24] Z Z) (aF.refl _ _)
   intro az V h;refine aM<|aU<|bU Z<|dL 6 Z<|aA Z<|aG (bZ (e:=oJ) ([(dK .u32 aq g.1)]) [(0,vU (dK .u32 aq g.1))] Z Z Z Z (nQ (vU (dK .u32 aq g.1)) Z) Z Z Z) Z λdi=>jD (iC oJ)<|dH h λcg h=>aG (eJ 0 sT Z Z Z (bD (aE.res 1 Z) sT) Z Z Z Z cg Z) Z λco=>bU Z<|bX (Know.one ((bD (aE.res 0 Z) sT))) λbr=>gY 8 Z Z br Z Z Z<|aM<|aJ<|Ei (B:=Value×List Value×Value×Value×Value×Value×List Value×List (List Value)) (λn=>v_  n=some r) (λn p=>[(1,p.1),(8,vP aB),(10,vP aN),(12,vP aO)]) (λn p=>[Ar oJ p.2.2.2.1 n.1,Ar cG p.2.2.2.2.1 n.2.2.2.2.2.2.2.2.1,Fq b_ p.2.2.2.2.2.2.1 p.2.2.2.2.2.2.2 n.2.2.2.2.2.2.2.2.2,Ar cO.raw p.2.2.2.2.2.1 p.2.2.2.2.2.2.1,bV aO [vI (n.2.1),vI (n.2.2.1),vI (n.2.2.2.1),vI (n.2.2.2.2.1),vU (n.2.2.2.2.2.1)] 49,Ar cO.raw p.1 p.2.1,kN b_ p.2.1 n.2.2.2.2.2.2.1,bV aN [p.2.2.1,p.2.2.2.1,lC,vI (0:Int),vI (0:Int),vI (0:Int),vI (0:Int),vU (0:Int)] 78,bV aB Pt 78,bV a1 Pt 78,bV N [p.2.2.2.2.1] 33,bV M [p.2.2.2.2.2.1] 32,Ar oJ p.2.2.1 n.2.2.2.2.2.2.2.1]) ?_ ?_
   ·refine aU<|aA Z<|aA Z<|aM<|aV<|jD (iC oJ)<|e_ (B:=Value×List Value×Value×Value×Value×Value×List Value×List (List Value)) (sA U s G R p4 g) (λb d=>[(1,d.1),(3,Value.func (.func 82) #[] #[vP ao,vP ap]),(4,vP a4),(8,vP aB),(10,vP aN),(11,vU (b.1)),(12,vP aO),(39,vI (List.length p4:Int)),(40,vI (b.2.2.1))]) (λb d=>[Ar oJ d.2.2.2.1 b.2.1,Ar cG d.2.2.2.2.1 b.2.2.2.2.2.2.2.2.2.2.1,Fq b_ d.2.2.2.2.2.2.1 d.2.2.2.2.2.2.2 b.2.2.2.2.2.2.2.2.2.2.2,Ar cO.raw d.2.2.2.2.2.1 d.2.2.2.2.2.2.1,bV aO [vI (b.2.2.2.1),vI (b.2.2.2.2.1),vI (b.2.2.2.2.2.1),vI (b.2.2.2.2.2.2.1),vU (b.2.2.2.2.2.2.2.1)] 49,Ar cO.raw d.1 d.2.1,kN b_ d.2.1 b.2.2.2.2.2.2.2.2.1,bV aN [d.2.2.1,d.2.2.2.1,lC,vI (0:Int),vI (0:Int),vI (0:Int),vI (0:Int),vU (0:Int)] 78,bV aB Pt 78,bV a4 [vP a.1,a.2.1,vI (R),vU (g.1),Value.func (.func 52) #[] #[vP M,vP N]] 97,bV a1 Pt 78,bV ap [v7] 26,bV ao [vP a.1,a.2.1,vI (R),vU (g.1),Value.func (.func 52) #[] #[vP M,vP N]] 97,Ar oJ a.2.1 g.2.1,bV a.1 [vS (s.1),u,v,vP a.2.2.1,a.2.2.2.1] 108,Ar cO.raw a.2.2.2.1 a.2.2.2.2.1,kN bT a.2.2.2.2.1 g.2.2.1,bV a.2.2.1 [vS (s.1),u,v,E,D,vI (g.2.2.2.1),a.2.2.2.2.2.1] 137,Ar cO.raw a.2.2.2.2.2.1 a.2.2.2.2.2.2,kN b_ a.2.2.2.2.2.2 g.2.2.2.2,bV N [d.2.2.2.2.1] 33,bV M [d.2.2.2.2.2.1] 32,Ar oJ d.2.2.1 b.2.2.2.2.2.2.2.2.2.1]) ((dK .u32 aq g.1),(([]:aP)++([(dK .u32 aq g.1)])),(0:Int),m.1,m.2.1,m.2.2.1,m.2.2.2.1,m.2.2.2.2,a2,([]:aP),(([]:Ll)++([(m.1,m.2.1,m.2.2.1,m.2.2.2.1,m.2.2.2.2)])),az) (ad.1,ad.2,(lC),co,V.1,V.2.1,V.2.2.1,V.2.2.2) h SF (aZ.ix [1,3,4,5,6,7,8,9,10,11,12,13,14,15,16,17,18,19,20,21,22,23,0] Z Z) ?_;intro bg b d h;refine aU<|cX Z<|aM<|aJ ?_;refine fC h Z (λh=>?_) λh=>?_
    ·refine cV<|aJ<|aV<|aU<|aA Z<|aD Z<|aM<|aU<|aA Z<|aA Z<|aA Z<|AQ (A:=Int) (B:=Unit) (vs:=[vI (b.2.2.1),vU (b.1),vP ao,vP ap]) (λO=>Ce U s G R g b (bK (sA U s G R p4 g) bg) O=some r) (λO a3=>Value.tuple #[vU (O),vB (decide (b.1≠(0:Int)))]) (λO a3=>[Ar oJ d.2.2.2.1 b.2.1,Ar cG d.2.2.2.2.1 b.2.2.2.2.2.2.2.2.2.2.1,Fq b_ d.2.2.2.2.2.2.1 d.2.2.2.2.2.2.2 b.2.2.2.2.2.2.2.2.2.2.2,Ar cO.raw d.2.2.2.2.2.1 d.2.2.2.2.2.2.1,bV aO [vI (b.2.2.2.1),vI (b.2.2.2.2.1),vI (b.2.2.2.2.2.1),vI (b.2.2.2.2.2.2.1),vU (b.2.2.2.2.2.2.2.1)] 49,Ar cO.raw d.1 d.2.1,kN b_ d.2.1 b.2.2.2.2.2.2.2.2.1,bV aN [d.2.2.1,d.2.2.2.1,lC,vI (0:Int),vI (0:Int),vI (0:Int),vI (0:Int),vU (0:Int)] 78,bV aB Pt 78,bV a4 [vP a.1,a.2.1,vI (R),vU (g.1),Value.func (.func 52) #[] #[vP M,vP N]] 97,bV a1 Pt 78,bV ap [v7] 26,bV ao [vP a.1,a.2.1,vI (R),vU (g.1),Value.func (.func 52) #[] #[vP M,vP N]] 97,Ar oJ a.2.1 g.2.1,bV a.1 [vS (s.1),u,v,vP a.2.2.1,a.2.2.2.1] 108,Ar cO.raw a.2.2.2.1 a.2.2.2.2.1,kN bT a.2.2.2.2.1 g.2.2.1,bV a.2.2.1 [vS (s.1),u,v,E,D,vI (g.2.2.2.1),a.2.2.2.2.2.1] 137,Ar cO.raw a.2.2.2.2.2.1 a.2.2.2.2.2.2,kN b_ a.2.2.2.2.2.2 g.2.2.2.2,bV N [d.2.2.2.2.1] 33,bV M [d.2.2.2.2.2.1] 32,Ar oJ d.2.2.1 b.2.2.2.2.2.2.2.2.2.1]) (λO a3=>[Sl aQ u s.2.1,Sl aH v s.2.2,PF (Value.agg #[vS s.1,u,v]),Sl bP E G.1,S2 bA D z4 G.2,S2 bP v5 z6 p3,Sl yD v7 p4,Gb 0 (cellsOf Hl wD)]) (Gp (us:=[vI (b.2.2.1),vU (b.1)]) (cs:=[vP ao,vP ap]) (show aT Tryz.prog 82 from Tryz.call82) Z Z Z) Tryz.func82 Z Tryz.ntmps82 Z Z ?_ ?_
     ·refine aU<|aD Z<|aD Z<|aM<|aJ ?_;refine JR.start [0,1,0,4,0,0,0,96,224,511,0,1024,1023,8191] 13 mixedOrders (by decide +kernel) ?_;refine JR.open (by exact rfl) ?_;refine cY Z<|jO 12 Z<|cY Z<|jO 12 Z<|bG Z<|jO 11 Z<|bG Z<|dH h λbc h=>bJ Z .nil (nA 6 Z) (bB Z Z (aE.fact 0 Z) Z Z bc) aK.z<|bJ Z .nil (nA 6 Z) (bY Z (aE.fact 0 Z) Z Z Z Gv bc) aK.z<|fN h λbj cE h=>JR.loud Z Z Z (aL.callQ VL (wB U a.2.1 bj cE) Z (aF.cons (bD (aE.res 13 Z) sT) (qB [7] Z))) Z (λcR=>(uZ [] Z)) λcR=>iH Z (fZ Z)<|iH Z (CU Z Z)<|iH Z (lJ Z)<|bN 13 Z Z<|aD Z<|aM<|aS ?_;exact uC (bj) () h (.inl Z) (Gw.r2 Z (RV.tmp Z) (RV.tmp Z)) Z (aZ.refl _) (aF.refl _ _)
     intro O a3 h;refine aA Z<|iK Z<|iK Z<|aD Z<|aD Z<|aM<|aJ<|aU<|aA Z<|aC (abP Z) Z<|aM ?_;refine fC h Z (λh=>?_) λh=>?_
     ·refine u_<|gU<|YD Z<|gU<|gU<|Az<|AA ?_;exact cU (b.2.1,b.2.2.2.1,b.2.2.2.2.1,b.2.2.2.2.2.1,b.2.2.2.2.2.2.1,b.2.2.2.2.2.2.2.1,b.2.2.2.2.2.2.2.2.1,b.2.2.2.2.2.2.2.2.2.1,b.2.2.2.2.2.2.2.2.2.2.1,b.2.2.2.2.2.2.2.2.2.2.2) (d.1,d.2.1,d.2.2.1,d.2.2.2.1,d.2.2.2.2.1,d.2.2.2.2.2.1,d.2.2.2.2.2.2.1,d.2.2.2.2.2.2.2) h SF (aZ.ix [0,1,2,3,4,5,6,7,8,10,20,21,22] Z Z) (aF.refl _ _)
     refine cV<|aJ<|aU<|bU Z<|dL 9 Z<|bU Z<|dL 9 Z<|aA Z<|aA Z<|fN h λcn cz h=>aG (aL.callQ RN (wA U a.2.1 cn cz) Z (aF.cons (bD (aE.res 13 Z) sT) (qB [7] Z))) Z λde=>aC (sV Z) Z<|aM ?_;refine Bm h Z (λ_ h=>?_) λ_ h=>?_
     ·refine aU ?_;refine aC (LN (r:=Value.agg #[lC,lC,lC,vI (0:Int),vI (0:Int),vI (0:Int),vI (0:Int),vU (0:Int)]) (by intro w;simp[Instr.build,Instr.fill,eL,dU,dC,eM,eN,dV,f_])) Z ?_;refine bQ 8 (vs:=Pt) Z Z Z Z Z Z<|aD Z<|aM<|aS<|aI<|bM<|aI<|aI<|bM<|aI<|jD (iC oJ)<|jD (iC oJ)<|jD (iC cO.raw) (jD (CR b_) ?_);exact uC (b.2.2.2.2.2.2.2.2.2.2.1,b.2.2.2.2.2.2.2.2.2.2.2,([]:aP),([]:aP),([]:bI),(0:Int),(0:Int),(0:Int),(0:Int),(0:Int),(11:Int)) (d.2.2.2.2.1,d.2.2.2.2.2.1,d.2.2.2.2.2.2.1,d.2.2.2.2.2.2.2,(lC),(lC),(lC),([]:fM)) h (.inl Z) (Gw.r2 Z (RV.cell 12 Z Z Z Z) (RV.tmp Z)) Z (aZ.ix [5,6,7,14,24,25,2,3,1,0] Z Z) (aF.refl _ _)
     refine cV<|aU<|bU Z<|dL 9 Z<|aA Z<|aA Z<|fN h λal cA h=>aG (aL.callQ Zf (Dt U a.1 u v a.2.2.1 u v E D z4 a.2.2.2.2.2.1 (List.zip a.2.2.2.2.2.2 g.2.2.2.2) a.2.2.2.1 (List.zip a.2.2.2.2.1 g.2.2.1) d.1 (List.zip d.2.1 b.2.2.2.2.2.2.2.2.1) al cA) Z (aF.cons (aE.res 14 Z) (aF.cons (aE.fact 0 Z) (aF.cons (aE.fact 1 Z) (aF.cons (aE.res 17 Z) (aF.cons (aE.fact 0 Z) (aF.cons (aE.fact 1 Z) (aF.cons (aE.fact 3 Z) (aF.cons (aE.fact 4 Z) (aF.cons (bS (i:=18) (j:=19) Z Z cZ) (aF.cons (bS (i:=15) (j:=16) Z Z bR) (aF.cons (bS (i:=5) (j:=6) Z Z cZ) .nil)))))))))))) Z λQ=>aD Z<|aM<|aJ ?_;refine JR.start [0,1,0,7,0,16,63,127] 6 mixedOrders (by decide +kernel) ?_;refine JR.open (by exact rfl) ?_;refine cY Z<|jO 11 Z<|bG Z<|fN h λW cB h=>JR.loud Z Z Z (aL.callQ VD (uV U a.1 u v a.2.2.1 u v E D z4 a.2.2.2.2.2.1 (List.zip a.2.2.2.2.2.2 g.2.2.2.2) a.2.2.2.1 (List.zip a.2.2.2.2.1 g.2.2.1) Q.1 (List.zip Q.2 al) W cB) Z (aF.cons (aE.res 16 Z) (aF.cons (aE.fact 0 Z) (aF.cons (aE.fact 1 Z) (aF.cons (aE.res 19 Z) (aF.cons (aE.fact 0 Z) (aF.cons (aE.fact 1 Z) (aF.cons (aE.fact 3 Z) (aF.cons (aE.fact 4 Z) (aF.cons (bS (i:=20) (j:=21) Z Z cZ) (aF.cons (bS (i:=17) (j:=18) Z Z bR) (aF.cons (bS (i:=0) (j:=1) Z Z cZ) .nil)))))))))))) Z (λcN=>(uZ [] Z)) λcN=>iH Z (eT Z Z Z Z Z)<|bJ Z (aZ.cons 11 Z .nil) .nil (gV 0 Z Z Z Z Z) (aK.h (aZ.ix [11] Z Z) .nil aK.z)<|bN 6 Z Z<|yR Z<|aD Z<|aM<|aU<|fG 6 Z<|aA Z<|aA Z<|fN h λf cC h=>aG (aL.callQ Zg (Kn U  f cC) Z .nil) Z λdf=>aA Z<|iK Z<|iK Z<|bQ 6 (vs:=[vI (f.1.1),vI (f.1.2.1),vI (f.1.2.2.1),vI (f.1.2.2.2.1),vU (f.1.2.2.2.2)]) Z Z Z Z Z Z<|aM<|aU<|bU Z<|dL 11 Z<|aA Z<|aA Z<|fG 6 Z<|AQ (A:=yA) (B:=Value×Value×List Value×List (List Value)) (vs:=[Q.1,vU (dK .u32 W g.1),Value.agg #[vI (f.1.1),vI (f.1.2.1),vI (f.1.2.2.1),vI (f.1.2.2.2.1),vU (f.1.2.2.2.2)],vP M,vP N]) (λac=>Cf g b (bK (sA U s G R p4 g) bg) O al W f ac=some r) (λac H=>Value.tuple #[]) (λac H=>[Ar cO.raw Q.1 Q.2,kN b_ Q.2 al,Ar oJ d.2.2.2.1 b.2.1,Ar cG H.1 (b.2.2.2.2.2.2.2.2.2.2.1++([(f.1.1,f.1.2.1,f.1.2.2.1,f.1.2.2.2.1,f.1.2.2.2.2)])),Fq b_ H.2.2.1 H.2.2.2 ac,Ar cO.raw H.2.1 H.2.2.1,bV aO [vI (f.1.1),vI (f.1.2.1),vI (f.1.2.2.1),vI (f.1.2.2.2.1),vU (f.1.2.2.2.2)] 49,bV aN [d.2.2.1,d.2.2.2.1,lC,vI (0:Int),vI (0:Int),vI (0:Int),vI (0:Int),vU (0:Int)] 78,bV aB Pt 78,bV a4 [vP a.1,a.2.1,vI (R),vU (g.1),Value.func (.func 52) #[] #[vP M,vP N]] 97,bV a1 Pt 78,bV ap [v7] 26,bV ao [vP a.1,a.2.1,vI (R),vU (g.1),Value.func (.func 52) #[] #[vP M,vP N]] 97,Ar oJ a.2.1 g.2.1,bV a.1 [vS (s.1),u,v,vP a.2.2.1,a.2.2.2.1] 108,Ar cO.raw a.2.2.2.1 a.2.2.2.2.1,kN bT a.2.2.2.2.1 g.2.2.1,bV a.2.2.1 [vS (s.1),u,v,E,D,vI (g.2.2.2.1),a.2.2.2.2.2.1] 137,Ar cO.raw a.2.2.2.2.2.1 a.2.2.2.2.2.2,kN b_ a.2.2.2.2.2.2 g.2.2.2.2,bV N [H.1] 33,bV M [H.2.1] 32,Ar oJ d.2.2.1 b.2.2.2.2.2.2.2.2.2.1]) (λac H=>[Sl aQ u s.2.1,Sl aH v s.2.2,PF (Value.agg #[vS s.1,u,v]),Sl bP E G.1,S2 bA D z4 G.2,S2 bP v5 z6 p3,Sl yD v7 p4,Gb 0 (cellsOf Hl wD)]) (Gp (us:=[Q.1,vU (dK .u32 W g.1),Value.agg #[vI (f.1.1),vI (f.1.2.1),vI (f.1.2.2.1),vI (f.1.2.2.2.1),vU (f.1.2.2.2.2)]]) (cs:=[vP M,vP N]) (show aT Tryz.prog 52 from Tryz.call52) Z Z Z) Tryz.func52 Z Tryz.ntmps52 Z Z ?_ ?_
     ·refine aU<|aG (aL.box (cs:=[vI (f.1.1),vI (f.1.2.1),vI (f.1.2.2.1),vI (f.1.2.2.2.1),vU (f.1.2.2.2.2)]) Z Z) Z λc4=>aM<|aJ ?_;refine JR.start [0,0,2,6,15,31] 4 mixedOrders (by decide +kernel) ?_;refine JR.open (by exact rfl) ?_;refine jO 24 Z<|bG Z<|fN h λbi cD h=>JR.loud Z Z Z (aL.callQ Ma (xO U Q.1 (List.zip Q.2 al) bi cD) Z (aF.cons (bS (i:=1) (j:=2) Z Z cZ) .nil)) Z (λam=>(uZ [([26],[])] Z)) λam=>c_ (Know.one (aE.sl (bS (i:=0) (j:=1) Z Z cZ))) λa9=>JR.stp (zN b_)<|JR.stp (RD 1 2 Z Z Z)<|JR.stp (IP 0 1 Z Z Z) ?_;refine JR.loud Z Z Z (bZ (e:=cO.raw) (([]:fM)++[am.1]) [(0,am.1)] Z Z Z Z (nQ (am.1) a9) Z Z (by simp[cellsOf,cO.raw,a9])) Z (λcr=>(uZ [([26],[])] Z)) λcr=>?_;refine bN 4 Z Z<|bX (jF 7 Z) λa5=>bX (jF 1 Z) λa6=>dH h λbb h=>jD (IQ 7 1 Z Z Z) ?_;refine aG (aL.append 7 0 Z Z Z Z Z Z Z (by have q:=bb;have q1:=a5;have q2:=a6;(try simp only[List.length_cons,List.length_nil,List.length_append]at q q1 q2 ⊢);omega) (by have q:=bb;have q1:=a5;have q2:=a6;(try simp only[List.length_cons,List.length_nil,List.length_append]at q q1 q2 ⊢);omega) Z) Z λct=>?_;refine bX (II 7 Z) λbC=>gY 25 Z Z bC Z Z Z<|aM<|aR<|dL 24 Z<|fG 1 Z<|aG (bZ (e:=cG) ([((f.1.1,f.1.2.1,f.1.2.2.1,f.1.2.2.2.1,f.1.2.2.2.2))]) [(0,Value.agg #[vI (f.1.1),vI (f.1.2.1),vI (f.1.2.2.1),vI (f.1.2.2.2.1),vU (f.1.2.2.2.2)])] Z Z Z Z (Oa (vI (f.1.1)) (vI (f.1.2.1)) (vI (f.1.2.2.1)) (vI (f.1.2.2.2.1)) (vU (f.1.2.2.2.2))) Z Z Z) Z λdb=>dH h λcj h=>aG (eJ 6 jE Z Z Z (bD (aE.res 0 Z) jE) Z Z Z Z cj Z) Z λcu=>bX (Know.one ((bD (aE.res 6 Z) jE))) λbE=>gY 25 Z Z bE Z Z Z<|eR ?_;exact uC (b.2.2.2.2.2.2.2.2.2.2.2++(([]:yA)++[bi])) (cu,ct,(d.2.2.2.2.2.2.1++(([]:fM)++[am.1])),(d.2.2.2.2.2.2.2++(([]:List (List Value))++[am.2]))) h (.inr Z) (Gw.r0 Z) Z (aZ.ix [3,4,5,6,7,8,9,12,13,14,15,16,17,18,19,20,21,22,23,24,25,26,27] Z Z) (aF.refl _ _)
     intro ac H h;refine aM<|aU<|bU Z<|dL 7 Z<|aA Z<|aG (bZ (e:=oJ) ([O]) [(0,vU (O))] Z Z Z Z (nQ (vU (O)) Z) Z Z Z) Z λc9=>dH h λch h=>aG (eJ 23 sT Z Z Z (bD (aE.res 0 Z) sT) Z Z Z Z ch Z) Z λcp=>bU Z<|bX (Know.one ((bD (aE.res 23 Z) sT))) λbx=>gY 8 Z Z bx Z Z Z<|aM<|aR<|bU Z<|dL 8 Z<|aA Z<|aG (bZ (e:=oJ) ([(dK .u32 W g.1)]) [(0,vU (dK .u32 W g.1))] Z Z Z Z (nQ (vU (dK .u32 W g.1)) Z) Z Z Z) Z λda=>dH h λci h=>aG (eJ 4 sT Z Z Z (bD (aE.res 0 Z) sT) Z Z Z Z ci Z) Z λcq=>bU Z<|bX (Know.one ((bD (aE.res 4 Z) sT))) λbz=>gY 9 Z Z bz Z Z Z<|eR<|o_<|aR<|cP Z<|aA Z<|aM ?_;exact nM ((dK .u32 W g.1),(b.2.1++([(dK .u32 W g.1)])),(wI .i64 (b.2.2.1+(1:Int))),f.1.1,f.1.2.1,f.1.2.2.1,f.1.2.2.2.1,f.1.2.2.2.2,al,(b.2.2.2.2.2.2.2.2.2.1++[O]),(b.2.2.2.2.2.2.2.2.2.2.1++([(f.1.1,f.1.2.1,f.1.2.2.1,f.1.2.2.2.1,f.1.2.2.2.2)])),ac) (Q.1,Q.2,cp,cq,H.1,H.2.1,H.2.2.1,H.2.2.2) h SF (aZ.ix [4,5,6,7,8,2,3,9,10,11,12,13,14,15,16,17,18,19,20,21,22,23,24] Z Z) (aF.refl _ _)
    refine gK ?_;exact cU (b.2.1,b.2.2.2.1,b.2.2.2.2.1,b.2.2.2.2.2.1,b.2.2.2.2.2.2.1,b.2.2.2.2.2.2.2.1,b.2.2.2.2.2.2.2.2.1,b.2.2.2.2.2.2.2.2.2.1,b.2.2.2.2.2.2.2.2.2.2.1,b.2.2.2.2.2.2.2.2.2.2.2) (d.1,d.2.1,d.2.2.1,d.2.2.2.1,d.2.2.2.2.1,d.2.2.2.2.2.1,d.2.2.2.2.2.2.1,d.2.2.2.2.2.2.2) h SF (aZ.ix [0,1,2,3,4,5,6,7,8,10,20,21,22] Z Z) (aF.refl _ _)
   intro n p h;unfold v_ at h;refine aJ ?_;refine JR.start [0,0,1,5,15,31] 4 mixedOrders (by decide +kernel) ?_;refine JR.open (by exact rfl) ?_;refine bG Z<|pG 4 Z<|cY Z<|c_ (Know.one (aE.sl (bS (i:=5) (j:=6) Z Z cZ))) λbs=>CO Z Z Z (No 7 Z Z bs Z Z Z) (λcM=>(uZ [([4],[])] Z)) λcM=>bN 4 Z Z<|bU Z<|LF (IL 7 (us:=[vI (n.2.1),vI (n.2.2.1),vI (n.2.2.2.1),vI (n.2.2.2.2.1),vU (n.2.2.2.2.2.1)]) Z Z Z Z Z Z Z Z Z) λdd=>aM<|aU<|fG 7 Z<|bX (Know.one ((bD (aE.res 12 Z) sT))) λbt=>bX (Know.one ((bD (aE.res 0 Z) sT))) λbu=>bX (Know.one (aE.sl (bS (i:=5) (j:=6) Z Z cZ))) λbw=>bQ 8 (vs:=[p.2.2.1,p.2.2.2.1,p.1,vI (n.2.1),vI (n.2.2.1),vI (n.2.2.2.1),vI (n.2.2.2.2.1),vU (n.2.2.2.2.2.1)]) Z Z (kR bt (kR bu (kR bw (kR Z (kR Z (kR Z (kR Z (kR Z Z)))))))) Z Z Z<|aD Z<|aM<|aS ?_;exact uC (n.2.2.2.2.2.2.2.2.1,n.2.2.2.2.2.2.2.2.2,n.2.2.2.2.2.2.2.1,n.1,n.2.2.2.2.2.2.1,n.2.1,n.2.2.1,n.2.2.2.1,n.2.2.2.2.1,n.2.2.2.2.2.1,(0:Int)) (p.2.2.2.2.1,p.2.2.2.2.2.1,p.2.2.2.2.2.2.1,p.2.2.2.2.2.2.2,p.2.2.1,p.2.2.2.1,p.1,p.2.1) h (.inl Z) (Gw.r2 Z (RV.cell 8 Z Z Z Z) (RV.tmp Z)) Z (aZ.ix [1,2,3,9,10,11,12,0,5,6] Z Z) (aF.refl _ _)
  intro y C h;unfold zH at h;refine iK Z<|iK Z<|bX (Know.one ((bD (aE.res 6 Z) sT))) λcd=>bX (Know.one ((bD (aE.res 7 Z) sT))) λce=>bX (Know.one (aE.sl (bS (i:=8) (j:=9) Z Z cZ))) λcf=>bQ 3 (vs:=[C.2.2.2.2.1,C.2.2.2.2.2.1,C.2.2.2.2.2.2.1,vI (y.2.2.2.2.2.1),vI (y.2.2.2.2.2.2.1),vI (y.2.2.2.2.2.2.2.1),vI (y.2.2.2.2.2.2.2.2.1),vU (y.2.2.2.2.2.2.2.2.2.1)]) Z Z (kR cd (kR ce (kR cf (kR Z (kR Z (kR Z (kR Z (kR Z Z)))))))) Z Z Z<|aD Z<|aM<|aS ?_;exact uC (y.2.2.2.2.2.1,y.2.2.2.2.2.2.1,y.2.2.2.2.2.2.2.1,y.2.2.2.2.2.2.2.2.1,y.2.2.2.2.2.2.2.2.2.1,y.2.2.2.2.2.2.2.2.2.2,y.2.2.1,y.2.2.2.1,y.2.2.2.2.1,y.1,y.2.1) (C.2.2.2.2.1,C.2.2.2.2.2.1,C.2.2.2.2.2.2.1,C.1,C.2.1,C.2.2.2.2.2.2.2,C.2.2.1,C.2.2.2.1) h (.inl Z) (Gw.r2 Z (RV.cell 3 Z Z Z Z) (RV.tmp Z)) Z (aZ.ix [0,1,2,4,5,6,7,8,9] Z Z) (aF.refl _ _)
 intro J F h;refine aA Z<|iK Z<|iK Z<|aG (aL.alloc (cs:=Pt) Z Z) Z λdh=>bX (Know.one ((bD (aE.res 6 Z) sT))) λb9=>bX (Know.one ((bD (aE.res 7 Z) sT))) λca=>bX (Know.one (aE.sl (bS (i:=8) (j:=9) Z Z cZ))) λcb=>bQ 0 (vs:=[F.1,F.2.1,F.2.2.1,vI (J.1),vI (J.2.1),vI (J.2.2.1),vI (J.2.2.2.1),vU (J.2.2.2.2.1)]) Z Z (kR b9 (kR ca (kR cb (kR Z (kR Z (kR Z (kR Z (kR Z Z)))))))) Z Z Z<|aD Z<|aM<|aU<|aA Z<|pI Z<|aM ?_;refine fC h Z (λh=>?_) λh=>?_
 ·refine aU<|aA Z<|aD Z<|aD Z<|aD Z<|aM<|aS<|aI<|jD (iC cO.raw) (jD (zN b_) ?_);refine jD (iC cG) ?_;cases h;exact HZ ((lC),([]:fM),([]:List (List Value)),(lC)) Z Z (RV.tmp Z) (RV.tmp Z) (RV.tmp Z) (aZ.ix [2,1,0] Z Z) aF.nil
 refine cV<|aJ ?_;refine JR.start [0,0,1,7,15] 3 mixedOrders (by decide +kernel) ?_;refine JR.open (by exact rfl) ?_;refine jO 5 Z<|jO 4 Z<|iH Z (lJ Z)<|bN 3 Z Z<|aD Z<|aD Z<|aM<|aS ?_;cases h;exact HZ (F.2.2.2.2.1,F.2.2.2.2.2.2.1,F.2.2.2.2.2.2.2,F.2.2.2.1) Z Z (RV.tmp Z) (RV.tmp Z) (RV.tmp Z) (aZ.ix [3,2,1] Z Z) aF.nil
end Go.Proofs.YtmdlcmbplnhdnaaGreatDoor
namespace Go.Proofs.YtmdlcmbplnhdnaaGreatDoor
open Go Go.Sx
theorem Uw {g:GR} (e:VG g) (p:sU) (b:Int) (c:bI) (o:aP):
  bK (nU 1000 p g b c o) 1000 ((0:Int),(0:Int),(List.replicate (Int.toNat (List.length g.2:Int)) ([]:aP)))=tB 1000 p g b c o (jT g g.2.length,eS g):=by
 have z:=e.n24;have s:=e.len;let f:Nat->aP:=λv=>(List.range (row g v).length).map (Cs g v);let Q:Nat->bI:=λk=>(List.range k).map f++List.replicate (g.2.length - k) [];have q:∀k,k<=g.2.length->(Q k).length=g.2.length:=λk i=>by simp[Q];omega
 rw[show List.replicate (Int.toNat (List.length g.2:Int)) ([]:aP)=Q 0 by simp[Q]];refine eO (step:=nU 1000 p g b c o) g.2.length (λk=>((k:Int),jT g k,Q k)) (λk d i=> ?_) (λd=> ?_) 1000 (by omega)
 ·have r:=(e.node k i).deg;have t:k<(Q k).length:=by rw[q k (by omega)];exact i
  unfold nU;dsimp only;rw[if_pos (by omega),cC (by omega),cC (by omega)];let a:Nat->aP:=λj=>(List.range j).map (Cs g k);have y:Q k=(Q k).set k (a 0):=by
   have:at' (Q k) (k:Int)=a 0:=by
    rw[kV t];simp[Q,a]
   rw[<-this];exact(EW (Q k) (k:Int) (by simpa using t) (by omega)).symm
  rw[show(Q k)=(Q k).set k (a 0)from y];have h:∀A:bI,A.length=g.2.length->bK (sB 1000 g ((k:Int),jT g k,(Q k).set k (a 0)) d) 1000 ((0:Int),A.set k (a 0))=d (((k+1:Nat):Int),jT g (k+1),A.set k (f k)):=by
   intro A D;refine eO (step:=sB 1000 g ((k:Int),jT g k,(Q k).set k (a 0)) d) (K:=d (((k+1:Nat):Int),jT g (k+1),A.set k (f k))) (row g k).length (λj=>((j:Int),A.set k (a j))) (λj m C=> ?_) (λm=> ?_) 1000 (by omega)
   ·obtain⟨u,w,l⟩:=e.to i C;have B:=(e.node u w).deg;have x:at' (A.set k (a j)) (k:Int)=a j:=by rw[sL _ _ _ _ (by omega),if_pos Z]
    have n:(a j).length=j:=by simp[a]
    unfold sB;dsimp only;rw[if_pos (show(j:Int)<((row g k).length:Int) by omega),cC (show 0<=(j:Int)∧(j:Int)<((row g k).length:Int) by omega),cC (by simp only[List.length_set];omega),show at' (at' g.2 (k:Int)) (j:Int)=fY (row g k) j from rfl,l,bF (show rA 1000 _ (u:Int) (k:Int)=_ from Uq g u (k:Int) w (by omega)),x,cC (by rw[n];simp;omega),cC (by simp only[List.length_set];omega),dZ (by omega),Int.toNat_natCast,List.set_set];have:a j++[zW (row g u) (k:Int)]=a (j+1):=by
     simp only[a];rw[List.range_succ,List.map_append,List.map_singleton,Cs,l,Int.toNat_natCast]
    rw[this]
   ·unfold sB xK;dsimp only;rw[if_neg (show¬((row g k).length:Int)<((row g k).length:Int)from Int.lt_irrefl _),dZ (by omega)];rfl
  have:=h (Q k) (q k (by omega));rw[xJ f [] g.2.length k i]at this;exact this
 ·unfold nU;dsimp only;rw[if_neg (by omega)];simp[Q,eS,f]
noncomputable def Jc (p:sU) (vars:List CG) (R:List RL) (g:GR) (kind:Int) (ws:aP) (a:bI):Nat->CT
 |0=>(0,0,0,0,dK .u32 ((oA (aO p g) R (dY g) a:Nat):Int) 16777215)
 |k+1=>((fI 1000 (Jc p vars R g kind ws a k) ((nxt g kind (oA (aO p g) R (dY g) (Cb p vars R g kind ws a k)) (at' ws (k:Int)):Nat):Int) ((oA (aO p g) R (dY g) (Cb p vars R g kind ws a (k+1)):Nat):Int)).getD ((0,0,0,0,0),0)).1
theorem acF (p p':sU) (vars:List CG) (R:List RL) (g:GR) (kind:Int) (ws:aP) (a:bI) (k:Nat):Jc p vars R g kind ws a k=Jc p' vars R g kind ws a k:=by
 induction k with
 |zero=>rfl
 |succ k b=>rw[Jc,Jc,b,JN p p',JN p p' vars R g kind ws a (k+1),NZ p p',NZ p p']
section
variable {p:sU} {g:GR} {R:List RL}
theorem Yr (hV:VG g) (hp:sI g p.2.1) (hz:p.2.2.map zB=EJ R) (hR:w_ p.2.1.length R=true) {kind:Int} (hk1:1<=kind) (hk4:kind<=4) {c0:List (List Int)} (hc0:Au g c0 p.2.1) {ws:List Int} (hws:ws.length<=900) (hw:∀k:Nat,k<ws.length->∃m:Nat,at' ws (k:Int)=(m:Int)∧m<4294967296)
  (P:Nat->List (List Int)->List Nat->CT->Prop) (h0:P 0 c0 [] (0,0,0,0,dK .u32 ((oA (aO p g) R (dY g) c0:Nat):Int) 16777215))
  (hstep:∀k c ch cnt t cnt' err,k<ws.length->yQ g p.2.1.length c->P k c ch cnt->oA (aO p g) R (dY g) c≠0->t≠0->(∀i,t.testBit i=true->(oA (aO p g) R (dY g) c).testBit i=true)->(kind<=2->∀v u,t.testBit v=true->t.testBit u=true->¬Kg g v u)->(kind=4->t=oA (aO p g) R (dY g) c)->Cb p p.2.1 R g kind ws c0 (k+1)=gT (aO p g) p.2.1 R c t->
   fI 1000 cnt (t:Int) ((oA (aO p g) R (dY g) (gT (aO p g) p.2.1 R c t):Nat):Int)=some (cnt',err)->cnt'=Jc p p.2.1 R g kind ws c0 (k+1)->P (k+1) (gT (aO p g) p.2.1 R c t) (ch++[t]) cnt'):
  ∃k c ch,uT 1000 p g kind c0 ws=some ((List.range (k+1)).map (Cb p p.2.1 R g kind ws c0),(List.range (k+1)).map (Jc p p.2.1 R g kind ws c0),0)∧P k c ch (Jc p p.2.1 R g kind ws c0 k)∧c=Cb p p.2.1 R g kind ws c0 k∧k<=ws.length∧(∀j,j<k->oA (aO p g) R (dY g) (Cb p p.2.1 R g kind ws c0 j)≠0)∧(k=ws.length∨oA (aO p g) R (dY g) c=0):=by
 have h24:=hV.n24;have hvl:=hp.len;let S:=aO p g;have hVS:VG S.2.1:=hV;obtain⟨net,hnet,hN⟩:=adl hV;have hcheck:xY 1000 p g kind c0 (ws.length:Int)=some 0:=by
  unfold xY;rw[bF (show rB 1000 _ _ c0=_ from VR hV hp hc0),if_neg (by decide)];have:vM 1000 kind=some true:=by
   unfold vM pY;rw[if_pos hk1,decide_eq_true hk4]
  rw[bF this,if_neg (by decide),if_neg (by omega)]
 unfold uT;rw[bF (show xY 1000 _ _ kind c0 _=_ from hcheck),if_neg (by decide),cC (by omega),Uw hV p kind c0 ws];unfold tB zJ;rw[bF (show mK 1000 _ _=_ from Pm hV hp)];unfold zI;rw[bF (show nE 1000 _=_ from hnet),bF (show xX 1000 _=some ((dY g:Nat):Int)from abQ hV)];have hen:∀c,yQ g p.2.1.length c->dW 1000 (p,(p,g,jT g g.2.length,eS g),Cn g p.2.1) c=some ((enD S R c:Nat):Int):=λc hc=>Qz hV hc hz hR (by simp[Cn]);have hand:∀c,dK .u32 ((enD S R c:Nat):Int) ((dY g:Nat):Int)=((oA S R (dY g) c:Nat):Int):=λc=>CW (acK hVS R c) (YW hV);have hcopy:∀c,yQ g p.2.1.length c->lS 1000 c=some c:=λc hc=>Sc c (by rw[hc.len];omega) (λv hv=>by rw[hc.row v (by rw[<-hc.len];exact hv)];omega);unfold Cc;dsimp only;rw[bF (hcopy c0 hc0.shape),bF (show dW 1000 _ c0=_ from hen c0 hc0.shape),hand,bF (show tR 1000 _=some (0,0,0,0,dK .u32 ((oA S R (dY g) c0:Nat):Int) 16777215)from rfl),bF (hcopy c0 hc0.shape),cC (by simp),cC (by simp)];unfold Cd;dsimp only;rw[hand,cC (by simp),List.nil_append,List.nil_append,List.nil_append,List.nil_append];let A:Int×List Int×(List (List (Int×Int)))×Int×List (List Int):=(((dY g:Nat):Int),net,Cn g p.2.1,jT g g.2.length,eS g)
 let rc:=Cb p p.2.1 R g kind ws c0;let cw:=Jc p p.2.1 R g kind ws c0;let T:=List (List (List Int))×List CT×Int;let QQ:T->Prop:=λr=>∃k c ch,r=((List.range (k+1)).map rc,(List.range (k+1)).map cw,0)∧P k c ch (cw k)∧c=rc k∧k<=ws.length∧(∀j,j<k->oA S R (dY g) (rc j)≠0)∧(k=ws.length∨oA S R (dY g) c=0)
 have fin:∀(k:Nat) (c:List (List Int)) (ch:List Nat) (ens:List Int),P k c ch (cw k)->c=rc k->k<=ws.length->(∀j,j<k->oA S R (dY g) (rc j)≠0)->(k=ws.length∨oA S R (dY g) c=0)->
   OK QQ (v_ (ens,(cw k).1,(cw k).2.1,(cw k).2.2.1,(cw k).2.2.2.1,(cw k).2.2.2.2,c,aaf ch,(List.range (k+1)).map cw,(List.range (k+1)).map rc)):=λk c ch ens a1 a2 a3 a6 a7=>⟨_,rfl,k,c,ch,rfl,a1,a2,a3,a6,a7⟩
 have key:=xE (step:=sA 1000 p g kind ws A) (Q:=QQ)
  (λx=>∃(k:Nat) (c:List (List Int)) (ch:List Nat) (ens:List Int),x=(((oA S R (dY g) c:Nat):Int),ens,(k:Int),(cw k).1,(cw k).2.1,(cw k).2.2.1,(cw k).2.2.2.1,(cw k).2.2.2.2,c,aaf ch,(List.range (k+1)).map cw,(List.range (k+1)).map rc)∧P k c ch (cw k)∧yQ g p.2.1.length c∧c=rc k∧k<=ws.length∧ch.length=k∧ens.length=k+1∧∀j,j<k->oA S R (dY g) (rc j)≠0) (λx=>ws.length - x.2.2.1.toNat) (λx ag hI hrec=>by
  obtain⟨k,c,ch,ens,rfl,b1,b2,b3,b4,b5,b6,b9⟩:=hI;unfold sA;dsimp only;by_cases hlt:k<ws.length
  rotate_left
  ·rw[if_neg (by omega)];exact fin k c ch ens b1 b3 b4 b9 (.inl (by omega))
  obtain⟨w,hwe,hw32⟩:=hw k hlt;have hin:Na g (oA S R (dY g) c):=GC S R (dY g) c;obtain⟨t,ht,hsub,hne⟩:=Rb hV hN hk1 hk4 hin hw32;rw[if_pos (by omega),cC (by omega),hwe,bF (show eG 1000 net kind _ _=_ from ht)];unfold Ce;dsimp only;by_cases he0:oA S R (dY g) c=0
  ·rw[if_pos (by omega)];exact fin k c ch ens b1 b3 b4 b9 (.inr he0)
  obtain⟨ht0,hperm,hk2,hk4'⟩:=hne he0;have ht32:t<4294967296:=by have:=Na.lt hV (λi hi=>hin i (hsub i hi));omega
  rw[if_neg (by omega),bF (show eZ 1000 net kind _ _=_ from hperm),if_neg (by decide)];have hst:iX 1000 (p,(p,g,jT g g.2.length,eS g),Cn g p.2.1) c (t:Int)=some (gT S p.2.1 R c t):=aaI (gr:=jT g g.2.length) hV hp b2 hz hR ht32 (λv hv=>((Mj S R (dY g) c v).1 (hsub v hv)).2.1);have hsh:yQ g p.2.1.length (gT S p.2.1 R c t):=b2.step;obtain⟨⟨cnt',err⟩,hadd⟩:=Vq (cw k) ht32 ((oA S R (dY g) (gT S p.2.1 R c t):Nat):Int);rw[bF (show iX 1000 _ c (t:Int)=_ from hst),bF (show dW 1000 _ _=_ from hen _ hsh),hand,bF (show fI 1000 _ (t:Int) _=_ from hadd),bF (hcopy _ hsh),cC (by simp;omega),cC (by simp;omega)];unfold Cf;dsimp only;rw[hand,cC (by simp[aaf];omega),cC (by simp;omega),dZ (by omega)];have en:nxt g kind (oA S R (dY g) (rc k)) (at' ws (k:Int))=t:=by
   unfold nxt;rw[bF hnet,hwe,<-b3,ht];simp
  have hr:rc (k+1)=gT S p.2.1 R c t:=by
   show gT S p.2.1 R (rc k) (nxt g kind (oA S R (dY g) (rc k)) (at' ws (k:Int)))=_;rw[en,<-b3]
  obtain rfl:cnt'=cw (k+1):=by
   show cnt'=((fI 1000 (cw k) ((nxt g kind (oA S R (dY g) (rc k)) (at' ws (k:Int)):Nat):Int) ((oA S R (dY g) (rc (k+1)):Nat):Int)).getD ((0,0,0,0,0),0)).1;rw[en,hr,hadd];rfl
  refine hrec _ ⟨k+1,gT S p.2.1 R c t,ch++[t],ens++[((oA S R (dY g) (gT S p.2.1 R c t):Nat):Int)],?_,hstep k c ch (cw k) t (cw (k+1)) err hlt b2 b1 he0 ht0 hsub hk2 hk4' hr hadd Z,hsh,hr.symm,by omega,by simp[b5],by simp[b6],λj hj=> ?_⟩ (by dsimp only;omega)
  ·rw[List.nil_append,List.range_succ (n:=k+1),List.map_append,List.map_singleton,List.map_append,List.map_singleton,hr];simp[aaf]
  ·by_cases e:j<k
   ·exact b9 j e
   ·obtain rfl:j=k:=by omega
    rw[<-b3];exact he0) 1000 (((oA S R (dY g) c0:Nat):Int),[((oA S R (dY g) c0:Nat):Int)],(0:Int),0,0,0,0,dK .u32 ((oA S R (dY g) c0:Nat):Int) 16777215,c0,[],[(0,0,0,0,dK .u32 ((oA S R (dY g) c0:Nat):Int) 16777215)],[c0])
  ⟨0,c0,[],[((oA S R (dY g) c0:Nat):Int)],rfl,h0,hc0.shape,rfl,by omega,rfl,rfl,λj hj=>by omega⟩ (by dsimp only;omega)
 obtain⟨r,hr,k,c,ch,rfl,hrest⟩:=key;exact⟨k,c,ch,hr,hrest⟩
end
theorem XH {p p':sU} {g:GR} {R:List RL} {vars:List CG} {kind:Int} {ws:List Int} {b:List (List Int)} {k a:Nat}
  (l:k<=ws.length) (f:k=ws.length∨oA (aO p g) R (dY g) (Cb p vars R g kind ws b k)=0) (h:∀j,j<k->oA (aO p g) R (dY g) (Cb p vars R g kind ws b j)≠0)
  (i:a<=ws.length) (c:a=ws.length∨oA (aO p' g) R (dY g) (Cb p' vars R g kind ws b a)=0) (d:∀j,j<a->oA (aO p' g) R (dY g) (Cb p' vars R g kind ws b j)≠0):k=a:=by
 rcases Nat.lt_trichotomy k a with q|q|q
 ·have:=d k q;rw[JN p' p,NZ p' p]at this;rcases f with e|e
  ·omega
  ·exact absurd e this
 ·exact q
 ·have:=h a q;rw[JN p p',NZ p p']at this;rcases c with e|e
  ·omega
  ·exact absurd e this
end Go.Proofs.YtmdlcmbplnhdnaaGreatDoor
namespace Go.Proofs.YtmdlcmbplnhdnaaGreatDoor
open Go.Sx
noncomputable def sF (b:List bI×(List (Int×Int×Int×Int×Int))×Int) (a:Bool):Option (List bI×(List (Int×Int×Int×Int×Int))×Bool):=
 some (b.1,b.2.1,a)
noncomputable def jS (U:Nat) (d:ByteArray) (c:cQ) (e:Int) (f:bI) (g:aP):Option (List bI×(List (Int×Int×Int×Int×Int))×Bool):=
 Option.bind (nF U d) λb=>Vr b.2.2 λh=>(Option.bind (uT U ((b.1,b.2.1,h)) ((c.1,c.2)) e f g) λa=>(if a.2.2=(0:Int)then(if(List.length a.1:Int)=(List.length a.2.1:Int)then(sF a (decide ((0:Int)<(List.length a.1:Int))))else(sF a (false)))else(sF a (false))))
theorem abc:aT Tryz.prog 9:=Tryz.call9
theorem HC (U:Nat) {w:ByteArray} {i:cQ} {y:Int} {p:bI} {q:aP} (k:Value)  (m:Value)  (t:mZ)  (n:Value)  (u:sD)  (o:Value) (r:Ka) (h:jS U w i y p q=some r):
  aY Tryz.prog 9 #[vS (w),Value.agg #[k,m],vI (y),n,o] [Sl bP k i.1,S2 bA m t i.2,S2 bP n u p,Sl yD o q,Gb 0 (cellsOf Hl wD)] (λx:Value×List Value×List (List Value)×Value=>Value.tuple #[x.1,x.2.2.2,vB (r.2.2)]) (λx l=>Ar cO.raw x.1 x.2.1::Fq b_ x.2.1 x.2.2.1 r.1::Ar cG x.2.2.2 r.2.1::l) (λ_ l=>l):=by
 refine aY.of Tryz.func9 Z Tryz.ntmps9 Z λc=>?_;refine aU<|aG (aL.box (cs:=[k,m]) Z Z) Z λD=>aD Z<|aD Z<|aD Z<|aM<|aJ ?_;refine JR.start [0,1,0,0,0,0,63,127,255,255,255,511,3071,8191] 13 mixedOrders (by decide +kernel) ?_;refine JR.open (by exact rfl) ?_;refine bG Z<|fN h λs A h=>JR.loud Z Z Z (aL.call VA (HU U s A) Z (nA 4 Z) (λ_ _=>rfl) (λ_ _=>rfl)) Z (fun⟨d,e,v,g⟩=>(uZ [] Z)) fun⟨d,e,v,g⟩=>?_;have h:=TE h v g;refine bJ Z (aZ.cons 0 Z .nil) .nil (hZ 0 Z Z Z Z) (aK.h (aZ.ix [0] Z Z) .nil aK.z)<|iH Z (fZ Z)<|iH Z (fZ Z)<|iH Z (fZ Z)<|fN h λj C h=>JR.loud Z Z Z (aL.callQ abY (Pj U d e k m t n u o j C) Z (qB [0,1,2,3,4,5,6,7] Z)) Z (λb=>(uZ [] Z)) λb=>iH Z (fZ Z)<|iH Z (lE Z Z)<|iH Z (lE Z Z)<|iH Z (lE Z Z)<|iH Z (lJ Z)<|iH Z (lJ Z)<|bN 13 Z Z<|aD Z<|aM<|aJ<|By (B:=Unit) (λa=>sF j a=some r) (λa f=>[(10,b.1),(11,b.2.2.2),(12,vB (a))]) (λa f=>[Ar cO.raw b.1 b.2.1,Fq b_ b.2.1 b.2.2.1 j.1,Ar cG b.2.2.2 j.2.1]) (λa f=>[Sl aQ d s.2.1,Sl aH e v,PF (Value.agg #[vS s.1,d,e]),Sl bP k i.1,S2 bA m t i.2,S2 bP n u p,Sl yD o q,Gb 0 (cellsOf Hl wD)]) ?_ ?_
 ·refine aR<|aA Z<|aA Z<|aA Z<|cN Z<|aA Z ?_;refine EN h Z (λ_ h=>?_) λ_ h=>?_
  ·refine eX Z<|aW Z (Bj 0 1 Z Z Z Z) Z<|eX Z<|aW Z (jC Z (bD (aE.res 2 Z) jE) Z) Z<|aW Z (Vm Z Z) Z<|fK Z<|aA Z ?_;refine EN h Z (λ_ h=>?_) λ_ h=>?_
   ·refine eX Z<|aW Z (Bj 0 1 Z Z Z Z) Z<|aW Z (wL Z Z) Z<|fK Z<|aD Z<|aD Z<|aD Z<|aM ?_;exact cU (decide ((0:Int)<(List.length j.1:Int))) () h SF (aZ.ix [0,1,2] Z Z) (aF.refl _ _)
   refine aN Z<|aN Z<|aN Z<|iL Z<|aD Z<|aD Z<|aD Z<|aM ?_;exact cU (false) () h SF (aZ.ix [0,1,2] Z Z) (aF.refl _ _)
  refine aN Z<|aN Z<|aN Z<|aN Z<|aN Z<|iL Z<|aA Z<|aN Z<|aN Z<|aN Z<|iL Z<|aD Z<|aD Z<|aD Z<|aM ?_;exact cU (false) () h SF (aZ.ix [0,1,2] Z Z) (aF.refl _ _)
 intro a f h;unfold sF at h;refine aS ?_;cases h;exact HZ (b.1,b.2.1,b.2.2.1,b.2.2.2) Z Z (RV.tmp Z) (RV.tmp Z) (RV.tmp Z) (aZ.refl _) aF.nil
end Go.Proofs.YtmdlcmbplnhdnaaGreatDoor
namespace Go.Proofs.YtmdlcmbplnhdnaaGreatDoor
open Go Go.Sx
theorem OS {text nm:ByteArray} {vars:List CG} {R:List RL} {pr:Kb} (hprog:nF 1000 text=some (nm,vars,pr)) (hpr:EJ R=pr) {g:GR} (hV:VG g) (hp:sI g vars) (hR:w_ vars.length R=true) {kind:Int} (hk1:1<=kind) (hk4:kind<=4)
  {c0:bI} (hc0:Au g c0 vars) {ws:aP} (hws:ws.length<=900) (hw:∀k:Nat,k<ws.length->∃m:Nat,at' ws (k:Int)=(m:Int)∧m<4294967296)
  (Q:Nat->bI->CT->Prop) (h0:Q 0 c0 (0,0,0,0,dK .u32 ((oA (aO (nm,vars,[]) g) R (dY g) c0:Nat):Int) 16777215))
  (hstep:∀k c cnt t cnt' err,k<ws.length->Q k c cnt->oA (aO (nm,vars,[]) g) R (dY g) c≠0->t≠0->(∀i,t.testBit i=true->(oA (aO (nm,vars,[]) g) R (dY g) c).testBit i=true)->(kind=4->t=oA (aO (nm,vars,[]) g) R (dY g) c)->
   fI 1000 cnt (t:Int) ((oA (aO (nm,vars,[]) g) R (dY g) (gT (aO (nm,vars,[]) g) vars R c t):Nat):Int)=some (cnt',err)->Q (k+1) (gT (aO (nm,vars,[]) g) vars R c t) cnt'):
  ∃(k:Nat) (cs:yA) (cnts:List CT),jS 1000 text g kind c0 ws=some (cs,cnts,true)∧cs.length=k+1∧cnts.length=k+1∧k<=ws.length∧(∀j,j<=k->Q j (at' cs (j:Int)) (at' cnts (j:Int)))∧
   (∀j,j<k->∃t,(∀i,t.testBit i=true->(oA (aO (nm,vars,[]) g) R (dY g) (at' cs (j:Int))).testBit i=true)∧oA (aO (nm,vars,[]) g) R (dY g) (at' cs (j:Int))≠0∧at' cs ((j+1:Nat):Int)=gT (aO (nm,vars,[]) g) vars R (at' cs (j:Int)) t∧(kind=4->t=oA (aO (nm,vars,[]) g) R (dY g) (at' cs (j:Int))))∧
   (k=ws.length∨oA (aO (nm,vars,[]) g) R (dY g) (at' cs (k:Int))=0):=by
 let p0:sU:=(nm,vars,[])
 let rc:=Cb p0 vars R g kind ws c0;let cw:=Jc p0 vars R g kind ws c0;let PP:Nat->Prop:=λk=>(∀j,j<=k->Q j (rc j) (cw j))∧∀j,j<k->∃t,(∀i,t.testBit i=true->(oA (aO p0 g) R (dY g) (rc j)).testBit i=true)∧oA (aO p0 g) R (dY g) (rc j)≠0∧rc (j+1)=gT (aO p0 g) vars R (rc j) t∧(kind=4->t=oA (aO p0 g) R (dY g) (rc j))
 have run:∀z:List wJ,z.map zB=EJ R->∃k,uT 1000 (nm,vars,z) g kind c0 ws=some ((List.range (k+1)).map rc,(List.range (k+1)).map cw,0)∧k<=ws.length∧PP k∧(∀j,j<k->oA (aO p0 g) R (dY g) (rc j)≠0)∧(k=ws.length∨oA (aO p0 g) R (dY g) (rc k)=0):=λz hz=>by
  let pz:sU:=(nm,vars,z)
  have hrr:Cb pz vars R g kind ws c0=rc:=funext λj=>JN _ _ _ _ _ _ _ _ _;have hcc:Jc pz vars R g kind ws c0=cw:=funext λj=>acF _ _ _ _ _ _ _ _ _;obtain⟨k,c,ch,h1,h3,rfl,h5,h6,h7⟩:=Yr (p:=pz) hV hp hz hR (kind:=kind) hk1 hk4 hc0 (ws:=ws) hws hw
   (λk c ch cnt=>PP k∧c=rc k∧cnt=cw k) ⟨⟨λj hj=>by(obtain rfl:j=0:=by omega);exact h0,λj hj=>by omega⟩,rfl,rfl⟩
   (λk c ch cnt t cnt' err hk hsh hI hne ht0 hsub _ hk4' hr hadd hcw=>by
    obtain⟨⟨ha,hb⟩,rfl,rfl⟩:=hI;have hr':rc (k+1)=gT (aO p0 g) vars R (rc k) t:=(congrFun hrr (k+1)).symm.trans hr;have hcw':cnt'=cw (k+1):=hcw.trans (congrFun hcc (k+1));subst hcw';have hQ:=hstep k (rc k) (cw k) t _ err hk (ha k (Nat.le_refl k)) hne ht0 hsub hk4' hadd;refine⟨⟨λj hj=> ?_,λj hj=> ?_⟩,hr'.symm,rfl⟩
    ·by_cases e:j<=k
     ·exact ha j e
     ·obtain rfl:j=k+1:=by omega
      rw[hr'];exact hQ
    ·by_cases e:j<k
     ·exact hb j e
     ·obtain rfl:j=k:=by omega
      exact⟨t,hsub,hne,hr',hk4'⟩)
  rw[show pz.2.1=vars from rfl,hrr,hcc]at h1;rw[show pz.2.1=vars from rfl,hrr]at h6 h7;exact⟨k,h1,h5,h3.1,h6,h7⟩
 obtain⟨z0,hz0⟩:=exZ (EJ R);obtain⟨k0,_,hk0,hP0,hne0,hend0⟩:=run z0 hz0;have hat:∀j,j<=k0->at' ((List.range (k0+1)).map rc) (j:Int)=rc j:=λj hj=>lA _ (by omega);have hat2:∀j,j<=k0->at' ((List.range (k0+1)).map cw) (j:Int)=cw j:=λj hj=>lA _ (by omega);refine⟨k0,(List.range (k0+1)).map rc,(List.range (k0+1)).map cw,?_,by simp,by simp,hk0,λj hj=>by rw[hat j hj,hat2 j hj];exact hP0.1 j hj,λj hj=>by rw[hat j (by omega),hat (j+1) (by omega)];exact hP0.2 j hj,by rw[hat k0 (Nat.le_refl _)];exact hend0⟩
 unfold jS;rw[bF hprog];refine YX λz hz=> ?_;have hz:z.map zB=EJ R:=by rw[hpr];exact hz
 obtain⟨k,h1,hk,_,hne,hend⟩:=run z hz;have hkk:k=k0:=XH (p:=p0) (p':=p0) (vars:=vars) hk hend hne hk0 hend0 hne0;subst hkk;refine(bF (show uT 1000 (nm,vars,z) g kind c0 ws=_ from h1)).trans ?_;unfold sF;dsimp only;rw[if_pos Z,if_pos (by simp),decide_eq_true (by simp)]
theorem zA {p:sU} {g:GR} {R:List RL} {c:bI} {v:Nat}:(oA (aO p g) R (dY g) c).testBit v=true↔v<g.2.length∧0<=dD (aO p g) R c v:=by
 rw[Mj];refine⟨λh=>⟨h.1,h.2.1⟩,λh=>⟨h.1,h.2,?_⟩⟩
 unfold dY;rw[YY,decide_eq_true h.1]
theorem Wg {p:sU} {g:GR} {R:List RL} {c:bI}:oA (aO p g) R (dY g) c=0↔∀v,v<g.2.length->¬0<=dD (aO p g) R c v:=by
 constructor
 ·intro h v e q;have:=zA.2 ⟨e,q⟩;rw[h,Nat.zero_testBit]at this;cases this
 ·intro h;refine Nat.eq_of_testBit_eq λi=> ?_;rw[Nat.zero_testBit];cases d:(oA (aO p g) R (dY g) c).testBit i with
  |false=>rfl
  |true=>
   obtain⟨a,b⟩:=zA.1 d;exact absurd b (h i a)
theorem Se {n E:Nat} {d:Nat->Nat} {q:Nat->Prop} (g:∀v,v<n->d v<=E):∀(k v:Nat),E<=d v+k->v<n->q v->∃w,w<n∧q w∧∀u,u<n->q u->d u<=d w
 |0,v,h,hv,hq=>⟨v,hv,hq,λu f _=>by have:=g u f;omega⟩
 | k + 1, v, h, hv, hq => by
  by_cases e:∃u,u<n∧q u∧d v<d u
  ·obtain⟨u,a,b,c⟩:=e;exact Se g k u (by omega) a b
  ·exact⟨v,hv,hq,λu f h=>Nat.le_of_not_lt λc=>e ⟨u,f,h,c⟩⟩
section
variable {p:sU} {g:GR} {c:List (List Int)} {d:List Int} (hV:VG g) (hD:qK g 0 d) (h0:∀v,v<g.2.length->0<=D d v) {par fp:Nat->Nat} (hP:TP g d par fp) (hc:Au g c dQ)
 include hV hD h0 hP hc
theorem adp:oA (aO p g) RS (dY g) c=0↔Ep g d c∧Qt g.2.length (sC c) (bC c)∧∀v,v<g.2.length->rC c v=0:=by
 have G:=hV.n24;have l:RT g.2.length g.2.length par (λv=>(D d v).toNat):=OO hV hD h0 hP λv f=>hD.hi v f;rw[Wg];constructor
 ·intro h;have E:∀v,v<g.2.length->ER g c v:=λv f=>Classical.byContradiction λq=>by
   obtain⟨a,b⟩:=JH (p:=p) (R':=RW) q;exact h v f (by rw[IN,a];exact b)
  have n:Ep g d c:=Um hV hD h0 (λv f=>(Me (W:=PC) hc f).1.1) E;have z:∀v,v<g.2.length->¬0<=dD (aO p g) RW c v:=λv f q=>h v f (by rw[IN,FM (E v f),if_pos q];omega);have j:=λv f=>λq=>z v f ((enS (p:=p) hV hD h0 hP n f).1.2 q);have H:AG g.2.length par (sC c) (bC c):=λv f i=>Classical.byContradiction λq=>j v f (.inr (.inl (QX i q)));have t:∀v,v<g.2.length->sC c v=0:=λv f=>Decidable.byContradiction λq=>by
   obtain⟨w,A,J,o⟩:=Se (q:=λu=>sC c u≠0) l.le g.2.length v (by omega) f q;refine j w A (.inr (.inr (.inl ⟨J,λx B s e=> ?_⟩)));obtain⟨_,a⟩:=l.up x B s;have y:sC c x=0:=Decidable.byContradiction λr=>by
    have:=o x B r;rw[e]at a;omega
   refine⟨y,Decidable.byContradiction λr=>j x B (.inr (.inl ⟨s,.inl λL=>r ?_⟩))⟩
   rw[<-L,e]
  have m:=XC l H (t 0 l.n1);refine⟨n,m,?_⟩
  have C:∀k v,v<g.2.length->(D d v).toNat=k->rC c v=0:=by
   intro k
   induction k with
   |zero=>
    intro v f I;have i:v=0:=(hD.zero v f).1 (by have:=h0 v f;omega);subst i;exact Decidable.byContradiction λq=>j 0 f (.inl ⟨rfl,t 0 f,q⟩)
   |succ k K=>
    intro v f I;have i:v≠0:=λe=>by subst e;have:=l.d0;omega
    obtain⟨a,b⟩:=l.up v f i;exact Decidable.byContradiction λq=>j _ a (.inr (.inr (.inr ⟨t _ a,K _ a (by omega),v,f,i,rfl,q,t v f⟩)))
  exact λv f=>C _ v f Z
 ·rintro⟨n,m,F⟩ v f;rw[IN,FM (Iz hV hD h0 n f)];have:¬0<=dD (aO p g) RW c v:=λq=>by
   rcases(enS (p:=p) hV hD h0 hP n f).1.1 q with q|q|q|q
   ·obtain⟨rfl,_,q⟩:=q;exact q (F 0 f)
   ·obtain⟨a,_⟩:=l.up v f q.1;rcases q.2 with r|r
    ·exact r (by rw[(m v f).2,(m _ a).2])
    ·exact r.1 (m v f).1
   ·exact q.1 (m v f).1
   ·obtain⟨_,_,w,z,_,_,q,_⟩:=q;exact q (F w z)
  rw[if_neg this];omega
end
theorem XS {p:sU} {g:GR} {d:List Int} {E:Nat} {j I:Nat->Nat} (n:VG g) (m:qK g 0 d) (l:∀v,v<g.2.length->0<=D d v) (r:TP g d j I) (L:sI g dQ) (G:∀v,v<g.2.length->D d v<=(E:Int)):
  YO (zU E) (7*E+4) (Nb g d E j (λv=>(D d v).toNat)) (TsR g d E j (λv=>(D d v).toNat)) (λc=>oA (aO p g) RS (dY g) c)
   (λc t F=>(∀i,t.testBit i=true->(oA (aO p g) RS (dY g) c).testBit i=true)∧F=gT (aO p g) dQ RS c t):=by
 have s:RT g.2.length E j (λv=>(D d v).toNat):=OO n m l r G;refine⟨λi c h=>Xu h,λi c h K o=>aav s G h K o,λi c v h f=> ?_,λi c t F h N=> ?_⟩
 ·refine zA.2 ?_;obtain⟨O,h⟩:=h;have y:Ep g d c->v<g.2.length->0<=dD (aO p g) RW c v->0<=dD (aO p g) RS c v:=λJ f q=>by
   rw[IN,FM (Iz n m l J f),if_pos q];omega
  match i,h,f with
  | .tree k,⟨_,h⟩,f=>
   obtain⟨a,b⟩:=JH (p:=p) (R':=RW) (Ta n m l h f);exact⟨f.1,by rw[IN,a];exact b⟩
  | .good k,⟨_,h1,_⟩,⟨f,hv0,_,o⟩=>exact⟨f,y h1 f ((enS n m l r h1 f).1.2 (.inr (.inl (QX hv0 o))))⟩
  | .lev cl k,⟨_,h1,_,_,h4,_⟩,⟨f,hd,o⟩=>
   refine⟨f,y h1 f ((enS n m l r h1 f).1.2 (.inr (.inl ?_)))⟩
   have e:v≠0:=λe=>o (by rw[e]);obtain⟨a,z⟩:=s.up v f e;have B:(D d v).toNat<=k+1:=hd;have H:(D d v).toNat=(D d (j v)).toNat+1:=z;exact⟨e,.inl λq=>o (by rw[<-q];exact h4 _ a (show(D d (j v)).toNat<=k by omega))⟩
  | .low cl k,⟨_,h1,_,_,h4,h5,_⟩,⟨f,hd,o⟩=>
   refine⟨f,y h1 f ((enS n m l r h1 f).1.2 (.inr (.inr (.inl ⟨o,λw A C e=> ?_⟩))))⟩
   obtain⟨_,z⟩:=s.up w A C;rw[e]at z;have B:E<(D d v).toNat+(k+1):=hd;have H:(D d w).toNat=(D d v).toNat+1:=z;exact⟨h5 w A (show E<(D d w).toNat+k by omega),by rw[h4 w A (s.le w A),h4 v f (s.le v f)]⟩
  | .ask k u, ⟨_, h1, h2, h3, _, h5⟩, f =>
   rcases f with⟨e,rfl,M⟩|⟨rfl,rfl⟩
   ·obtain⟨a,_⟩:=s.up u h3 e;exact⟨a,y h1 a ((enS n m l r h1 a).1.2 (.inr (.inr (.inr ⟨(h2 _ a).1,M,u,h3,e,rfl,h5,(h2 u h3).1⟩))))⟩
   ·exact⟨h3,y h1 h3 ((enS n m l r h1 h3).1.2 (.inl ⟨rfl,(h2 0 h3).1,h5⟩))⟩
 ·obtain⟨x,rfl⟩:=N;exact Xv n m l s (XO n m l r L h.1 λv f=>zA.1 (x v f)) h
structure Nm (g:GR) (d:List Int) (E:Nat) (par:Nat->Nat) (k:Nat) (c:List (List Int)) (cnt:CT):Prop where
 r:Au g c dQ
 s:∃R B pe,Bf k cnt R B pe∧xS (zU E) (7*E+4) (Nb g d E par (λv=>(D d v).toNat)) (TsR g d E par (λv=>(D d v).toNat)) R pe c
section
variable {p:sU} {g:GR} {c:List (List Int)} {d:List Int} {E:Nat} (hV:VG g) (hD:qK g 0 d) (h0:∀v,v<g.2.length->0<=D d v) {par fp:Nat->Nat} (hP:TP g d par fp) (hp:sI g dQ) (hE:∀v,v<g.2.length->D d v<=(E:Int))
 include hV hD h0 hP hp hE
theorem Of {i:SR} (h:Nb g d E par (λv=>(D d v).toNat) i c):Nm g d E par 0 c (0,0,0,0,dK .u32 ((oA (aO p g) RS (dY g) c:Nat):Int) 16777215):=by
 have a:oA (aO p g) RS (dY g) c<16777216:=Na.lt hV (GC (aO p g) RS (dY g) c);have b:dK .u32 ((oA (aO p g) RS (dY g) c:Nat):Int) 16777215=((oA (aO p g) RS (dY g) c:Nat):Int):=by
  rw[show(16777215:Int)=((16777215:Nat):Int)from rfl,CW (by omega) (by omega),show(16777215:Nat)=2^24 - 1 from rfl,Nat.and_two_pow_sub_one_eq_mod,Nat.mod_eq_of_lt (by omega)]
 exact⟨h.1,0,0,oA (aO p g) RS (dY g) c,⟨rfl,⟨by dsimp only;omega,by dsimp only;omega⟩,rfl,rfl,b,by omega,a⟩,xS.start (XS (p:=p) hV hD h0 hP hp hE) h⟩
theorem QO {k t:Nat} {j e:CT} {n:Int} (y:k<900) (h:Nm g d E par k c j) (q:t≠0) (f:∀i,t.testBit i=true->(oA (aO p g) RS (dY g) c).testBit i=true) (l:fI 1000 j (t:Int) ((oA (aO p g) RS (dY g) (gT (aO p g) dQ RS c t):Nat):Int)=some (e,n)):Nm g d E par (k+1) (gT (aO p g) dQ RS c t) e:=by
 obtain⟨z,R,B,C,m,w⟩:=h;have A:t<16777216:=Na.lt hV (λi x=>(zA.1 (f i x)).1);have o:oA (aO p g) RS (dY g) (gT (aO p g) dQ RS c t)<16777216:=Na.lt hV (GC (aO p g) RS (dY g) _);obtain⟨u,s,r,a,b,_⟩:=EF (XS (p:=p) hV hD h0 hP hp hE) w ⟨f,rfl⟩ m y A q o l;exact⟨Lg (S:=aO p g) hp z,u,s,r,a,b⟩
end
theorem HJ {g:GR} (h:VG g):sI g dQ:=by
 have f:=h.n24;have e:∀x,x<dQ.length->CS (at' dQ (x:Int)):=λx c=>by
  have c:x<6:=c
  match x,c with
  |0,_=>exact⟨by decide,by decide,by decide⟩
  |1,_=>exact⟨by decide,by decide,by decide⟩
  |2,_=>exact⟨by decide,by decide,by decide⟩
  |3,_=>exact⟨by decide,by decide,by decide⟩
  |4,_=>exact⟨by decide,by decide,by decide⟩
  |5,_=>exact⟨by decide,by decide,by decide⟩
 refine⟨by decide,e,λx c=> ?_,λx c d=> ?_⟩
 ·have c:x<6:=c
  match x,c with
  |0,_=>exact .inl Z
  |1,_=>exact .inr (.inr Z)
  |2,_=>exact .inr (.inl Z)
  |3,_=>exact .inr (.inl Z)
  |4,_=>exact .inl Z
  |5,_=>exact .inr (.inl Z)
 ·have c:x<6:=c
  match x,c,d with
  |0,_,_=>
   have a:lo g (at' dQ ((0:Nat):Int)) 0=0:=Xa g 0;have b:hi g (at' dQ ((0:Nat):Int)) 0=(g.2.length:Int):=WL g 0;rw[a,b];omega
  |1,_,d=>exact absurd d (by decide)
  |2,_,d=>exact absurd d (by decide)
  |3,_,d=>exact absurd d (by decide)
  | 4, _, _ =>
   have b:hi g (at' dQ ((4:Nat):Int)) 0=3:=by
    show(3:Int)+0*(g.2.length:Int)+0*jT g g.1.length=3;omega
   have a:lo g (at' dQ ((4:Nat):Int)) 0=0:=rfl;rw[a,b];omega
  |5,_,d=>exact absurd d (by decide)
end Go.Proofs.YtmdlcmbplnhdnaaGreatDoor
namespace Go.Proofs.YtmdlcmbplnhdnaaGreatDoor
open Go Go.Sx
theorem DG {k:Nat} (h:k<1000000):wI .i64 ((k:Int)+1)=((k+1:Nat):Int):=by rw[aiI h];push_cast;rfl
def WO (g:GR) (b:aP) (v x:Nat) (a:Int):Prop:=if at' b (x:Int) = -1 then -1<=a∧a<=((row g v).length:Int) - 1 else 0<=a∧a<=at' b (x:Int)
def aeT (g:GR) (a:aP) (v:Nat) (l:aP):Prop:=l.length=a.length∧∀x,x<a.length->WO g a v x (at' l (x:Int))
def Lz (g:GR) (hs:aP) (c:bI):Prop:=c.length=g.2.length∧∀v,v<g.2.length->aeT g hs v (at' c (v:Int))
theorem Jd {g:GR} (l:VG g) {hs:aP} (y:hs.length<900) (c:bI):(Lz g hs c->eK 1000 g c hs=some true)∧(¬Lz g hs c->eK 1000 g c hs=some false):=by
 have t:=l.n24;have r:=l.len;unfold eK;by_cases p:c.length=g.2.length
 ·rw[if_neg (by omega)];have m:=wW (step:=eV 1000 g c hs) (K:=some true) (bad:=some false) c.length (λv=>aeT g hs v (at' c (v:Int))) (λk=>(k:Int)) (λk j u i=> ?_) (λk j u i=> ?_) (λj=> ?_) 1000 (by omega)
  ·refine⟨λh=>m.1 λv w=>h.2 v (by omega),λh=>m.2 λs=>h ⟨p,λv w=>s v (by omega)⟩⟩
  all_goals unfold eV
  ·have b:=wW (step:=cS g c hs (k:Int) j) (K:=j ((k+1:Nat):Int)) (bad:=some false) hs.length (λx=>WO g hs k x (at' (at' c (k:Int)) (x:Int))) (λx=>(x:Int)) ?_ ?_ ?_ 1000 (by omega)
   ·rw[if_pos (by omega),cC (by omega),if_neg (by have:=i.1;omega)];exact b.1 i.2
   ·intro x d o a;unfold cS gH gJ;have n:=i.1;have f:(at' g.2 (k:Int)).length<g.2.length:=(l.node k (by omega)).deg;rw[if_pos (by omega),cC (by omega),cC (by omega)];unfold WO at a;by_cases e:at' hs (x:Int) = -1
    ·rw[if_pos e]at a;rw[if_pos e,cC (by omega),wr (by omega) (by omega)];dsimp only;rw[if_neg (by omega),if_neg (by rw[decide_eq_true_eq];show¬((row g k).length:Int) - 1<_;omega),DG (by omega)]
    ·rw[if_neg e]at a;rw[if_neg e];dsimp only;rw[if_neg (by omega),if_neg (by rw[decide_eq_true_eq];omega),DG (by omega)]
   ·intro x d o a;unfold cS gH gJ;have n:=i.1;have f:(at' g.2 (k:Int)).length<g.2.length:=(l.node k (by omega)).deg;rw[if_pos (by omega),cC (by omega),cC (by omega)];unfold WO at a;by_cases e:at' hs (x:Int) = -1
    ·rw[if_pos e]at a;rw[if_pos e,cC (by omega),wr (by omega) (by omega)];dsimp only;by_cases q:at' (at' c (k:Int)) (x:Int) < -1
     ·rw[if_pos q,if_pos Z]
     ·rw[if_neg q,if_pos (by rw[decide_eq_true_eq];show((row g k).length:Int) - 1<_;omega)]
    ·rw[if_neg e]at a;rw[if_neg e];dsimp only;by_cases q:at' (at' c (k:Int)) (x:Int)<0
     ·rw[if_pos q,if_pos Z]
     ·rw[if_neg q,if_pos (by rw[decide_eq_true_eq];omega)]
   ·intro d;unfold cS kW;have n:=i.1;rw[if_neg (by omega),DG (by omega)]
  ·rw[if_pos (by omega),cC (by omega)];by_cases n:(at' c (k:Int)).length=hs.length
   ·rw[if_neg (by omega)];have b:=wW (step:=cS g c hs (k:Int) j) (K:=j ((k+1:Nat):Int)) (bad:=some false) hs.length (λx=>WO g hs k x (at' (at' c (k:Int)) (x:Int))) (λx=>(x:Int)) ?_ ?_ ?_ 1000 (by omega)
    ·exact b.2 λh=>i ⟨n,h⟩
    ·intro x d o a;unfold cS gH gJ;have f:(at' g.2 (k:Int)).length<g.2.length:=(l.node k (by omega)).deg;rw[if_pos (by omega),cC (by omega),cC (by omega)];unfold WO at a;by_cases e:at' hs (x:Int) = -1
     ·rw[if_pos e]at a;rw[if_pos e,cC (by omega),wr (by omega) (by omega)];dsimp only;rw[if_neg (by omega),if_neg (by rw[decide_eq_true_eq];show¬((row g k).length:Int) - 1<_;omega),DG (by omega)]
     ·rw[if_neg e]at a;rw[if_neg e];dsimp only;rw[if_neg (by omega),if_neg (by rw[decide_eq_true_eq];omega),DG (by omega)]
    ·intro x d o a;unfold cS gH gJ;have f:(at' g.2 (k:Int)).length<g.2.length:=(l.node k (by omega)).deg;rw[if_pos (by omega),cC (by omega),cC (by omega)];unfold WO at a;by_cases e:at' hs (x:Int) = -1
     ·rw[if_pos e]at a;rw[if_pos e,cC (by omega),wr (by omega) (by omega)];dsimp only;by_cases q:at' (at' c (k:Int)) (x:Int) < -1
      ·rw[if_pos q,if_pos Z]
      ·rw[if_neg q,if_pos (by rw[decide_eq_true_eq];show((row g k).length:Int) - 1<_;omega)]
     ·rw[if_neg e]at a;rw[if_neg e];dsimp only;by_cases q:at' (at' c (k:Int)) (x:Int)<0
      ·rw[if_pos q,if_pos Z]
      ·rw[if_neg q,if_pos (by rw[decide_eq_true_eq];omega)]
    ·intro d;unfold cS kW;rw[if_neg (by omega),DG (by omega)]
   ·rw[if_pos (by omega)]
  ·rw[if_neg (by omega)];rfl
 ·rw[if_pos (by omega)];exact⟨λh=>absurd h.1 p,λ_=>rfl⟩
def IsF (q:Nat->Prop) (n:Nat) (p:Int):Prop:=(∃i:Nat,i<n∧p=i∧q i∧∀k,k<i->¬q k)∨(p = -1∧∀k,k<n->¬q k)
theorem IsF.uniq {q:Nat->Prop} {n:Nat} {p g:Int} (h:IsF q n p) (k:IsF q n g):p=g:=by
 rcases h with⟨i,a,b,c,l⟩|⟨a,b⟩<;>rcases k with⟨j,d,e,f,m⟩|⟨d,e⟩
 ·have:i=j:=by
   rcases Nat.lt_trichotomy i j with q|q|q
   ·exact absurd c (m i q)
   ·exact q
   ·exact absurd f (l j q)
  omega
 ·exact absurd c (e i a)
 ·exact absurd f (b j d)
 ·omega
def Low (g:GR) (d:aP) (v i:Nat):Prop:=at' d (fY (row g v) i).1=D d v - 1
instance (g:GR) (d:aP) (v i:Nat):Decidable (Low g d v i):=inferInstanceAs (Decidable (_=_))
theorem XM (p q:aP) (h:q.length<900):vT 1000 p q=some (decide (p=q)):=by
 unfold vT;by_cases f:p.length=q.length
 ·rw[if_neg (by omega)];have a:=wW (step:=tW p q) (K:=some true) (bad:=some false) p.length (λk=>at' p (k:Int)=at' q (k:Int)) (λk=>(k:Int)) (λk c d b=> ?_) (λk c d b=> ?_) (λc=> ?_) 1000 (by omega)
  ·by_cases e:p=q
   ·rw[decide_eq_true e];exact a.1 λk d=>by rw[e]
   ·rw[decide_eq_false e];exact a.2 λg=>e (Oi f λv i=>g v i)
  all_goals unfold tW
  ·rw[if_pos (by omega),cC (by omega),cC (by omega),if_neg (by simpa using b),DG (by omega)]
  ·rw[if_pos (by omega),cC (by omega),cC (by omega),if_pos b]
  ·rw[if_neg (by omega)];rfl
 ·rw[if_pos (by omega),decide_eq_false λe=>f (by rw[e])]
section
variable {g:GR} (hV:VG g) {d:List Int} {s:Nat} (hD:qK g s d)
 include hV hD
theorem afV {v i:Nat} (b:v<g.2.length) (a:i<(row g v).length):0<=(fY (row g v) i).1∧(fY (row g v) i).1<(d.length:Int):=by
 obtain⟨u,c,e⟩:=hV.to b a;have:=hD.len;omega
theorem acI {v:Nat} (a:v<g.2.length):wI .i64 (D d v - 1)=D d v - 1:=by
 have b:=hD.lo v a;have c:=hD.hi v a;have:=hV.n24;exact wr (by omega) (by omega)
theorem adu {v i:Nat} (a:v<g.2.length) (c:i<(row g v).length):xG 1000 ((fY (row g v) i).1,(fY (row g v) i).2) d (v:Int)=some (decide (Low g d v i)):=by
 have b:=afV hV hD a c;have f:=hD.len;unfold xG;rw[cC b,cC (by omega)];have e:wI .i64 (at' d (v:Int) - 1)=D d v - 1:=acI hV hD a;rw[e];rfl
theorem ON {v:Nat} (m:v<g.2.length) (c:List Int):∃p,IsF (Low g d v) (row g v).length p∧uS 1000 g (v:Int) d c=some (decide (c=[D d v,p])):=by
 have o:=hV.n24;have l:=(hV.node v m).deg;have r:=hD.len;have n:∀a:Int,vA 1000 (v:Int) d c a=some (decide (c=[D d v,a])):=λa=>by
  unfold vA;rw[cC (by omega),XM _ _ (by simp),bF Z]
 unfold uS;rw[cC (by omega)];have i:∀b k,k<=(row g v).length->(∀j,j<k->¬Low g d v j)->(row g v).length - k<b->∃p,IsF (Low g d v) (row g v).length p∧bK (rP 1000 g (v:Int) d c) b (k:Int)=some (decide (c=[D d v,p])):=by
  intro b
  induction b with
  |zero=>intro k _ _ h;omega
  | succ b ih =>
   intro k x f w;show∃p,_∧rP 1000 g (v:Int) d c (k:Int) (bK (rP 1000 g (v:Int) d c) b)=_;unfold rP;by_cases e:k<(row g v).length
   ·rw[if_pos (show(k:Int)<((row g v).length:Int) by omega),cC (show 0<=(k:Int)∧(k:Int)<((row g v).length:Int) by omega)];have u:=adu hV hD m e;rw[show((at' (at' g.2 (v:Int)) (k:Int)).1,(at' (at' g.2 (v:Int)) (k:Int)).2)=((fY (row g v) k).1,(fY (row g v) k).2)from rfl,u,bF Z];by_cases q:Low g d v k
    ·rw[decide_eq_true q,if_pos Z];exact⟨k,.inl ⟨k,e,rfl,q,f⟩,n _⟩
    ·rw[decide_eq_false q,if_neg (by simp),DG (by omega)];exact ih (k+1) (by omega) (λj t=>by
      by_cases h:j=k
      ·subst h;exact q
      ·exact f j (by omega)) (by omega)
   ·rw[if_neg (show¬(k:Int)<((row g v).length:Int) by omega)];exact⟨-1,.inr ⟨rfl,λj t=>f j (by omega)⟩,n _⟩
 exact i 1000 0 (by omega) (λj h=>by omega) (by omega)
def EH (g:GR) (d:List Int) (v:Nat) (l:List Int):Prop:=at' l 0=D d v∧IsF (Low g d v) (row g v).length (at' l 1)
theorem NQ (G:s=0) (u:LA g) {c:List (List Int)} (j:Lz g [(g.2.length:Int),-1] c):
  ((∀v,v<g.2.length->EH g d v (at' c (v:Int)))->uR 1000 g c=some true)∧(¬(∀v,v<g.2.length->EH g d v (at' c (v:Int)))->uR 1000 g c=some false):=by
 subst G;have H:=hV.n24;have M:=hV.n1;have I:=hD.len;have q:=hV.len;have F:oG 1000 (g.1,g.2) c=some true:=by
  unfold oG GN kX;have B:fV 1000 (g.1,g.2)=some true:=(BK hV).1 u;have C:eK 1000 (g.1,g.2) c [(g.1.length:Int),-1]=some true:=by
   rw[q];exact(Jd hV (by simp) c).1 j
  rw[B,bF Z,bF Z,if_pos Z,C,bF Z]
 obtain⟨h,w,t⟩:=Mh hV (s:=0) (by omega);have x:h=d:=by
  have L:=Ct hV (s:=0) (by omega) hD;have A:=Ct hV (s:=0) (by omega) t;rw[L]at A;exact(Option.some.inj A).symm
 subst x;unfold uR;have E:nT 1000 (g.1,g.2) 0=some h:=w;rw[F,bF Z,if_neg (by simp),E,bF Z];have i:∀v,v<g.2.length->∀p,(at' c (v:Int)=[D h v,p])↔(at' (at' c (v:Int)) 0=D h v∧at' (at' c (v:Int)) 1=p):=λv J p=>by
  have y:=(j.2 v J).1;simp only[List.length_cons,List.length_nil]at y;generalize at' c (v:Int)=l at y ⊢
  match l,y with
  | [a,b],_=>
   show[a,b]=[D h v,p]↔a=D h v∧b=p;simp
 have N:=j.1;refine wW (step:=y_ 1000 g c h) (K:=some true) (bad:=some false) g.2.length (λv=>EH g h v (at' c (v:Int))) (λk=>(k:Int)) (λk z o r=> ?_) (λk z o r=> ?_) (λz=> ?_) 1000 (by omega)
 all_goals unfold y_
 ·obtain⟨p,m,n⟩:=ON hV hD o (at' c (k:Int));have f:uS 1000 (g.1,g.2) (k:Int) h (at' c (k:Int))=_:=n;rw[if_pos (by omega),cC (by omega),f,bF Z,decide_eq_true ((i k o p).2 ⟨r.1,r.2.uniq m⟩),if_neg (by simp),DG (by omega)]
 ·obtain⟨p,m,n⟩:=ON hV hD o (at' c (k:Int));have f:uS 1000 (g.1,g.2) (k:Int) h (at' c (k:Int))=_:=n;rw[if_pos (by omega),cC (by omega),f,bF Z,decide_eq_false λe=>r (by
   have:=(i k o p).1 e;exact⟨this.1,by rw[this.2];exact m⟩),if_pos (by simp)]
 ·rw[if_neg (by omega)];rfl
end
def Je (m:Nat) (c:bI) (k:Nat):bI:=(c.take k).map (λl=>List.drop (Int.toNat 0) (List.take m l))++List.replicate (c.length - k) []
theorem TR {m:Nat} {c:bI} {k:Nat} (a:k<c.length):(Je m c k).set k (List.drop (Int.toNat 0) (List.take m (at' c (k:Int))))=Je m c (k+1):=by
 unfold Je;obtain⟨j,b⟩:∃j,c.length - k=j+1:=⟨c.length - k - 1,by omega⟩
 rw[b,List.replicate_succ,adz _ _ _ _ k (by simp;omega)];have e:c.take (k+1)=c.take k++[at' c (k:Int)]:=by
  rw[List.take_add_one,List.getElem?_eq_getElem a];congr 1;have:=fT (xs:=c) (i:=k);rw[this,List.getD_eq_getElem?_getD,List.getElem?_eq_getElem a];rfl
 rw[e,List.map_append,List.append_assoc];congr 1;show _::_=[_]++_;rw[show c.length - (k+1)=j by omega];rfl
theorem V_ {m:Nat} {c:bI} {k:Nat} (a:k<=c.length):(Je m c k).length=c.length:=by
 unfold Je;simp;omega
theorem VZ {m:Nat} {c:bI}:Je m c c.length=c.map (λl=>l.take m):=by
 unfold Je;rw[List.take_length,Nat.sub_self];simp
theorem Ho {m:Nat} {c:bI} {v:Nat} (a:v<c.length):at' (c.map (λl=>l.take m)) (v:Int)=(at' c (v:Int)).take m:=RI (λl:aP=>l.take m) (by omega) (by omega)
theorem Ic {m:Nat} {l:aP} {i:Nat} (a:i<m):at' (l.take m) (i:Int)=at' l (i:Int):=by
 rw[fT,fT,List.getD_eq_getElem?_getD,List.getD_eq_getElem?_getD,List.getElem?_take_of_lt a]
theorem aae {g:GR} {c b:aP} {v x:Nat} {a:Int} (h:WO g c v x a) (e:at' b (x:Int)=at' c (x:Int)):WO g b v x a:=by
 unfold WO at h ⊢;rw[e];exact h
theorem Lz.cut {g:GR} {hs:aP} {c:bI} {m:Nat} (h:Lz g hs c) (j:m<=hs.length):Lz g (hs.take m) (c.map (λl=>l.take m)):=by
 refine⟨by simpa using h.1,λv d=> ?_⟩
 have b:v<c.length:=by rw[h.1];exact d
 rw[Ho b];obtain⟨i,e⟩:=h.2 v d;refine⟨by simp;omega,λx f=> ?_⟩
 have a:x<m:=by simp at f;omega
 rw[Ic a];exact aae (e x (by omega)) (Ic a)
end Go.Proofs.YtmdlcmbplnhdnaaGreatDoor