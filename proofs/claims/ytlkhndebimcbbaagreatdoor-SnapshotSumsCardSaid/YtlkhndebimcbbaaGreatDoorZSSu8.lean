/- Models and proofs. Conditions: none. -/
import Derived.Test.YtlkhndebimcbbaaGreatDoorZSSu7
import Derived.Test.YtlkhndebimcbbaaGreatDoorZSSu3
import Derived.Test.YtlkhndebimcbbaaGreatDoorZSSu2
import Derived.Test.YtlkhndebimcbbaaGreatDoorZSSu6
set_option linter.unusedVariables false
set_option linter.unusedSimpArgs false
set_option maxHeartbeats 4000000
set_option maxRecDepth 20000
namespace Go.Proofs.YtlkhndebimcbbaaGreatDoor
open Go Go.Sx
theorem QB (x:Int):0<=wI .u64 x:=by
 rw[Es];have:IntKind.u64.wrap x=x%18446744073709551616:=rfl;rw[this];omega
theorem VV (l:aO) {n:Nat} (y:n<=900):∃ws,pR 1000 l (n:Int)=some ws∧ws.length=n∧∀k:Nat,k<ws.length->∃m:Nat,at' ws (k:Int)=(m:Int)∧m<4294967296:=by
 unfold pR;obtain⟨⟨ws,i⟩,⟨c,b,d⟩,t⟩:=BW (step:=nQ l (n:Int)) (K:=λz=>some z.1) n
  (λk z=>z.2=(k:Int)∧z.1.length=k∧∀j:Nat,j<k->∃m:Nat,at' z.1 (j:Int)=(m:Int)∧m<4294967296) (λk z q v h=>by
  obtain⟨ws,i⟩:=z;obtain⟨c,b,d⟩:=h;dsimp only at c b d;subst c;have a:∀m:Nat,m<4294967296->∀j:Nat,j<k+1->∃p:Nat,at' (ws++[(m:Int)]) (j:Int)=(p:Int)∧p<4294967296:=λm o j u=>by
   rw[NG ws _ (by omega)];by_cases e:j<ws.length
   ·rw[if_pos e];exact d j (by omega)
   ·rw[if_neg e];exact⟨m,rfl,o⟩
  have f:∀m:Nat,(List.length ws:Int)+(List.length [(m:Int)]:Int)<=1099511627:=λm=>by simp;omega
  unfold nQ qR;dsimp only;rw[if_pos (by omega),fC (by omega)];by_cases x:l.length=0
  ·rw[if_pos (by omega),bZ (show(List.length ws:Int)+(List.length [(4294967295:Int)]:Int)<=1099511627 from f 4294967295)];exact⟨_,⟨rfl,by simp[b],a 4294967295 (by omega)⟩,rfl⟩
  ·have r:Int.tmod (k:Int) (l.length:Int)=((k%l.length:Nat):Int):=rfl;have w:k%l.length<l.length:=Nat.mod_lt _ (by omega);rw[if_neg (by omega),bZ (by omega),bZ (by rw[r];omega),bZ (by omega),bZ (by decide),bZ (QB _),bZ (QB _)];have s:∀X:Int,∃m:Nat,dM .u32 X (16777215:Int)=(m:Int)∧m<4294967296:=λX=>⟨_,MS _ _,Nat.lt_of_le_of_lt Nat.and_le_left (Jt _)⟩
   obtain⟨m,o,g⟩:=s (MU .u32 (Co .u32 (dM .u32 (at' l (Int.tmod (k:Int) (l.length:Int))) (16777215:Int)) (wI .u64 (Int.tmod (wI .i64 (Int.tdiv (k:Int) (l.length:Int))) (24:Int)))) (rO .u32 (dM .u32 (at' l (Int.tmod (k:Int) (l.length:Int))) (16777215:Int)) (wI .u64 ((24:Int) - (wI .u64 (Int.tmod (wI .i64 (Int.tdiv (k:Int) (l.length:Int))) (24:Int)))))));rw[o,bZ (f m)];exact⟨_,⟨rfl,by simp[b],a m g⟩,rfl⟩) (λz q h=>by
  obtain⟨ws,i⟩:=z;obtain⟨c,b,d⟩:=h;dsimp only at c;subst c;unfold nQ uS;dsimp only;rw[if_neg (by omega)]) 1000 (([]:aO),(0:Int)) ⟨rfl,rfl,λj u=>by omega⟩ (by omega)
 exact⟨ws,t,b,λk v=>d k (by dsimp only at b;omega)⟩

def EC (c:bE) (v:Nat):Int:=at' (at' c (v:Int)) 0
def zI (g:GR) (c:bE) (v i:Nat):Int:=at' (at' c (fK (row g v) i).1) 0
theorem EH {g:GR} {c:bE} {v i u:Nat} (h:(fK (row g v) i).1=(u:Int)):zI g c v i=EC c u:=by unfold zI EC;rw[h]
theorem Rp:∀i,i<256->0<=at' IR ((i:Nat):Int)∧at' IR ((i:Nat):Int)<=8∧(i≠0->1<=at' IR ((i:Nat):Int)):=by
 have h:((List.range 256).all λi=>decide (0<=at' IR ((i:Nat):Int)∧at' IR ((i:Nat):Int)<=8∧(i≠0->1<=at' IR ((i:Nat):Int))))=true:=by decide +kernel
 intro i a;exact of_decide_eq_true (List.all_eq_true.1 h i (List.mem_range.2 a))
theorem abD {t:Nat} (I:t<16777216) (F:t≠0):∃n:Nat,kQ 1000 (t:Int)=some (n:Int)∧1<=n∧n<=24:=by
 have q:(List.length IR:Int)=256:=by decide +kernel
 have b:∀a:Nat,a<4294967296->dM .u32 (a:Int) 255=((a%256:Nat):Int):=λa p=>by
  rw[show(255:Int)=((255:Nat):Int)from rfl,DI p (by omega),show(255:Nat)=2^8 - 1 from rfl,Nat.and_two_pow_sub_one_eq_mod]
 have c:∀k:Nat,k<32->rO .u32 (t:Int) (k:Int)=((t / 2^k:Nat):Int):=λk r=>MV r;have e:rO .u32 (t:Int) 24=((t / 2^24:Nat):Int):=c 24 (by omega);have d:rO .u32 (t:Int) 16=((t / 2^16:Nat):Int):=c 16 (by omega);have s:rO .u32 (t:Int) 8=((t / 2^8:Nat):Int):=c 8 (by omega);have g:t / 2^24=0:=Nat.div_eq_of_lt (by omega);unfold kQ;rw[q,e,d,s,b _ (by omega),b _ (by omega),b _ (by omega),g,bZ (by decide),bZ (by omega),bZ (by decide),bZ (by omega),bZ (by decide),bZ (by omega),bZ (by omega)];obtain⟨v,w,i⟩:=Rp (t / 2^16%256) (by omega);obtain⟨y,z,j⟩:=Rp (t / 2^8%256) (by omega);obtain⟨D,E,l⟩:=Rp (t%256) (by omega);have u:at' IR ((0:Nat):Int)=0:=rfl;have h:1<=at' IR ((t / 2^16%256:Nat):Int)+at' IR ((t / 2^8%256:Nat):Int)+at' IR ((t%256:Nat):Int):=by
  by_cases m:t / 2^16%256=0
  ·by_cases o:t / 2^8%256=0
   ·have:=l (by omega);omega
   ·have:=j o;omega
  ·have:=i m;omega
 have f:∀x:Int,0<=x->x<=100->wI .u8 x=x:=λx G H=>by
  rw[Es];have:IntKind.u8.wrap x=x%256:=rfl;rw[this];omega
 generalize at' IR ((t / 2^16%256:Nat):Int)=A at *
 generalize at' IR ((t / 2^8%256:Nat):Int)=B at *
 generalize at' IR ((t%256:Nat):Int)=C at *
 rw[u,f (0+A) (by omega) (by omega),f (0+A+B) (by omega) (by omega),f (0+A+B+C) (by omega) (by omega),wr (by omega) (by omega)];exact⟨(0+A+B+C).toNat,by congr 1;omega,by omega,by omega⟩
theorem Il (l:aO) (j:l.length<=900) (h:∀x∈l,∃a:Nat,x=(a:Int)∧a<16777216):gV 1000 l=some true:=by
 unfold gV;refine dU (step:=iG l) (K:=some true) l.length (λk=>(k:Int)) (λk f d=> ?_) (λf=> ?_) 1000 (by omega)
 ·obtain⟨a,g,b⟩:=h (at' l (k:Int)) (by rw[lN d];exact List.getElem_mem d);unfold iG;rw[if_pos (by omega),bZ (by omega),g,fC (by omega)];have:t_ .u32 (a:Int) (16777215:Int)=0:=(WR _ _).2 λi c=>by
   rw[xW (by omega)]at c;have e:Oi 16777215=2^24 - 1:=xW (a:=16777215) (by omega);rw[e,Nat.testBit_two_pow_sub_one,decide_eq_true_eq];by_cases h:i<24
   ·exact h
   ·have:=Nat.testBit_lt_two_pow (x:=a) (i:=i) (Nat.lt_of_lt_of_le b (Nat.pow_le_pow_right (n:=2) (by omega) (show 24<=i by omega)));rw[this]at c;cases c
  rw[this,if_neg (by simp)]
 ·unfold iG lR;rw[if_neg (by omega)]
structure Da (k:Nat) (cnt:CT) (R B pe:Nat):Prop where
 steps:cnt.1=(k:Int)
 moves:(k:Int)<=cnt.2.1∧cnt.2.1<=24*(k:Int)
 rounds:cnt.2.2.1=(R:Int)
 begun:cnt.2.2.2.1=(B:Int)
 pend:cnt.2.2.2.2=(pe:Int)
 le:R<=B∧B<=k∧B<=R+1
 p24:pe<16777216
theorem Da.valid {k:Nat} {i:CT} {R B j:Nat} (h:Da k i R B j) (n:k<=1000):jU 1000 i=some true:=by
 obtain⟨a,b,c,d,e,f,g⟩:=h;have m:=Il [(j:Int)] (by simp) λx l=>by
  have l:x=(j:Int):=by simpa using l
  exact⟨j,l,g⟩
 unfold jU;rw[a,c,d,if_neg (by omega),if_neg (by omega),if_neg (by omega),if_neg (by omega),decide_eq_false (by omega)];unfold iA kM;rw[a,c,d,e,if_neg (by decide),fC (by omega),if_neg (by omega),if_pos b.1,wr (by omega) (by omega),if_pos b.2,bG m]
theorem Da.add {k:Nat} {r:CT} {R B o:Nat} (h:Da k r R B o) (I:k<900) {t l:Nat} (A:t<16777216) (C:t≠0) (q:l<16777216) {m:CT} {u:Int} (j:fX 1000 r (t:Int) (l:Int)=some (m,u)):
  ∃p:Nat,(∀i,p.testBit i=(o.testBit i && !t.testBit i&&l.testBit i))∧((p=0∧Da (k+1) m (R+1) (R+1) l)∨(p≠0∧Da (k+1) m R (R+1) p)):=by
 have H:=h.valid (by omega);obtain⟨a,b,c,d,e,f,g⟩:=h;obtain⟨n,D,E,F⟩:=abD A C;have G:=Il [(t:Int),(l:Int)] (by simp) λx y=>by
  have y:x=(t:Int)∨x=(l:Int):=by simpa using y
  rcases y with rfl|rfl
  ·exact⟨t,rfl,A⟩
  ·exact⟨l,rfl,q⟩
 have v:Fa o t<4294967296:=OX o t;have w:∀i,(Fa o t &&& l).testBit i=(o.testBit i && !t.testBit i&&l.testBit i):=λi=>by
  rw[Nat.testBit_and,LF (by omega) (by omega)]
 have s:Fa o t &&& l<16777216:=Nat.lt_of_le_of_lt Nat.and_le_right q;unfold fX at j;rw[bG (show jU 1000 _=some true from H),if_neg (by decide),if_neg (by omega),bG G]at j;unfold pD pE at j;dsimp only at j;rw[a,c,e,if_neg (by decide),if_neg (by omega),bG D,OI,DI v (by omega),fC (by omega),fC (by omega),wr (by omega) (by omega)]at j;refine⟨Fa o t &&& l,w,?_⟩
 by_cases z:Fa o t &&& l=0
 ·rw[if_pos (by rw[z];rfl)]at j;have:=Option.some.inj j;obtain⟨rfl,_⟩:=Prod.mk.inj this;exact .inl ⟨z,rfl,⟨by dsimp only;omega,by dsimp only;omega⟩,rfl,rfl,rfl,by omega,q⟩
 ·rw[if_neg (by omega)]at j;have:=Option.some.inj j;obtain⟨rfl,_⟩:=Prod.mk.inj this;exact .inr ⟨z,rfl,⟨by dsimp only;omega,by dsimp only;omega⟩,rfl,rfl,rfl,by omega,s⟩
def exX:E:= .ite (.bi 37 (.ag 24 (.lf 12 0)) (.lf 6 0)) (.bi 33 (.ag 24 (.lf 12 0)) (.lf 1 1)) (.lf 6 0)
def exY:E:= .ag 23 (.bi 35 (.lf 12 0) (.ag 24 (.lf 12 0)))
def guT:E:= .bi 41 (.lf 10 0) (.bi 42 (.bi 36 (.lf 5 0) (.lf 1 0)) (.bi 36 (.lf 5 1) (.lf 4 0)))
def guB:E:= .bi 41 (.un 19 (.lf 10 0)) (.bi 42 (.bi 36 (.lf 5 0) exX) (.bi 36 (.lf 5 1) exY))
def RB:List RL:=[(guT,[(0,.lf 1 0),(1,.lf 4 0)]),(guB,[(0,exX),(1,exY)])]
theorem Ym (g:GR) (v:Nat):lo g (at' sD ((0:Nat):Int)) v=0:=rfl
theorem aer (g:GR) (v:Nat):lo g (at' sD ((1:Nat):Int)) v = -1:=rfl
theorem Ya (g:GR) (v:Nat):hi g (at' sD ((0:Nat):Int)) v=(g.2.length:Int):=by
 show(0:Int)+1*(g.2.length:Int)+0*jR g g.1.length=_;omega
theorem aeg (g:GR) (v:Nat):hi g (at' sD ((1:Nat):Int)) v=((row g v).length:Int) - 1:=rfl
def GG (c:bE) (v:Nat):Int:=at' (at' c (v:Int)) 1
def Ix (g:GR) (c:bE) (v:Nat):aO:=(List.range (row g v).length).map λq=>zI g c v q
def XB (g:GR) (c:bE) (v:Nat):Int:=if zH (Ix g c v)<(g.1.length:Int)then Ul (wI .i64 (zH (Ix g c v)+1))else(g.1.length:Int)
def YB (g:GR) (c:bE) (v:Nat):Int:=p_ ((List.range (row g v).length).map λq=>As (decide (zI g c v q=zH (Ix g c v))))
def TB (g:GR) (c:bE) (v:Nat):fF:=if v=0 then(0,-1)else(XB g c v,YB g c v)
def FL (g:GR) (c:bE) (v:Nat):Prop:=EC c v=(TB g c v).1∧GG c v=(TB g c v).2
theorem tM (b:Bool):As b≠0↔b=true:=by cases b<;>simp[As]
theorem agm (b:Bool):As b=0↔b=false:=by cases b<;>simp[As]
section
variable {p:sF} {g:GR} {c:List (List Int)} {v:Nat}
theorem XF:fS (aQ p g) c v exX=XB g c v:=by
 show(if As (decide (zH (Ix g c v)<(g.1.length:Int)))≠0 then Ul (wI .i64 (zH (Ix g c v)+1))else(g.1.length:Int))=_;unfold XB;by_cases h:zH (Ix g c v)<(g.1.length:Int)
 ·rw[if_pos h,if_pos (by rw[tM];exact decide_eq_true h)]
 ·rw[if_neg h,if_neg (by rw[tM];simpa using h)]
theorem XG:fS (aQ p g) c v exY=YB g c v:=rfl
theorem aef:fS (aQ p g) c v guT=As (decide (As (decide ((v:Int)=0))≠0)&&decide (As (decide (As (decide (EC c v≠0))≠0)||decide (As (decide (GG c v ≠ -1))≠0))≠0)):=rfl
theorem aed:fS (aQ p g) c v guB=As (decide (As (decide (As (decide ((v:Int)=0))=0))≠0)&&decide (As (decide (As (decide (EC c v≠fS (aQ p g) c v exX))≠0)||decide (As (decide (GG c v≠fS (aQ p g) c v exY))≠0))≠0)):=rfl
theorem TJ:fS (aQ p g) c v guT≠0↔v=0∧(EC c v≠0∨GG c v ≠ -1):=by
 rw[aef,tM,Bool.and_eq_true,decide_eq_true_eq,decide_eq_true_eq,tM,tM,Bool.or_eq_true,decide_eq_true_eq,decide_eq_true_eq,decide_eq_true_eq,tM,tM,decide_eq_true_eq,decide_eq_true_eq];constructor
 ·rintro⟨a,b⟩;exact⟨by omega,b⟩
 ·rintro⟨a,b⟩;exact⟨by omega,b⟩
theorem TI:fS (aQ p g) c v guB≠0↔v≠0∧(EC c v≠XB g c v∨GG c v≠YB g c v):=by
 rw[aed,XF,XG,tM,Bool.and_eq_true,decide_eq_true_eq,decide_eq_true_eq,tM,tM,Bool.or_eq_true,decide_eq_true_eq,decide_eq_true_eq,decide_eq_true_eq,agm,tM,tM,decide_eq_true_eq,decide_eq_true_eq,decide_eq_false_iff_not];constructor
 ·rintro⟨a,b⟩;exact⟨by omega,b⟩
 ·rintro⟨a,b⟩;exact⟨by omega,b⟩
theorem PT (h:0<=dL (aQ p g) RB c v):(dL (aQ p g) RB c v=0∧v=0∧¬FL g c v)∨(dL (aQ p g) RB c v=1∧v≠0∧¬FL g c v):=by
 obtain⟨i,k,j,l⟩:=(Ed (aQ p g) RB c v).resolve_left (λe=>by omega);have j:i<2:=j
 match i,j with
 |0,_=>
  obtain⟨a,b⟩:=TJ.1 l;refine .inl ⟨k,a,?_⟩;unfold FL TB;rw[if_pos a];rintro⟨d,f⟩;rcases b with b|b
  ·exact b d
  ·exact b f
 |1,_=>
  obtain⟨a,b⟩:=TI.1 l;refine .inr ⟨k,a,?_⟩;unfold FL TB;rw[if_neg a];rintro⟨d,f⟩;rcases b with b|b
  ·exact b d
  ·exact b f
theorem VL (h:¬0<=dL (aQ p g) RB c v):FL g c v:=by
 have e:dL (aQ p g) RB c v = -1:=by
  rcases Ed (aQ p g) RB c v with e|⟨i,f,_⟩
  ·exact e
  ·omega
 have b:¬fS (aQ p g) c v guT≠0:=λq=>q (Kz.1 e 0 (by decide));have d:¬fS (aQ p g) c v guB≠0:=λq=>q (Kz.1 e 1 (by decide));rw[TJ]at b;rw[TI]at d;unfold FL TB;by_cases a:v=0
 ·rw[if_pos a];exact⟨Decidable.not_not.1 λq=>b ⟨a,.inl q⟩,Decidable.not_not.1 λq=>b ⟨a,.inr q⟩⟩
 ·rw[if_neg a];exact⟨Decidable.not_not.1 λq=>d ⟨a,.inl q⟩,Decidable.not_not.1 λq=>d ⟨a,.inr q⟩⟩
theorem Mf:¬0<=dL (aQ p g) RB c v↔FL g c v:=by
 refine⟨VL,λh q=> ?_⟩
 rcases PT q with⟨_,_,e⟩|⟨_,_,e⟩<;>exact e h
theorem abB (b:VG g) (d:Du g c sD) (h:v<g.2.length) {i:Nat} (e:i<(row g v).length):0<=zI g c v i∧zI g c v i<=(g.2.length:Int):=by
 obtain⟨u,f,a,_⟩:=b.port h e;rw[EH a];have:=d.ok u f 0 (by decide);rw[Ym,Ya]at this;exact this
theorem RZ {x:Int} (h:x∈Ix g c v):∃i,i<(row g v).length∧zI g c v i=x:=by
 obtain⟨i,b,a⟩:=List.mem_map.1 h;exact⟨i,List.mem_range.1 b,a⟩
theorem agk (d:VG g) (m:Du g c sD) (o:v<g.2.length):0<=XB g c v∧XB g c v<=(g.2.length:Int)∧(∀i,i<(row g v).length->XB g c v<=zI g c v i+1)∧(XB g c v=(g.2.length:Int)∨∃i,i<(row g v).length∧XB g c v=zI g c v i+1):=by
 have l:=d.n24;have k:=d.len;have a:∀i,i<(row g v).length->zH (Ix g c v)<=zI g c v i:=λi b=>Nv (List.mem_map.2 ⟨i,List.mem_range.2 b,rfl⟩);unfold XB;by_cases h:zH (Ix g c v)<(g.1.length:Int)
 ·rw[if_pos h];rcases Km (Ix g c v)with e|e
  ·omega
  ·obtain⟨i,b,r⟩:=RZ e;have q:=abB d m o b;have n:Ul (wI .i64 (zH (Ix g c v)+1))=zH (Ix g c v)+1:=by
    rw[wr (by omega) (by omega)];unfold Ul;omega
   rw[n];refine⟨by omega,by omega,λj f=> ?_,.inr ⟨i,b,by omega⟩⟩
   have:=a j f;omega
 ·rw[if_neg h];refine⟨by omega,by omega,λj f=> ?_,.inl (by omega)⟩
  have:=a j f;omega
theorem Vj (l:List Int) : -1<=p_ l∧p_ l<=(l.length:Int) - 1:=by
 unfold p_;cases h:l.findIdx? nz with
 |none=>dsimp only;omega
 |some i=>
  obtain⟨a,_⟩:=List.findIdx?_eq_some_iff_getElem.1 h;dsimp only;omega
theorem agl : -1<=YB g c v∧YB g c v<=((row g v).length:Int) - 1:=by
 have:=Vj ((List.range (row g v).length).map λq=>As (decide (zI g c v q=zH (Ix g c v))));rw[List.length_map,List.length_range]at this;exact this
theorem agh (d:VG g) (e:Du g c sD) (f:v<g.2.length):(0<=(TB g c v).1∧(TB g c v).1<=(g.2.length:Int)) ∧ -1<=(TB g c v).2∧(TB g c v).2<=((row g v).length:Int) - 1:=by
 unfold TB;split
 ·dsimp only;omega
 ·obtain⟨a,b,_⟩:=agk d e f;exact⟨⟨a,b⟩,agl⟩
theorem BR {k a b x:Int} (d:a<=x) (e:x<=b):mG k (a,b) x=x:=by unfold mG;rw[if_pos ⟨d,e⟩]
theorem ZW {a:List (List Int)} (j:VG g) (l:v<g.2.length) (h:∀u,u<g.2.length->EC a u=EC c u):TB g a v=TB g c v:=by
 have f:∀i,i<(row g v).length->zI g a v i=zI g c v i:=λi b=>by
  obtain⟨u,k,d,_⟩:=j.port l b;rw[EH d,EH d,h u k]
 have e:Ix g a v=Ix g c v:=List.map_congr_left λi b=>f i (List.mem_range.1 b);have m:YB g a v=YB g c v:=by
  unfold YB;rw[e];congr 1;exact List.map_congr_left λi b=>by rw[f i (List.mem_range.1 b)]
 unfold TB;rw[m];unfold XB;rw[e]
end

def Cl (k:Nat) (x y:Int):Prop:=(y<(k:Int)->x=y)∧((k:Int)<=y->(k:Int)<=x)
end Go.Proofs.YtlkhndebimcbbaaGreatDoor
namespace Go.Proofs.YtlkhndebimcbbaaGreatDoor
open Go Go.Sx
theorem yX {k:Nat} (h:k<1000000):wI .i64 ((k:Int)+1)=((k+1:Nat):Int):=by rw[ajY h];push_cast;rfl
def Vr (g:GR) (b:aO) (v x:Nat) (a:Int):Prop:=if at' b (x:Int) = -1 then -1<=a∧a<=((row g v).length:Int) - 1 else 0<=a∧a<=at' b (x:Int)
def agf (g:GR) (a:aO) (v:Nat) (l:aO):Prop:=l.length=a.length∧∀x,x<a.length->Vr g a v x (at' l (x:Int))
def Ji (g:GR) (hs:aO) (c:bE):Prop:=c.length=g.2.length∧∀v,v<g.2.length->agf g hs v (at' c (v:Int))
theorem Fz {g:GR} (l:VG g) {hs:aO} (y:hs.length<900) (c:bE):(Ji g hs c->dK 1000 g c hs=some true)∧(¬Ji g hs c->dK 1000 g c hs=some false):=by
 have t:=l.n24;have r:=l.len;unfold dK;by_cases p:c.length=g.2.length
 ·rw[if_neg (by omega)];have m:=uX (step:=fL 1000 g c hs) (K:=some true) (bad:=some false) c.length (λv=>agf g hs v (at' c (v:Int))) (λk=>(k:Int)) (λk j u i=> ?_) (λk j u i=> ?_) (λj=> ?_) 1000 (by omega)
  ·refine⟨λh=>m.1 λv w=>h.2 v (by omega),λh=>m.2 λs=>h ⟨p,λv w=>s v (by omega)⟩⟩
  all_goals unfold fL
  ·have b:=uX (step:=cW g c hs (k:Int) j) (K:=j ((k+1:Nat):Int)) (bad:=some false) hs.length (λx=>Vr g hs k x (at' (at' c (k:Int)) (x:Int))) (λx=>(x:Int)) ?_ ?_ ?_ 1000 (by omega)
   ·rw[if_pos (by omega),bZ (by omega),if_neg (by have:=i.1;omega)];exact b.1 i.2
   ·intro x d o a;unfold cW gR gS;have n:=i.1;have f:(at' g.2 (k:Int)).length<g.2.length:=(l.node k (by omega)).deg;rw[if_pos (by omega),bZ (by omega),bZ (by omega)];unfold Vr at a;by_cases e:at' hs (x:Int) = -1
    ·rw[if_pos e]at a;rw[if_pos e,bZ (by omega),wr (by omega) (by omega)];dsimp only;rw[if_neg (by omega),if_neg (by rw[decide_eq_true_eq];show¬((row g k).length:Int) - 1<_;omega),yX (by omega)]
    ·rw[if_neg e]at a;rw[if_neg e];dsimp only;rw[if_neg (by omega),if_neg (by rw[decide_eq_true_eq];omega),yX (by omega)]
   ·intro x d o a;unfold cW gR gS;have n:=i.1;have f:(at' g.2 (k:Int)).length<g.2.length:=(l.node k (by omega)).deg;rw[if_pos (by omega),bZ (by omega),bZ (by omega)];unfold Vr at a;by_cases e:at' hs (x:Int) = -1
    ·rw[if_pos e]at a;rw[if_pos e,bZ (by omega),wr (by omega) (by omega)];dsimp only;by_cases q:at' (at' c (k:Int)) (x:Int) < -1
     ·rw[if_pos q,if_pos Z]
     ·rw[if_neg q,if_pos (by rw[decide_eq_true_eq];show((row g k).length:Int) - 1<_;omega)]
    ·rw[if_neg e]at a;rw[if_neg e];dsimp only;by_cases q:at' (at' c (k:Int)) (x:Int)<0
     ·rw[if_pos q,if_pos Z]
     ·rw[if_neg q,if_pos (by rw[decide_eq_true_eq];omega)]
   ·intro d;unfold cW k_;have n:=i.1;rw[if_neg (by omega),yX (by omega)]
  ·rw[if_pos (by omega),bZ (by omega)];by_cases n:(at' c (k:Int)).length=hs.length
   ·rw[if_neg (by omega)];have b:=uX (step:=cW g c hs (k:Int) j) (K:=j ((k+1:Nat):Int)) (bad:=some false) hs.length (λx=>Vr g hs k x (at' (at' c (k:Int)) (x:Int))) (λx=>(x:Int)) ?_ ?_ ?_ 1000 (by omega)
    ·exact b.2 λh=>i ⟨n,h⟩
    ·intro x d o a;unfold cW gR gS;have f:(at' g.2 (k:Int)).length<g.2.length:=(l.node k (by omega)).deg;rw[if_pos (by omega),bZ (by omega),bZ (by omega)];unfold Vr at a;by_cases e:at' hs (x:Int) = -1
     ·rw[if_pos e]at a;rw[if_pos e,bZ (by omega),wr (by omega) (by omega)];dsimp only;rw[if_neg (by omega),if_neg (by rw[decide_eq_true_eq];show¬((row g k).length:Int) - 1<_;omega),yX (by omega)]
     ·rw[if_neg e]at a;rw[if_neg e];dsimp only;rw[if_neg (by omega),if_neg (by rw[decide_eq_true_eq];omega),yX (by omega)]
    ·intro x d o a;unfold cW gR gS;have f:(at' g.2 (k:Int)).length<g.2.length:=(l.node k (by omega)).deg;rw[if_pos (by omega),bZ (by omega),bZ (by omega)];unfold Vr at a;by_cases e:at' hs (x:Int) = -1
     ·rw[if_pos e]at a;rw[if_pos e,bZ (by omega),wr (by omega) (by omega)];dsimp only;by_cases q:at' (at' c (k:Int)) (x:Int) < -1
      ·rw[if_pos q,if_pos Z]
      ·rw[if_neg q,if_pos (by rw[decide_eq_true_eq];show((row g k).length:Int) - 1<_;omega)]
     ·rw[if_neg e]at a;rw[if_neg e];dsimp only;by_cases q:at' (at' c (k:Int)) (x:Int)<0
      ·rw[if_pos q,if_pos Z]
      ·rw[if_neg q,if_pos (by rw[decide_eq_true_eq];omega)]
    ·intro d;unfold cW k_;rw[if_neg (by omega),yX (by omega)]
   ·rw[if_pos (by omega)]
  ·rw[if_neg (by omega)];rfl
 ·rw[if_pos (by omega)];exact⟨λh=>absurd h.1 p,λ_=>rfl⟩

def IsF (q:Nat->Prop) (n:Nat) (p:Int):Prop:=(∃i:Nat,i<n∧p=i∧q i∧∀k,k<i->¬q k)∨(p = -1∧∀k,k<n->¬q k)
theorem IsF.uniq {q:Nat->Prop} {n:Nat} {p g:Int} (h:IsF q n p) (k:IsF q n g):p=g:=by
 rcases h with⟨i,a,b,c,l⟩|⟨a,b⟩<;>rcases k with⟨j,d,e,f,m⟩|⟨d,e⟩
 ·have:i=j:=by
   rcases Nat.lt_trichotomy i j with q|q|q
   ·exact absurd c (m i q)
   ·exact q
   ·exact absurd f (l j q)
  omega
 ·exact absurd c (e i a)
 ·exact absurd f (b j d)
 ·omega
def ZF (g:GR) (d:aO) (v i:Nat):Prop:=at' d (fK (row g v) i).1=D d v - 1
instance (g:GR) (d:aO) (v i:Nat):Decidable (ZF g d v i):=inferInstanceAs (Decidable (_=_))
theorem Y_ (p q:aO) (h:q.length<900):wQ 1000 p q=some (decide (p=q)):=by
 unfold wQ;by_cases f:p.length=q.length
 ·rw[if_neg (by omega)];have a:=uX (step:=uO p q) (K:=some true) (bad:=some false) p.length (λk=>at' p (k:Int)=at' q (k:Int)) (λk=>(k:Int)) (λk c d b=> ?_) (λk c d b=> ?_) (λc=> ?_) 1000 (by omega)
  ·by_cases e:p=q
   ·rw[decide_eq_true e];exact a.1 λk d=>by rw[e]
   ·rw[decide_eq_false e];exact a.2 λg=>e (Pn f λv i=>g v i)
  all_goals unfold uO
  ·rw[if_pos (by omega),bZ (by omega),bZ (by omega),if_neg (by simpa using b),yX (by omega)]
  ·rw[if_pos (by omega),bZ (by omega),bZ (by omega),if_pos b]
  ·rw[if_neg (by omega)];rfl
 ·rw[if_pos (by omega),decide_eq_false λe=>f (by rw[e])]
section
variable {g:GR} (hV:VG g) {d:List Int} {s:Nat} (hD:oL g s d)
 include hV hD
theorem ahj {v i:Nat} (b:v<g.2.length) (a:i<(row g v).length):0<=(fK (row g v) i).1∧(fK (row g v) i).1<(d.length:Int):=by
 obtain⟨u,c,e⟩:=hV.to b a;have:=hD.len;omega
theorem adR {v:Nat} (a:v<g.2.length):wI .i64 (D d v - 1)=D d v - 1:=by
 have b:=hD.lo v a;have c:=hD.hi v a;have:=hV.n24;exact wr (by omega) (by omega)
theorem aeH {v i:Nat} (a:v<g.2.length) (c:i<(row g v).length):x_ 1000 ((fK (row g v) i).1,(fK (row g v) i).2) d (v:Int)=some (decide (ZF g d v i)):=by
 have b:=ahj hV hD a c;have f:=hD.len;unfold x_;rw[bZ b,bZ (by omega)];have e:wI .i64 (at' d (v:Int) - 1)=D d v - 1:=adR hV hD a;rw[e];rfl
theorem PR {v:Nat} (m:v<g.2.length) (c:List Int):∃p,IsF (ZF g d v) (row g v).length p∧vK 1000 g (v:Int) d c=some (decide (c=[D d v,p])):=by
 have o:=hV.n24;have l:=(hV.node v m).deg;have r:=hD.len;have n:∀a:Int,v_ 1000 (v:Int) d c a=some (decide (c=[D d v,a])):=λa=>by
  unfold v_;rw[bZ (by omega),Y_ _ _ (by simp),bG Z]
 unfold vK;rw[bZ (by omega)];have i:∀b k,k<=(row g v).length->(∀j,j<k->¬ZF g d v j)->(row g v).length - k<b->∃p,IsF (ZF g d v) (row g v).length p∧bL (sG 1000 g (v:Int) d c) b (k:Int)=some (decide (c=[D d v,p])):=by
  intro b
  induction b with
  |zero=>intro k _ _ h;omega
  | succ b ih =>
   intro k x f w;show∃p,_∧sG 1000 g (v:Int) d c (k:Int) (bL (sG 1000 g (v:Int) d c) b)=_;unfold sG;by_cases e:k<(row g v).length
   ·rw[if_pos (show(k:Int)<((row g v).length:Int) by omega),bZ (show 0<=(k:Int)∧(k:Int)<((row g v).length:Int) by omega)];have u:=aeH hV hD m e;rw[show((at' (at' g.2 (v:Int)) (k:Int)).1,(at' (at' g.2 (v:Int)) (k:Int)).2)=((fK (row g v) k).1,(fK (row g v) k).2)from rfl,u,bG Z];by_cases q:ZF g d v k
    ·rw[decide_eq_true q,if_pos Z];exact⟨k,.inl ⟨k,e,rfl,q,f⟩,n _⟩
    ·rw[decide_eq_false q,if_neg (by simp),yX (by omega)];exact ih (k+1) (by omega) (λj t=>by
      by_cases h:j=k
      ·subst h;exact q
      ·exact f j (by omega)) (by omega)
   ·rw[if_neg (show¬(k:Int)<((row g v).length:Int) by omega)];exact⟨-1,.inr ⟨rfl,λj t=>f j (by omega)⟩,n _⟩
 exact i 1000 0 (by omega) (λj h=>by omega) (by omega)
def Fx (g:GR) (d:List Int) (v:Nat) (l:List Int):Prop:=at' l 0=D d v∧IsF (ZF g d v) (row g v).length (at' l 1)
theorem OJ (G:s=0) (u:Hi g) {c:List (List Int)} (j:Ji g [(g.2.length:Int),-1] c):
  ((∀v,v<g.2.length->Fx g d v (at' c (v:Int)))->vJ 1000 g c=some true)∧(¬(∀v,v<g.2.length->Fx g d v (at' c (v:Int)))->vJ 1000 g c=some false):=by
 subst G;have H:=hV.n24;have M:=hV.n1;have I:=hD.len;have q:=hV.len;have F:oV 1000 (g.1,g.2) c=some true:=by
  unfold oV HD lA;have B:eL 1000 (g.1,g.2)=some true:=(z_ hV).1 u;have C:dK 1000 (g.1,g.2) c [(g.1.length:Int),-1]=some true:=by
   rw[q];exact(Fz hV (by simp) c).1 j
  rw[B,bG Z,bG Z,if_pos Z,C,bG Z]
 obtain⟨h,w,t⟩:=Nc hV (s:=0) (by omega);have x:h=d:=by
  have L:=zK hV (s:=0) (by omega) hD;have A:=zK hV (s:=0) (by omega) t;rw[L]at A;exact(Option.some.inj A).symm
 subst x;unfold vJ;have E:nX 1000 (g.1,g.2) 0=some h:=w;rw[F,bG Z,if_neg (by simp),E,bG Z];have i:∀v,v<g.2.length->∀p,(at' c (v:Int)=[D h v,p])↔(at' (at' c (v:Int)) 0=D h v∧at' (at' c (v:Int)) 1=p):=λv J p=>by
  have y:=(j.2 v J).1;simp only[List.length_cons,List.length_nil]at y;generalize at' c (v:Int)=l at y ⊢
  match l,y with
  | [a,b],_=>
   show[a,b]=[D h v,p]↔a=D h v∧b=p;simp
 have N:=j.1;refine uX (step:=zZ 1000 g c h) (K:=some true) (bad:=some false) g.2.length (λv=>Fx g h v (at' c (v:Int))) (λk=>(k:Int)) (λk z o r=> ?_) (λk z o r=> ?_) (λz=> ?_) 1000 (by omega)
 all_goals unfold zZ
 ·obtain⟨p,m,n⟩:=PR hV hD o (at' c (k:Int));have f:vK 1000 (g.1,g.2) (k:Int) h (at' c (k:Int))=_:=n;rw[if_pos (by omega),bZ (by omega),f,bG Z,decide_eq_true ((i k o p).2 ⟨r.1,r.2.uniq m⟩),if_neg (by simp),yX (by omega)]
 ·obtain⟨p,m,n⟩:=PR hV hD o (at' c (k:Int));have f:vK 1000 (g.1,g.2) (k:Int) h (at' c (k:Int))=_:=n;rw[if_pos (by omega),bZ (by omega),f,bG Z,decide_eq_false λe=>r (by
   have:=(i k o p).1 e;exact⟨this.1,by rw[this.2];exact m⟩),if_pos (by simp)]
 ·rw[if_neg (by omega)];rfl
end
theorem agA {g:GR} (a:VG g) (c:Hi g):∃r,nY 1000 g 0=some r∧nZ 1000 g 0=some r:=by
 have h:=a.n1;obtain⟨r,f,d⟩:=zA a c (s:=0) (by omega);obtain⟨i,b,e,_⟩:=Mb a (s:=0) (by omega);have:=Jj d (e c);subst this;exact⟨r,f,b⟩
def FA (m:Nat) (c:bE) (k:Nat):bE:=(c.take k).map (λl=>List.drop (Int.toNat 0) (List.take m l))++List.replicate (c.length - k) []
theorem LC {m:Nat} {c:bE} {k:Nat} (a:k<c.length):(FA m c k).set k (List.drop (Int.toNat 0) (List.take m (at' c (k:Int))))=FA m c (k+1):=by
 unfold FA;obtain⟨j,b⟩:∃j,c.length - k=j+1:=⟨c.length - k - 1,by omega⟩
 rw[b,List.replicate_succ,Ss _ _ _ _ k (by simp;omega)];have e:c.take (k+1)=c.take k++[at' c (k:Int)]:=by
  rw[List.take_add_one,List.getElem?_eq_getElem a];congr 1;have:=fP (xs:=c) (i:=k);rw[this,List.getD_eq_getElem?_getD,List.getElem?_eq_getElem a];rfl
 rw[e,List.map_append,List.append_assoc];congr 1;show _::_=[_]++_;rw[show c.length - (k+1)=j by omega];rfl
theorem OU {m:Nat} {c:bE} {k:Nat} (a:k<=c.length):(FA m c k).length=c.length:=by
 unfold FA;simp;omega
theorem OT {m:Nat} {c:bE}:FA m c c.length=c.map (λl=>l.take m):=by
 unfold FA;rw[List.take_length,Nat.sub_self];simp
theorem DG {m:Nat} {c:bE} {v:Nat} (a:v<c.length):at' (c.map (λl=>l.take m)) (v:Int)=(at' c (v:Int)).take m:=Ti (λl:aO=>l.take m) (by omega) (by omega)
theorem Gk {m:Nat} {l:aO} {i:Nat} (a:i<m):at' (l.take m) (i:Int)=at' l (i:Int):=by
 rw[fP,fP,List.getD_eq_getElem?_getD,List.getD_eq_getElem?_getD,List.getElem?_take_of_lt a]
theorem abo {g:GR} {c b:aO} {v x:Nat} {a:Int} (h:Vr g c v x a) (e:at' b (x:Int)=at' c (x:Int)):Vr g b v x a:=by
 unfold Vr at h ⊢;rw[e];exact h
theorem Ji.cut {g:GR} {b:aO} {c:bE} {m:Nat} (h:Ji g b c) (k:m<=b.length):Ji g (b.take m) (c.map (λl=>l.take m)):=by
 refine⟨by simpa using h.1,λv e=> ?_⟩
 have d:v<c.length:=by rw[h.1];exact e
 rw[DG d];obtain⟨j,f⟩:=h.2 v e;refine⟨by simp;omega,λx i=> ?_⟩
 have a:x<m:=by simp at i;omega
 rw[Gk a];exact abo (f x (by omega)) (Gk a)
def BN (g:GR) (c:bE) (v:Nat):Int:=if 0<=at' (at' c (v:Int)) 1 then(at' (at' g.2 (v:Int)) (at' (at' c (v:Int)) 1)).1 else -1
def vX (g:GR) (c:bE) (k:Nat):aO:=(List.range k).map (BN g c)
theorem Ca {g:GR} {c:bE} {k:Nat}:(vX g c k).length=k:=by simp[vX]
theorem NA {g:GR} {c:bE} {k v:Nat} (a:v<k):at' (vX g c k) (v:Int)=BN g c v:=by
 rw[fP,List.getD_eq_getElem?_getD];simp[vX,a]
theorem VF {g:GR} {c:bE} {k:Nat}:vX g c (k+1)=vX g c k++[BN g c k]:=by simp[vX,List.range_succ]
def SZ (g:GR) (c:bE):Prop:=c.length=g.2.length∧∀v,v<g.2.length->2<=(at' c (v:Int)).length ∧ -1<=at' (at' c (v:Int)) 1∧at' (at' c (v:Int)) 1<((at' g.2 (v:Int)).length:Int)
theorem KR {g:GR} {c:bE} (p:g.2.length<=24) (h:SZ g c):oG 1000 g c 1=some (vX g c c.length):=by
 have v:=h.1;unfold oG;rw[bZ (by omega)];have n:=dU (step:=pG g c 1) (K:=some (vX g c c.length)) c.length (λk=>((k:Int),vX g c k++List.replicate (c.length - k) 0)) (λk o u=> ?_) (λo=> ?_) 1000 (by omega)
 ·simpa [vX]using n
 ·obtain⟨s,t,q⟩:=h.2 k (by omega);obtain⟨j,r⟩:∃j,c.length - k=j+1:=⟨c.length - k - 1,by omega⟩
  have i:(vX g c k++List.replicate (c.length - k) 0).length=c.length:=by simp[Ca];omega
  have l:∀a:Int,(vX g c k++List.replicate (c.length - k) 0).set k a=vX g c k++a::List.replicate j 0:=λa=>by rw[r,List.replicate_succ,Ss _ _ _ _ k Ca]
  have f:∀a b:Int,(vX g c k++a::List.replicate j 0).set k b=vX g c k++b::List.replicate j 0:=λa b=>Ss _ _ _ _ k Ca;have d:vX g c k++BN g c k::List.replicate j 0=vX g c (k+1)++List.replicate (c.length - (k+1)) 0:=by rw[VF,List.append_assoc,show c.length - (k+1)=j by omega];rfl
  unfold pG rQ;dsimp only;rw[if_pos (by omega),bZ (by omega),bZ (by rw[i];omega),bZ (by omega),show Int.toNat (k:Int)=k from rfl,l];by_cases e:0<=at' (at' c (k:Int)) 1
  ·have m:BN g c k=(at' (at' g.2 (k:Int)) (at' (at' c (k:Int)) 1)).1:=if_pos e;rw[if_pos e,bZ (by omega),bZ (by omega),bZ ⟨e,q⟩,bZ (by simp[Ca];omega),f,<-m,d,yX (by omega)]
  ·have m:BN g c k = -1:=if_neg e;rw[if_neg e,<-m,d,yX (by omega)]
 ·unfold pG wA;dsimp only;rw[if_neg (by omega),Nat.sub_self];simp
structure ZG (g:GR) (d:aO) (P:Nat->Int):Prop where
 root:P 0 = -1
 up:∀v,v<g.2.length->v≠0->∃u:Nat,u<g.2.length∧P v=u∧D d u=D d v - 1
theorem Ij {g:GR} (l:VG g) (r:Hi g) {d:aO} (k:oL g 0 d) {c:bE} (o:∀v,v<g.2.length->Fx g d v (at' c (v:Int))):ZG g d (BN g c):=by
 have y:=l.n1;have a:∀v,v<g.2.length->0<=D d v:=λv j=>(Gp l (s:=0) (by omega) k).2 r v (by rw[k.len];exact j);refine⟨?_,λv j p=> ?_⟩
 ·obtain⟨_,h⟩:=o 0 (by omega);rcases h with⟨i,b,_,f,_⟩|⟨b,_⟩
  ·obtain⟨u,m,e⟩:=l.to (v:=0) (by omega) b;unfold ZF at f;rw[e]at f;have n:=(k.zero 0 (by omega)).2 Z;have z:=a u m;have A:D d u=D d 0 - 1:=f;omega
  ·exact if_neg (by rw[show at' (at' c ((0:Nat):Int)) 1 = -1 from b];omega)
 ·obtain⟨_,h⟩:=o v j;have x:0<D d v:=by
   have:=a v j;rcases Int.lt_or_eq_of_le this with q|q
   ·exact q
   ·exact absurd ((k.zero v j).1 q.symm) p
  rcases h with⟨i,b,n,f,_⟩|⟨_,b⟩
  ·obtain⟨u,m,e⟩:=l.to j b;unfold ZF at f;rw[e]at f;refine⟨u,m,?_,f⟩
   unfold BN;rw[if_pos (by omega),n];exact e
  ·obtain⟨u,m,⟨i,w,e⟩,t⟩:=k.near v j x;exact absurd (by unfold ZF;rw[e];exact t) (b i w)

def ZX (P:Nat->Int) (c:bE) (v:Nat):Prop:=v=0∨(at' (at' c (P v)) 2=0->at' (at' c (v:Int)) 2=0∧at' (at' c (v:Int)) 3=at' (at' c (P v)) 3)
section
variable {g:GR} (hV:VG g) {d:List Int} {c:List (List Int)} (hl:c.length=g.2.length) (hr:∀v,v<g.2.length->4<=(at' c (v:Int)).length) (h2:∀v,v<g.2.length->at' (at' c (v:Int)) 2=0∨at' (at' c (v:Int)) 2=1) (hP:ZG g d (BN g c))
 include hV hl hr h2 hP
theorem VU:((∀v,v<g.2.length->ZX (BN g c) c v)->bL (gY c (vX g c c.length)) 1000 0=some true)∧(¬(∀v,v<g.2.length->ZX (BN g c) c v)->bL (gY c (vX g c c.length)) 1000 0=some false):=by
 have r:=hV.n24;have s:(vX g c c.length).length=c.length:=Ca;refine uX (step:=gY c (vX g c c.length)) (K:=some true) (bad:=some false) g.2.length (ZX (BN g c) c) (λk=>(k:Int)) (λk n f a=> ?_) (λk n f a=> ?_) (λn=> ?_) 1000 (by omega)
 ·unfold gY tW tX qW;rw[if_pos (by omega),bZ (by omega),NA (by omega)];by_cases b:k=0
  ·subst b;rw[if_pos (by rw[hP.root];omega),if_pos Z];rfl
  ·obtain⟨u,j,e,_⟩:=hP.up k f b;have m:=hr u j;have l:=hr k f;rcases a with a|a
   ·exact absurd a b
   rw[e]at a ⊢;rw[if_neg (by omega),bZ (by omega),bZ (by omega)];rcases h2 u j with q|q
   ·obtain⟨o,p⟩:=a q;rw[decide_eq_false (by omega),if_neg (by simp),bZ (by omega),bZ (by omega),bZ (by omega),bZ (by omega),if_neg (by omega),bZ (by omega),bZ (by omega),bZ (by omega),bZ (by omega),decide_eq_false (by omega),if_neg (by simp),yX (by omega)]
   ·rw[decide_eq_true q,if_pos Z,yX (by omega)]
 ·unfold gY tW tX qW;rw[if_pos (by omega),bZ (by omega),NA (by omega)];have b:k≠0:=λe=>a (.inl e);obtain⟨u,j,e,_⟩:=hP.up k f b;have m:=hr u j;have l:=hr k f;have i:¬(at' (at' c (u:Int)) 2=0->at' (at' c (k:Int)) 2=0∧at' (at' c (k:Int)) 3=at' (at' c (u:Int)) 3):=λh=>a (.inr (by rw[e];exact h));rw[e];rw[if_neg (by omega),bZ (by omega),bZ (by omega)];have q:at' (at' c (u:Int)) 2=0:=by
   rcases h2 u j with q|q
   ·exact q
   ·exact absurd (λh=>by omega) i
  rw[decide_eq_false (by omega),if_neg (by simp),bZ (by omega),bZ (by omega),bZ (by omega),bZ (by omega)];by_cases o:at' (at' c (k:Int)) 2=0
  ·rw[if_neg (by omega),bZ (by omega),bZ (by omega),bZ (by omega),bZ (by omega),if_pos];rw[decide_eq_true_eq];exact λp=>i λ_=>⟨o,p⟩
  ·rw[if_pos (by omega),if_pos Z]
 ·unfold gY;rw[if_neg (by omega)];rfl
end
def onP (P:Nat->Int):Nat->Int->Nat->Bool
 |0,_,_=>false
 |f+1,w,u=>if w<0 then false else decide (w=(u:Int))||onP P f (P w.toNat) u
def FY (c:bE) (v:Nat):Int:=at' (at' c (v:Int)) 4
def wV (P:Nat->Int) (n:Nat) (c:bE) (u:Nat):Nat->Int
 |0=>0
 |k+1=>wV P n c u k+if onP P (n+1) (k:Int) u then FY c k else 0
theorem GC {P:Nat->Int} {f:Nat} {w:Int} {u:Nat} (h:w<0):onP P f w u=false:=by
 cases f with
 |zero=>rfl
 |succ f=>simp[onP,h]
theorem NH {P:Nat->Int} {n:Nat} {c:bE} {u:Nat}:∀{k:Nat},(∀v,v<k->0<=FY c v∧FY c v<=15)->0<=wV P n c u k∧wV P n c u k<=15*k
 |0,_=>by simp[wV]
 |k+1,h=>by
  have d:=NH (P:=P) (n:=n) (u:=u) (k:=k) λv b=>h v (by omega);have a:=h k (by omega);simp only[wV];split<;>(push_cast;omega)
section
variable {g:GR} {d:List Int} {P:Nat->Int} (hP:ZG g d P) (h0:∀v,v<g.2.length->0<=D d v)
 include hP h0
 omit h0 in
theorem Kt:∀(f w u:Nat),w<g.2.length->onP P f (w:Int) u=true->D d u<=D d w
  |0,w,u,_,h=>by cases h
  | f + 1, w, u, hw, h => by
   simp only[onP]at h;rw[if_neg (by omega),Bool.or_eq_true,decide_eq_true_eq]at h;rcases h with h|h
   ·have:w=u:=by omega
    subst this;omega
   ·rw[show Int.toNat (w:Int)=w from rfl]at h;by_cases e:w=0
    ·subst e;rw[hP.root,GC (by omega)]at h;cases h
    ·obtain⟨p,b,a,c⟩:=hP.up w hw e;rw[a]at h;have:=Kt f p u b h;omega
theorem Kv (n:D d 0=0):∀(m w f:Nat) (u:Nat),w<g.2.length->D d w=(m:Int)->m<f->onP P f (w:Int) u=onP P (m+1) (w:Int) u:=by
 intro m
 induction m with
 | zero =>
  intro w f u b i j;obtain⟨f,rfl⟩:∃k,f=k+1:=⟨f - 1,by omega⟩
  simp only[onP];rw[if_neg (by omega),if_neg (by omega)];congr 1;have e:w=0:=by
   rcases Nat.eq_zero_or_pos w with e|e
   ·exact e
   ·obtain⟨p,a,c,h⟩:=hP.up w b (by omega);have:=h0 p a;omega
  subst e;rw[show Int.toNat ((0:Nat):Int)=0 from rfl,hP.root,GC (by omega)]
 |succ m l=>
  intro w f u b i j;obtain⟨f,rfl⟩:∃k,f=k+1:=⟨f - 1,by omega⟩
  simp only[onP];rw[if_neg (by omega),if_neg (by omega)];congr 1;have e:w≠0:=λe=>by subst e;omega
  obtain⟨p,a,c,h⟩:=hP.up w b e;rw[show Int.toNat (w:Int)=w from rfl,c,l p f u a (by omega) (by omega)];rfl
end
section
variable {g:GR} (hV:VG g) {d:List Int} (hD:oL g 0 d) {c:List (List Int)} (hl:c.length=g.2.length) (hr:∀v,v<g.2.length->(at' c (v:Int)).length=6) (hx:∀v,v<g.2.length->0<=FY c v∧FY c v<=15) (hP:ZG g d (BN g c)) (h0:∀v,v<g.2.length->0<=D d v)
 include hV hD hl hP h0
 include hr hx
 omit hD in
theorem Sy {v:Nat} (B:v<g.2.length) (r:List Int) (n:Int×List Int->Option (List Int)) (S:D d 0=0):∀(m a:Nat) (w:Nat) (R:List Int),w<g.2.length->D d w=(m:Int)->m+1<a->R.length=g.2.length->(∀u,u<g.2.length->0<=at' R (u:Int)∧at' R (u:Int)<=1000000 - 15*(m+1:Nat))->
   ∃l:List Int,l.length=g.2.length∧(∀u,u<g.2.length->at' l (u:Int)=at' R (u:Int)+if onP (BN g c) (m+1) (w:Int) u then FY c v else 0)∧bL (fY c (vX g c c.length) ((v:Int),r) n) a ((w:Int),R)=n (((v+1:Nat):Int),l):=by
  have E:=hV.n24;have J:(vX g c c.length).length=g.2.length:=by rw[Ca,hl]
  have L:=hx v B;have K:=hr v B;have step:∀(m:Nat) (w:Nat) (R:List Int) (f:Int×List Int->Option (List Int)),w<g.2.length->R.length=g.2.length->(∀u,u<g.2.length->0<=at' R (u:Int)∧at' R (u:Int)<=1000000 - 15*(m+1:Nat))->
    fY c (vX g c c.length) ((v:Int),r) n ((w:Int),R) f=f (BN g c w,R.set w (at' R (w:Int)+FY c v)):=by
   intro m w R f h j i;have:=i w h;unfold fY;dsimp only;rw[if_pos (by omega),bZ (by omega),bZ (by omega),bZ (by omega),bZ (by omega),bZ (by omega),NA (by omega)];have e:at' (at' c (v:Int)) 4=FY c v:=rfl;rw[e,wr (by omega) (by omega)];rfl
  have t:∀(R:List Int) (f:Int×List Int->Option (List Int)),fY c (vX g c c.length) ((v:Int),r) n (-1,R) f=n (((v+1:Nat):Int),R):=by
   intro R f;unfold fY sV;dsimp only;rw[if_neg (by omega),yX (by omega)]
  have b:∀(R:List Int) (w u:Nat) (y:Int),w<R.length->at' (R.set w y) (u:Int)=if u=w then y else at' R (u:Int):=λR w u y h=>tE R w u y h;intro m
  induction m with
  | zero =>
   intro a w R h F G j i;obtain⟨a,rfl⟩:∃k,a=k+2:=⟨a - 2,by omega⟩
   have e:w=0:=by
    rcases Nat.eq_zero_or_pos w with e|e
    ·exact e
    ·obtain⟨p,o,s,C⟩:=hP.up w h (by omega);have:=h0 p o;omega
   subst e;refine⟨R.set 0 (at' R 0+FY c v),by simp[j],λu q=> ?_,?_⟩
   ·rw[b R 0 u _ (by omega)];have I:onP (BN g c) (0+1) ((0:Nat):Int) u=decide (((0:Nat):Int)=(u:Int)):=by
     show(if((0:Nat):Int)<0 then false else decide (((0:Nat):Int)=(u:Int))||false)=_;rw[if_neg (by omega),Bool.or_false]
    rw[I];by_cases e:u=0
    ·subst e;rw[if_pos Z,if_pos (by simp)];rfl
    ·rw[if_neg e,if_neg (by simp;omega)];omega
   ·show fY _ _ _ _ (((0:Nat):Int),R) (bL _ (a+1))=_;rw[step 0 0 R _ h j i,hP.root];show fY _ _ _ _ (-1,_) (bL _ a)=_;rw[t];rfl
  | succ m ih =>
   intro a w R h F G j i;obtain⟨a,rfl⟩:∃k,a=k+1:=⟨a - 1,by omega⟩
   have e:w≠0:=λe=>by subst e;omega
   obtain⟨p,o,s,C⟩:=hP.up w h e;obtain⟨l,M,N,O⟩:=ih a p (R.set w (at' R (w:Int)+FY c v)) o (by omega) (by omega) (by simp[j]) (λu q=>by
    rw[b R w u _ (by omega)];have P:=i u q;have Q:=i w h;split<;>(push_cast at *;omega))
   refine⟨l,M,λu q=> ?_,?_⟩
   ·rw[N u q,b R w u _ (by omega)];have z:onP (BN g c) (m+1+1) (w:Int) u=(decide ((w:Int)=(u:Int))||onP (BN g c) (m+1) (p:Int) u):=by
     show(if(w:Int)<0 then false else _)=_;rw[if_neg (by omega),show Int.toNat (w:Int)=w from rfl,s]
    rw[z];by_cases A:u=w
    ·subst A;have x:onP (BN g c) (m+1) (p:Int) u=false:=by
      cases H:onP (BN g c) (m+1) (p:Int) u with
      |false=>rfl
      |true=>have:=Kt hP _ p u o H;omega
     rw[if_pos Z,x];simp
    ·rw[if_neg A,decide_eq_false (by omega),Bool.false_or]
   ·show fY _ _ _ _ ((w:Int),R) (bL _ a)=_;rw[step (m+1) w R _ h j i,s];exact O
theorem abY (j:SZ g c):∃R:List Int,qN 1000 g c=some R∧R.length=g.2.length∧∀u,u<g.2.length->at' R (u:Int)=wV (BN g c) g.2.length c u g.2.length:=by
 have h:=hV.n24;have F:=hV.n1;have y:D d 0=0:=(hD.zero 0 (by omega)).2 Z;unfold qN;have B:oG 1000 (g.1,g.2) c 1=some (vX g c c.length):=KR h j;rw[B,bG Z,bZ (by omega)];have o:=BW (step:=kS 1000 c (vX g c c.length)) (K:=λx=>some x.2) g.2.length (λk x=>x.1=(k:Int)∧x.2.length=g.2.length∧∀u,u<g.2.length->at' x.2 (u:Int)=wV (BN g c) g.2.length c u k) (λk x s b i=> ?_) (λx s i=> ?_) 1000 ((0:Int),List.replicate (Int.toNat (c.length:Int)) (0:Int)) ⟨rfl,by simp[hl],λu e=> ?_⟩ (by omega)
 ·obtain⟨x,⟨_,p,q⟩,r⟩:=o;exact⟨x.2,r,p,q⟩
 ·obtain⟨a,R⟩:=x;obtain⟨f,z,l⟩:=i;dsimp only at f z l;subst f;have C:=hD.hi k b;have t:=h0 k b;obtain⟨m,w⟩:∃m:Nat,D d k=(m:Int):=⟨(D d k).toNat,by omega⟩
  have E:=hD.lt b;obtain⟨A,p,q,r⟩:=Sy hV hl hr hx hP h0 b R s y m 1000 k R b w (by omega) z (λu e=>by
   have:=NH (P:=BN g c) (n:=g.2.length) (c:=c) (u:=u) (k:=k) λv G=>hx v (by omega);rw[l u e];omega)
  refine⟨(((k+1:Nat):Int),A),⟨rfl,p,λu e=> ?_⟩,?_⟩
  ·rw[q u e,l u e];simp only[wV];rw[Kv hP h0 y m k (g.2.length+1) u b w (by omega)]
  ·unfold kS;dsimp only;rw[if_pos (by omega)];exact r
 ·obtain⟨a,R⟩:=x;obtain⟨f,_⟩:=i;dsimp only at f;subst f;unfold kS sU;dsimp only;rw[if_neg (by omega)]
 ·rw[hl,fP,List.getD_eq_getElem?_getD];simp[wV,e]
def SAt (g:GR) (c:List (List Int)) (u:Nat):Prop:=at' (at' c (u:Int)) 5=wV (BN g c) g.2.length c u g.2.length

 omit hD hP h0 hx in
theorem Zd {R:List Int} (j:R.length=g.2.length) (h:∀u,u<g.2.length->at' R (u:Int)=wV (BN g c) g.2.length c u g.2.length):((∀v,v<g.2.length->SAt g c v)->bL (iJ c R) 1000 0=some true)∧(¬(∀v,v<g.2.length->SAt g c v)->bL (iJ c R) 1000 0=some false):=by
  have i:=hV.n24;refine uX (step:=iJ c R) (K:=some true) (bad:=some false) g.2.length (SAt g c) (λk=>(k:Int)) (λk f a b=> ?_) (λk f a b=> ?_) (λf=> ?_) 1000 (by omega)
  ·have e:=hr k a;unfold iJ;rw[if_pos (by omega),bZ (by omega),bZ (by omega),bZ (by omega),if_neg (by rw[h k a,show at' (at' c (k:Int)) 5=_ from b];simp),yX (by omega)]
  ·have e:=hr k a;unfold iJ;rw[if_pos (by omega),bZ (by omega),bZ (by omega),bZ (by omega),if_pos (by rw[h k a];exact b)]
  ·unfold iJ;rw[if_neg (by omega)];rfl
end
theorem PD {g:GR} {d:aO} {P:Nat->Int} (a:ZG g d P) (b:∀v,v<g.2.length->D d v=0->v=0):∀(m w f:Nat),w<g.2.length->D d w=(m:Int)->m<f->onP P f (w:Int) 0=true
 |0,w,f,hw,hd,hf=>by
  obtain⟨f,rfl⟩:∃k,f=k+1:=⟨f - 1,by omega⟩
  have:w=0:=b w hw hd;subst this;simp[onP]
 | m + 1, w, f, hw, hd, hf => by
  obtain⟨f,rfl⟩:∃k,f=k+1:=⟨f - 1,by omega⟩
  by_cases e:w=0
  ·subst e;simp[onP]
  ·obtain⟨p,h,c,i⟩:=a.up w hw e;simp only[onP];rw[if_neg (by omega),show Int.toNat (w:Int)=w from rfl,c,PD a b m p f h (by omega) (by omega),Bool.or_true]
def FN (c:bE):Nat->Int
 |0=>0
 |k+1=>FN c k+FY c k
theorem Mk {P:Nat->Int} {n:Nat} {c:bE}:∀{k:Nat},(∀v,v<k->onP P (n+1) (v:Int) 0=true)->wV P n c 0 k=FN c k
 |0,_=>rfl
 |k+1,h=>by
  simp only[wV,FN];rw[Mk λv a=>h v (by omega),if_pos (h k (by omega))]
end Go.Proofs.YtlkhndebimcbbaaGreatDoor
namespace Go.Proofs.YtlkhndebimcbbaaGreatDoor
open Go Go.Sx
def o_ (g:GR) (d:aO) (v:Nat) (p:Int):Prop:=(∃i:Nat,i<(row g v).length∧p=i∧at' d (fK (row g v) i).1=D d v - 1∧∀k,k<i->¬at' d (fK (row g v) k).1=D d v - 1)∨(p = -1∧∀k,k<(row g v).length->¬at' d (fK (row g v) k).1=D d v - 1)
theorem o_.uniq {g:GR} {d:aO} {v:Nat} {p l:Int} (h:o_ g d v p) (m:o_ g d v l):p=l:=by
 rcases h with⟨i,a,b,c,n⟩|⟨a,b⟩<;>rcases m with⟨j,e,f,k,o⟩|⟨e,f⟩
 ·have:i=j:=by
   rcases Nat.lt_trichotomy i j with q|q|q
   ·exact absurd c (o i q)
   ·exact q
   ·exact absurd k (n j q)
  omega
 ·exact absurd c (f i a)
 ·exact absurd k (b j e)
 ·omega
section
variable {g:GR} {d:List Int} {c:List (List Int)} (hV:VG g) (hD:oL g 0 d) (h0:∀v,v<g.2.length->0<=D d v)
 include hV hD h0
theorem ahg (s:∀u,u<g.2.length->EC c u=D d u) {v:Nat} (l:v<g.2.length):(TB g c v).1=D d v∧o_ g d v (TB g c v).2:=by
 have J:=hV.n24;have O:=hV.n1;have I:=hV.len;have b:∀i u:Nat,(fK (row g v) i).1=(u:Int)->u<g.2.length->zI g c v i=D d u∧at' d (fK (row g v) i).1=D d u:=λi u a f=>⟨by rw[EH a];exact s u f,by rw[a]⟩
 unfold TB;by_cases q:v=0
 ·subst q;rw[if_pos Z];have Q:=(hD.zero 0 l).2 Z;refine⟨Q.symm,.inr ⟨rfl,λk G e=> ?_⟩⟩
  obtain⟨u,f,a,_⟩:=hV.port l G;rw[(b k u a f).2]at e;have:=h0 u f;omega
 ·rw[if_neg q];have z:0<D d v:=by
   have:=h0 v l;have P:D d v≠0:=λe=>q ((hD.zero v l).1 e);omega
  obtain⟨R,H,⟨B,t,A⟩,C⟩:=hD.near v l z;have n:zI g c v B=D d v - 1:=by rw[(b B R A H).1,C]
  have E:∀i,i<(row g v).length->D d v - 1<=zI g c v i:=λi F=>by
   obtain⟨u,f,a,r⟩:=hV.port l F;rw[(b i u a f).1];have:=(hD.next u f (h0 u f) v l (hV.back l r)).2;omega
  have o:zH (Ix g c v)=D d v - 1:=by
   have S:zH (Ix g c v)<=D d v - 1:=n▸Nv (List.mem_map.2 ⟨B,List.mem_range.2 t,rfl⟩);rcases Km (Ix g c v)with e|e
   ·have:=hD.hi v l;omega
   ·obtain⟨i,F,T⟩:=RZ e;have:=E i F;omega
  have M:=hD.hi v l;have K:XB g c v=D d v:=by
   unfold XB;rw[o,if_pos (by omega),wr (by omega) (by omega)];unfold Ul;omega
  refine⟨K,?_⟩
  show o_ g d v (YB g c v);obtain⟨m,U,h,y⟩:=Gy (p:=λi=>i<(row g v).length∧zI g c v i=D d v - 1) B ⟨t,n⟩;have L:YB g c v=(m:Int):=by
   unfold YB;rw[o];refine rR (by simpa using h.1) ?_ λj N=> ?_
   ·rw[lD _ h.1,decide_eq_true h.2];simp[As]
   ·have w:j<(row g v).length:=by omega
    rw[lD _ w,decide_eq_false λe=>y j N ⟨w,e⟩];simp[As]
  refine .inl ⟨m,h.1,L,?_,λk G e=> ?_⟩
  ·obtain⟨u,f,a,_⟩:=hV.port l h.1;rw[(b m u a f).2,<-(b m u a f).1];exact h.2
  ·have x:k<(row g v).length:=by omega
   obtain⟨u,f,a,_⟩:=hV.port l x;rw[(b k u a f).2,<-(b k u a f).1]at e;exact y k G ⟨x,e⟩
end
structure ZH (g:GR) (d:aO) (k:Nat) (c:bE):Prop where
 near:∀v,v<g.2.length->D d v<(k:Int)->EC c v=D d v∧o_ g d v (GG c v)
 far:∀v,v<g.2.length->(k:Int)<=D d v->(k:Int)<=EC c v
def TrT (g:GR) (d:aO) (k:Nat) (c:bE) (v:Nat):Prop:=v<g.2.length∧((D d v<=(k:Int)∧¬(EC c v=D d v∧o_ g d v (GG c v)))∨((k:Int)<D d v∧EC c v<=(k:Int)))
structure TrS (g:GR) (c:bE) (t:Nat) (c':bE):Prop where
 stay:∀v,v<g.2.length->t.testBit v=false->EC c' v=EC c v∧GG c' v=GG c v
 move:∀v,v<g.2.length->t.testBit v=true->EC c' v=(TB g c v).1∧GG c' v=(TB g c v).2
section
variable {g:GR} {d:List Int} {c c':List (List Int)} {k t:Nat} (hV:VG g) (hD:oL g 0 d) (h0:∀v,v<g.2.length->0<=D d v)
 include hV hD h0
theorem Zf (h:ZH g d k c) {v:Nat} (w:v<g.2.length):(D d v<=(k:Int)->(TB g c v).1=D d v∧o_ g d v (TB g c v).2)∧((k:Int)<D d v->(k:Int)<(TB g c v).1):=by
 have P:=hV.n24;have W:=hV.n1;have O:=hV.len;have T:=hD.hi v w;have x:∀i,i<(row g v).length->∃u,u<g.2.length∧at' d (fK (row g v) i).1=D d u∧D d v - 1<=D d u∧(D d u<(k:Int)->zI g c v i=D d u)∧((k:Int)<=D d u->(k:Int)<=zI g c v i):=λi b=>by
  obtain⟨u,n,y,A⟩:=hV.port w b;have:=(hD.next u n (h0 u n) v w (hV.back w A)).2;rw[EH y,y];exact⟨u,n,rfl,by omega,λq=>(h.near u n q).1,λq=>h.far u n q⟩
 unfold TB;by_cases z:v=0
 ·subst z;rw[if_pos Z];have Y:=(hD.zero 0 w).2 Z;refine⟨λ_=>⟨Y.symm,.inr ⟨rfl,λi b e=> ?_⟩⟩,λq=>by omega⟩
  obtain⟨u,n,y,_⟩:=x i b;have:=h0 u n;omega
 rw[if_neg z];have E:0<D d v:=by
  have:=h0 v w;have X:D d v≠0:=λe=>z ((hD.zero v w).1 e);omega
 have r:zH (Ix g c v)=1073741824∨∃i,i<(row g v).length∧zI g c v i=zH (Ix g c v):=by
  rcases Km (Ix g c v)with e|e
  ·exact .inl e
  ·exact .inr (RZ e)
 refine⟨λU=> ?_,λU=> ?_⟩
 ·obtain⟨u0,K,⟨L,B,F⟩,H⟩:=hD.near v w E;have o:zI g c v L=D d v - 1:=by
   rw[EH F,(h.near u0 K (by omega)).1,H]
  have f:∀i,i<(row g v).length->D d v - 1<=zI g c v i∧(zI g c v i=D d v - 1↔at' d (fK (row g v) i).1=D d v - 1):=λi b=>by
   obtain⟨u,n,e,M,N,G⟩:=x i b;by_cases q:D d u<(k:Int)
   ·have:=N q;omega
   ·have:=G (by omega);omega
  have s:zH (Ix g c v)=D d v - 1:=by
   have M:zH (Ix g c v)<=D d v - 1:=o▸Nv (List.mem_map.2 ⟨L,List.mem_range.2 B,rfl⟩);rcases r with e|⟨i,b,S⟩
   ·omega
   ·have:=(f i b).1;omega
  have Q:XB g c v=D d v:=by
   unfold XB;rw[s,if_pos (by omega),wr (by omega) (by omega)];unfold Ul;omega
  refine⟨Q,?_⟩
  show o_ g d v (YB g c v);obtain⟨m,V,a,C⟩:=Gy (p:=λi=>i<(row g v).length∧zI g c v i=D d v - 1) L ⟨B,o⟩;have R:YB g c v=(m:Int):=by
   unfold YB;rw[s];refine rR (by simpa using a.1) ?_ λj J=> ?_
   ·rw[lD _ a.1,decide_eq_true a.2];simp[As]
   ·have l:j<(row g v).length:=by omega
    rw[lD _ l,decide_eq_false λe=>C j J ⟨l,e⟩];simp[As]
  refine .inl ⟨m,a.1,R,((f m a.1).2).1 a.2,λj J e=> ?_⟩;have l:j<(row g v).length:=by omega
  exact C j J ⟨l,((f j l).2).2 e⟩
 ·have I:∀i,i<(row g v).length->(k:Int)<=zI g c v i:=λi b=>by
   obtain⟨u,n,e,M,N,G⟩:=x i b;exact G (by omega)
  have V:(k:Int)<=zH (Ix g c v):=by
   rcases r with e|⟨i,b,S⟩
   ·omega
   ·have:=I i b;omega
  show(k:Int)<XB g c v;unfold XB;by_cases q:zH (Ix g c v)<(g.1.length:Int)
  ·rw[if_pos q,wr (by omega) (by omega)];unfold Ul;omega
  ·rw[if_neg q];omega
theorem Uu (h:ZH g d k c) {v:Nat} (f:TrT g d k c v):¬FL g c v:=by
 obtain⟨m,f⟩:=f;obtain⟨a,b⟩:=Zf hV hD h0 h m;rintro⟨n,o⟩;rcases f with⟨e,i⟩|⟨e,i⟩
 ·obtain⟨j,l⟩:=a e;exact i ⟨by rw[n,j],by rw[o];exact l⟩
 ·have:=b e;omega
theorem Zg (h:ZH g d k c) (l:TrS g c t c'):ZH g d k c'∧∀v,TrT g d k c' v->TrT g d k c v∧t.testBit v=false:=by
 refine⟨⟨λv e n=> ?_,λv e n=> ?_⟩,λv ⟨e,m⟩=> ?_⟩
 all_goals obtain⟨a,b⟩:=Zf hV hD h0 h e
 ·cases f:t.testBit v with
  |true=>obtain⟨i,j⟩:=l.move v e f;rw[i,j];exact a (by omega)
  |false=>obtain⟨i,j⟩:=l.stay v e f;rw[i,j];exact h.near v e n
 ·cases f:t.testBit v with
  |true=>
   rw[(l.move v e f).1];by_cases q:D d v<=(k:Int)
   ·rw[(a q).1];exact n
   ·have:=b (by omega);omega
  |false=>rw[(l.stay v e f).1];exact h.far v e n
 ·cases f:t.testBit v with
  |true=>
   exfalso;obtain⟨i,j⟩:=l.move v e f;rw[i,j]at m;rcases m with⟨o,p⟩|⟨o,p⟩
   ·exact p (a o)
   ·have:=b o;omega
  |false=>
   obtain⟨i,j⟩:=l.stay v e f;rw[i,j]at m;exact⟨⟨e,m⟩,rfl⟩
 omit hV hD in
theorem HT (b:∀v,v<g.2.length->0<=EC c v):ZH g d 0 c:=⟨λv a q=>by have:=h0 v a;omega,λv a _=>b v a⟩
 omit hV hD h0 in
theorem Qk (h:ZH g d k c) (e:∀v,¬TrT g d k c v):ZH g d (k+1) c:=by
  have b:∀v,v<g.2.length->(D d v<=(k:Int)->EC c v=D d v∧o_ g d v (GG c v))∧((k:Int)<D d v->(k:Int)<EC c v):=λv a=>
   ⟨λq=>Classical.not_not.1 λr=>e v ⟨a,.inl ⟨q,r⟩⟩,λq=>Decidable.not_not.1 λf=>e v ⟨a,.inr ⟨q,by omega⟩⟩⟩
  exact⟨λv a q=>(b v a).1 (by omega),λv a q=>by have:=(b v a).2 (by omega);omega⟩
end
theorem agX {g:GR} {a:List De} (b:tB g a) {x:Nat} (c:x<a.length) (v:Nat):lo g (at' a (x:Int)) v<=hi g (at' a (x:Int)) v:=by
 rcases b.kind x c with k|k|k
 ·have h:=(b.range x c k).2.1;unfold lo hi at h ⊢;rw[k]at h ⊢;simpa using h
 ·unfold lo hi;rw[k];simp
 ·unfold lo hi;rw[k];simp;omega
theorem UY {g:GR} {a:List De} (b:tB g a) {x:Nat} (c:x<a.length) (v:Nat) (y:Int):lo g (at' a (x:Int)) v<=mG (at' a (x:Int)).2.1 (pH g a v x) y∧mG (at' a (x:Int)).2.1 (pH g a v x) y<=hi g (at' a (x:Int)) v:=by
 have h:=agX b c v;unfold mG pH;dsimp only;split
 ·assumption
 ·split
  ·rename_i k;unfold lo hi;rw[k];simp;omega
  ·split<;>omega
section
variable {S:AZ} {vars:List De} {R:List RL} {c:List (List Int)} {t v:Nat}
theorem YY (f:tB S.2.1 vars) {a:List Int} (d:a.length=vars.length) (h:∀x,x<vars.length->lo S.2.1 (at' vars (x:Int)) v<=at' a (x:Int)∧at' a (x:Int)<=hi S.2.1 (at' vars (x:Int)) v) (s:Nat×E):
  (Ef S vars c v a s).length=vars.length∧∀x,x<vars.length->lo S.2.1 (at' vars (x:Int)) v<=at' (Ef S vars c v a s) (x:Int)∧at' (Ef S vars c v a s) (x:Int)<=hi S.2.1 (at' vars (x:Int)) v:=by
 unfold Ef;refine⟨by rw[List.length_set,d],λx b=> ?_⟩
 by_cases g:s.1<a.length
 ·rw[tE a s.1 x _ g];split
  ·rename_i e;rw[<-e];exact UY f b v _
  ·exact h x b
 ·rw[List.set_eq_of_length_le (by omega)];exact h x b
theorem LY (k:tB S.2.1 vars) (h:Du S.2.1 c vars) (j:v<S.2.1.2.length) (i:Int):(lT S vars R c v i).length=vars.length∧∀x,x<vars.length->lo S.2.1 (at' vars (x:Int)) v<=at' (lT S vars R c v i) (x:Int)∧at' (lT S vars R c v i) (x:Int)<=hi S.2.1 (at' vars (x:Int)) v:=by
 have g:∀(l:List (Nat×E)) (d:List Int),d.length=vars.length->(∀x,x<vars.length->lo S.2.1 (at' vars (x:Int)) v<=at' d (x:Int)∧at' d (x:Int)<=hi S.2.1 (at' vars (x:Int)) v)->
   (l.foldl (Ef S vars c v) d).length=vars.length∧∀x,x<vars.length->lo S.2.1 (at' vars (x:Int)) v<=at' (l.foldl (Ef S vars c v) d) (x:Int)∧at' (l.foldl (Ef S vars c v) d) (x:Int)<=hi S.2.1 (at' vars (x:Int)) v:=by
  intro l
  induction l with
  |nil=>intro d e f;exact⟨e,f⟩
  |cons s l m=>
   intro d e f;obtain⟨a,b⟩:=YY (c:=c) k e f s;exact m _ a b
 exact g _ _ (h.row v j) (h.ok v j)
theorem Mi (e:tB S.2.1 vars) (a:Du S.2.1 c vars):Du S.2.1 (g_ S vars R c t) vars:=by
 have d:=a.len;refine⟨by rw[Mh,d],λv b=> ?_,λv b x f=> ?_⟩
 ·rw[yV (by omega)];split
  ·exact(LY e a b _).1
  ·exact a.row v b
 ·unfold val;rw[yV (by omega)];split
  ·exact(LY e a b _).2 x f
  ·exact a.ok v b x f
theorem Sv {x:Nat} (j:∀r∈R,∀s∈r.2,s.1≠x) (k:v<c.length):at' (at' (g_ S vars R c t) (v:Int)) (x:Int)=at' (at' c (v:Int)) (x:Int):=by
 rw[yV k];split
 ·have f:∀(l:List (Nat×E)) (b:List Int),(∀s∈l,s.1≠x)->at' (l.foldl (Ef S vars c v) b) (x:Int)=at' b (x:Int):=by
   intro l
   induction l with
   |nil=>intro b _;rfl
   |cons s l m=>
    intro b h;refine(m _ λn d=>h n (List.mem_cons_of_mem _ d)).trans ?_;unfold Ef;by_cases a:s.1<b.length
    ·rw[tE b s.1 x _ a,if_neg (λe=>h s List.mem_cons_self e.symm)]
    ·rw[List.set_eq_of_length_le (by omega)]
  refine f _ _ λs a=> ?_;generalize dL S R c v=i at a;unfold at' at a;by_cases g:i.toNat<R.length
  ·rw[List.getD_eq_getElem?_getD,List.getElem?_eq_getElem g,Option.getD_some]at a;exact j _ (List.getElem_mem g) s a
  ·rw[List.getD_eq_getElem?_getD,List.getElem?_eq_none (by omega),Option.getD_none]at a;cases a
 ·rfl
end
theorem RE (a b:aO):p_ (a++b)=if 0<=p_ a then p_ a else if 0<=p_ b then(a.length:Int)+p_ b else -1:=by
 unfold p_;rw[List.findIdx?_append];cases c:a.findIdx? nz with
 |some i=>simp
 |none=>
  cases d:b.findIdx? nz with
  |some i=>simp;omega
  |none=>simp
theorem aah {c:Type} [Inhabited c] (a b:List c) {i:Nat} (h:i<a.length):at' (a++b) (i:Int)=at' a (i:Int):=by
 rw[fP,fP,List.getD_eq_getElem?_getD,List.getD_eq_getElem?_getD,List.getElem?_append_left h]
theorem aai {c:Type} [Inhabited c] (a b:List c) (i:Nat):at' (a++b) ((a.length+i:Nat):Int)=at' b (i:Int):=by
 rw[fP,fP,List.getD_eq_getElem?_getD,List.getD_eq_getElem?_getD,List.getElem?_append_right (by omega),Nat.add_sub_cancel_left]
section
variable {S:AZ} {A B R:List RL} {vars:List De} {c:List (List Int)} {v:Nat}
theorem Mg:dL S (A++B) c v=if 0<=dL S A c v then dL S A c v else if 0<=dL S B c v then(A.length:Int)+dL S B c v else -1:=by
 unfold dL;rw[List.map_append,RE,List.length_map]
theorem Sc {i:Nat} (h:i<A.length):lT S vars (A++B) c v (i:Int)=lT S vars A c v (i:Int):=by
 unfold lT;rw[aah _ _ h]
theorem Sd (i:Nat):lT S vars (A++B) c v ((A.length+i:Nat):Int)=lT S vars B c v (i:Int):=by
 unfold lT;rw[aai]
theorem Ec {i:Nat} (b:i<R.length) (d:fS S c v (at' R (i:Int)).1≠0) (f:∀j:Nat,j<i->fS S c v (at' R (j:Int)).1=0):dL S R c v=(i:Int):=by
 have e:∀j:Nat,j<R.length->at' (R.map λr=>fS S c v r.1) (j:Int)=fS S c v (at' R (j:Int)).1:=λj a=>by
  rw[lN (by simpa using a),lN a];simp
 exact rR (by simpa using b) (by rw[e i b];exact d) λj a=>by rw[e j (by omega)];exact f j a
theorem Kn {x:Nat} (j:∀r∈R,∀s∈r.2,s.1≠x) (i:Int):at' (lT S vars R c v i) (x:Int)=at' (at' c (v:Int)) (x:Int):=by
 have f:∀(l:List (Nat×E)) (b:List Int),(∀s∈l,s.1≠x)->at' (l.foldl (Ef S vars c v) b) (x:Int)=at' b (x:Int):=by
  intro l
  induction l with
  |nil=>intro b _;rfl
  |cons s l k=>
   intro b h;refine(k _ λm d=>h m (List.mem_cons_of_mem _ d)).trans ?_;unfold Ef;by_cases a:s.1<b.length
   ·rw[tE b s.1 x _ a,if_neg (λe=>h s List.mem_cons_self e.symm)]
   ·rw[List.set_eq_of_length_le (by omega)]
 refine f _ _ λs a=> ?_;unfold at' at a;by_cases g:i.toNat<R.length
 ·rw[List.getD_eq_getElem?_getD,List.getElem?_eq_getElem g,Option.getD_some]at a;exact j _ (List.getElem_mem g) s a
 ·rw[List.getD_eq_getElem?_getD,List.getElem?_eq_none (by omega),Option.getD_none]at a;cases a
end

def HK (g:GR) (c:List (List Int)):List (List Int):=(List.range g.2.length).map λv=>[EC c v,GG c v]
section
variable {p:sF} {g:GR} {W:List De} {R':List RL} {c:List (List Int)} {v t:Nat}
theorem Uc (a:v<g.2.length):EC (HK g c) v=EC c v:=by
 show at' (at' (HK g c) (v:Int)) 0=_;rw[show at' (HK g c) (v:Int)=[EC c v,GG c v]from lD _ a];rfl
theorem abH (a:v<g.2.length):GG (HK g c) v=GG c v:=by
 show at' (at' (HK g c) (v:Int)) 1=_;rw[show at' (HK g c) (v:Int)=[EC c v,GG c v]from lD _ a];rfl
theorem Hu (d:Du g c (sD++W)) (e:v<g.2.length):(0<=EC c v∧EC c v<=(g.2.length:Int)) ∧ -1<=GG c v∧GG c v<=((row g v).length:Int) - 1:=by
 have a:=d.ok v e 0 (by show 0<W.length+2;omega);have b:=d.ok v e 1 (by show 1<W.length+2;omega);have f:lo g (at' (sD++W) ((0:Nat):Int)) v=0:=Ym g v;have h:hi g (at' (sD++W) ((0:Nat):Int)) v=(g.2.length:Int):=Ya g v;have i:lo g (at' (sD++W) ((1:Nat):Int)) v = -1:=aer g v;have j:hi g (at' (sD++W) ((1:Nat):Int)) v=((row g v).length:Int) - 1:=aeg g v;rw[f,h]at a;rw[i,j]at b;exact⟨a,b⟩
theorem abI (f:Du g c (sD++W)):Du g (HK g c) sD:=by
 refine⟨by simp[HK],λu d=>by rw[show at' (HK g c) (u:Int)=[EC c u,GG c u]from lD _ d];rfl,λu d x e=> ?_⟩
 obtain⟨a,b⟩:=Hu f d;have e:x<2:=e
 match x,e with
 |0,_=>rw[Ym,Ya];show 0<=EC (HK g c) u∧EC (HK g c) u<=_;rw[Uc d];exact a
 |1,_=>rw[aer,aeg];show -1<=GG (HK g c) u∧GG (HK g c) u<=_;rw[abH d];exact b
theorem acR (a:VG g) (d:Du g c (sD++W)) (b:v<g.2.length):(0<=(TB g c v).1∧(TB g c v).1<=(g.2.length:Int)) ∧ -1<=(TB g c v).2∧(TB g c v).2<=((row g v).length:Int) - 1:=by
 rw[<-ZW a b λu e=>Uc (c:=c) e];exact agh a (abI d) b
theorem acz (l:List Int) (h:2<=l.length) (x y:Int):at' ((l.set 0 x).set 1 y) 0=x∧at' ((l.set 0 x).set 1 y) 1=y:=by
 match l,h with
 |a::b::l,_=>exact⟨rfl,rfl⟩
theorem aey (r:VG g) (l:Du g c (sD++W)) (n:v<g.2.length) (h:0<=dL (aQ p g) RB c v):at' (lT (aQ p g) (sD++W) RB c v (dL (aQ p g) RB c v)) 0=(TB g c v).1∧at' (lT (aQ p g) (sD++W) RB c v (dL (aQ p g) RB c v)) 1=(TB g c v).2:=by
 have m:2<=(at' c (v:Int)).length:=by
  have e:(at' c (v:Int)).length=W.length+2:=l.row v n;omega
 have j:pH g sD v 0=(0,(g.2.length:Int)):=by unfold pH;rw[Ym,Ya]
 have k:pH g sD v 1=(-1,((row g v).length:Int) - 1):=by unfold pH;rw[aer,aeg]
 obtain⟨⟨o,b⟩,q,d⟩:=acR r l n;rcases PT h with⟨e,a,_⟩|⟨e,a,_⟩
 ·have f:lT (aQ p g) (sD++W) RB c v 0=((at' c (v:Int)).set 0 (mG 1 (pH g sD v 0) 0)).set 1 (mG 3 (pH g sD v 1) (-1)):=rfl;have i:TB g c v=(0,-1):=by unfold TB;rw[if_pos a]
  rw[i]at d b ⊢;dsimp only at d b;rw[e,f,j,k,BR (by omega) (by omega),BR (by omega) (by omega)];exact acz _ m _ _
 ·have f:lT (aQ p g) (sD++W) RB c v 1=((at' c (v:Int)).set 0 (mG 1 (pH g sD v 0) (fS (aQ p g) c v exX))).set 1 (mG 3 (pH g sD v 1) (fS (aQ p g) c v exY)):=rfl;have i:TB g c v=(XB g c v,YB g c v):=by unfold TB;rw[if_neg a]
  rw[i]at o b q d ⊢;dsimp only at o b q d;rw[e,f,j,k,XF,XG,BR (by omega) (by omega),BR (by omega) (by omega)];exact acz _ m _ _
theorem Jb (h:FL g c v):dL (aQ p g) (RB++R') c v=if 0<=dL (aQ p g) R' c v then 2+dL (aQ p g) R' c v else -1:=by
 rw[Mg,if_neg (Mf.2 h)];rfl
theorem Kq (h:¬FL g c v):dL (aQ p g) (RB++R') c v=dL (aQ p g) RB c v∧0<=dL (aQ p g) RB c v:=by
 have:0<=dL (aQ p g) RB c v:=Decidable.not_not.1 λq=>h (Mf.1 q);exact⟨by rw[Mg,if_pos this],this⟩
theorem Pu (h:FL g c v) (a:0<=dL (aQ p g) (RB++R') c v):0<=dL (aQ p g) R' c v∧lT (aQ p g) (sD++W) (RB++R') c v (dL (aQ p g) (RB++R') c v)=lT (aQ p g) (sD++W) R' c v (dL (aQ p g) R' c v):=by
 rw[Jb h]at a;by_cases q:0<=dL (aQ p g) R' c v
 ·refine⟨q,?_⟩
  rw[Jb h,if_pos q];obtain⟨i,b⟩:∃i:Nat,dL (aQ p g) R' c v=(i:Int):=⟨_,(Int.toNat_of_nonneg q).symm⟩
  rw[b,show(2:Int)+(i:Int)=((RB.length+i:Nat):Int) by simp[RB]];exact Sd i
 ·rw[if_neg q]at a;omega
theorem aeS (u:VG g) (m:Du g c (sD++W)) (l:∀r∈R',∀s∈r.2,2<=s.1) (j:∀v,t.testBit v=true->v<g.2.length∧0<=dL (aQ p g) (RB++R') c v):TrS g c t (g_ (aQ p g) (sD++W) (RB++R') c t):=by
 have a:=m.len;refine⟨λv f b=> ?_,λv f b=> ?_⟩
 ·unfold EC GG;rw[yV (by rw[a];exact f),if_neg (by rw[b];decide)];exact⟨rfl,rfl⟩
 ·obtain⟨_,y⟩:=j v b;unfold EC GG;rw[yV (by rw[a];exact f),if_pos b];by_cases d:FL g c v
  ·obtain⟨_,e⟩:=Pu (W:=W) d y;rw[e];have z:=Kn (S:=aQ p g) (R:=R') (vars:=sD++W) (c:=c) (v:=v) (x:=0) (λr h s k=>by have:=l r h s k;omega) (dL (aQ p g) R' c v);have A:=Kn (S:=aQ p g) (R:=R') (vars:=sD++W) (c:=c) (v:=v) (x:=1) (λr h s k=>by have:=l r h s k;omega) (dL (aQ p g) R' c v);exact⟨z.trans d.1,A.trans d.2⟩
  ·obtain⟨e,o⟩:=Kq (p:=p) (R':=R') d;rw[e];obtain⟨i,n,w⟩:∃i:Nat,dL (aQ p g) RB c v=(i:Int)∧i<RB.length:=by
    rcases Ed (aQ p g) RB c v with q|⟨i,B,C,_⟩
    ·omega
    ·exact⟨i,B,C⟩
   rw[n,Sc w,<-n];exact aey u m f o
end
section
variable {L:Int->Int->Int->Int} {deg:Nat} {x y:E} {q:Int}
theorem Ct:(E.bi 41 x y).den L deg q≠0↔x.den L deg q≠0∧y.den L deg q≠0:=by
 show As (decide (x.den L deg q≠0)&&decide (y.den L deg q≠0))≠0↔_;rw[tM,Bool.and_eq_true,decide_eq_true_eq,decide_eq_true_eq]
theorem Xw:(E.bi 42 x y).den L deg q≠0↔x.den L deg q≠0∨y.den L deg q≠0:=by
 show As (decide (x.den L deg q≠0)||decide (y.den L deg q≠0))≠0↔_;rw[tM,Bool.or_eq_true,decide_eq_true_eq,decide_eq_true_eq]
theorem IS:(E.un 19 x).den L deg q≠0↔x.den L deg q=0:=by
 show As (decide (x.den L deg q=0))≠0↔_;rw[tM,decide_eq_true_eq]
theorem JM:(E.bi 35 x y).den L deg q≠0↔x.den L deg q=y.den L deg q:=by
 show As (decide (x.den L deg q=y.den L deg q))≠0↔_;rw[tM,decide_eq_true_eq]
theorem Xv:(E.bi 36 x y).den L deg q≠0↔x.den L deg q≠y.den L deg q:=by
 show As (decide (x.den L deg q≠y.den L deg q))≠0↔_;rw[tM,decide_eq_true_eq]
theorem OW:(E.ag 21 x).den L deg q≠0↔∃i:Nat,i<deg∧x.den L deg (i:Int)≠0:=by
 show As (((List.range deg).map λi=>x.den L deg ((i:Nat):Int)).any nz)≠0↔_;rw[tM,List.any_eq_true];constructor
 ·rintro⟨z,c,b⟩;obtain⟨i,a,rfl⟩:=List.mem_map.1 c;exact⟨i,List.mem_range.1 a,by simpa [nz]using b⟩
 ·rintro⟨i,a,b⟩;exact⟨_,List.mem_map.2 ⟨i,List.mem_range.2 a,rfl⟩,by simpa [nz]using b⟩
theorem aaX:(E.ag 20 x).den L deg q≠0↔∀i:Nat,i<deg->x.den L deg (i:Int)≠0:=by
 show As (((List.range deg).map λi=>x.den L deg ((i:Nat):Int)).all nz)≠0↔_;rw[tM,List.all_eq_true];constructor
 ·intro h i a;have:=h _ (List.mem_map.2 ⟨i,List.mem_range.2 a,rfl⟩);simpa [nz]using this
 ·intro h z b;obtain⟨i,a,rfl⟩:=List.mem_map.1 b;simpa [nz]using h i (List.mem_range.1 a)
end
def oF (c:List (List Int)) (v:Nat) (x:Int):Int:=at' (at' c (v:Int)) x
def NW (g:GR) (c:List (List Int)) (v i:Nat) (x:Int):Int:=at' (at' c (fK (row g v) i).1) x
theorem zJ {g:GR} {c:List (List Int)} {v i u:Nat} {x:Int} (h:(fK (row g v) i).1=(u:Int)):NW g c v i x=oF c u x:=by unfold NW oF;rw[h]
def Pe:E:= .bi 35 (.lf 11 0) (.lf 5 1)
def agK:E:= .bi 41 (.bi 41 (.lf 10 0) (.un 19 (.lf 5 2))) (.lf 5 5)
def XV:E:= .bi 41 (.un 19 (.lf 10 0)) (.ag 21 (.bi 41 Pe (.bi 42 (.bi 36 (.lf 12 3) (.lf 5 3)) (.bi 41 (.lf 5 2) (.un 19 (.lf 12 2))))))
def XX:E:= .bi 41 (.lf 5 2) (.ag 20 (.bi 42 (.bi 36 (.lf 12 1) (.lf 17 0)) (.bi 41 (.un 19 (.lf 12 2)) (.bi 35 (.lf 12 3) (.lf 5 3)))))
def agL:E:= .bi 41 (.bi 41 (.un 19 (.lf 5 2)) (.un 19 (.lf 5 5))) (.ag 21 (.bi 41 (.bi 41 (.bi 35 (.lf 12 1) (.lf 17 0)) (.lf 12 5)) (.un 19 (.lf 12 2))))
def RS:List RL:=[(guT,[(0,.lf 1 0),(1,.lf 4 0)]),(guB,[(0,exX),(1,exY)]),(agK,[(2,.lf 2 0),(3,.un 19 (.lf 5 3)),(4,.lf 1 0),(5,.lf 3 0)]),
 (XV,[(2,.ag 21 (.bi 41 Pe (.lf 12 2))),(3,.ag 21 (.bi 41 Pe (.lf 12 3))),(4,.lf 1 0),(5,.lf 3 0)]),(XX,[(2,.lf 3 0)]),(agL,[(5,.lf 2 0)])]
section
variable {p:sF} {g:GR} {c:List (List Int)} {v:Nat}
theorem aeI {a:Nat} {q:Int}:(E.lf 10 0).den (TR (aQ p g,c,(v:Int),[])) a q≠0↔v=0:=by
 show As (decide ((v:Int)=0))≠0↔_;rw[tM,decide_eq_true_eq];omega
theorem ahc {a:Nat} {q:Int}:(E.lf 10 0).den (TR (aQ p g,c,(v:Int),[])) a q=0↔v≠0:=by
 show As (decide ((v:Int)=0))=0↔_;rw[agm,decide_eq_false_iff_not];omega
theorem Rk (d:v<g.2.length) {a i:Nat} (b:i<(row g v).length):(E.lf 17 0).den (TR (aQ p g,c,(v:Int),[])) a (i:Int)=Dh g v i:=by
 show at' (at' (fI g) (v:Int)) (i:Int)=_;unfold fI;rw[lD _ d,lD _ b]
theorem XW:fS (aQ p g) c v XV≠0↔v≠0∧∃i:Nat,i<(row g v).length∧(i:Int)=oF c v 1∧(NW g c v i 3≠oF c v 3∨(oF c v 2≠0∧NW g c v i 2=0)):=by
 unfold fS XV Pe;rw[Ct,IS,ahc,OW];simp only[Ct,Xw,IS,JM,Xv];exact Iff.rfl
theorem XY (b:v<g.2.length):fS (aQ p g) c v XX≠0↔oF c v 2≠0∧∀i:Nat,i<(row g v).length->NW g c v i 1≠Dh g v i∨(NW g c v i 2=0∧NW g c v i 3=oF c v 3):=by
 unfold fS XX;rw[Ct,aaX];simp only[Ct,Xw,IS,JM,Xv];refine and_congr Iff.rfl ⟨λh i a=> ?_,λh i a=> ?_⟩
 ·have:=h i a;rw[Rk b a]at this;exact this
 ·rw[Rk b a];exact h i a
end
end Go.Proofs.YtlkhndebimcbbaaGreatDoor
namespace Go.Proofs.YtlkhndebimcbbaaGreatDoor
structure RT (n E:Nat) (par dp:Nat->Nat):Prop where
 n1:0<n
 d0:dp 0=0
 up:∀v,v<n->v≠0->par v<n∧dp v=dp (par v)+1
 le:∀v,v<n->dp v<=E
def La (a:Nat->Nat) (s b:Nat->Int) (v:Nat):Prop:=v≠0∧(b (a v)≠b v∨(s v≠0∧s (a v)=0))
def SQ (n:Nat) (a:Nat->Nat) (s b:Nat->Int) (v:Nat):Prop:=s v≠0∧∀w,w<n->w≠0->a w=v->s w=0∧b w=b v
structure WS (n:Nat) (par:Nat->Nat) (m:Nat->Prop) (s b s' b':Nat->Int):Prop where
 stay:∀v,v<n->¬m v->s' v=s v∧b' v=b v
 take:∀v,v<n->m v->La par s b v->s' v=s (par v)∧b' v=b (par v)
 fin:∀v,v<n->m v->¬La par s b v->SQ n par s b v->s' v=0∧b' v=b v
 oth:∀v,v<n->m v->¬La par s b v->¬SQ n par s b v->(s' v=s v∧b' v=b v)∨(v=0∧s 0=0∧s' 0≠0∧b' 0≠b 0)
def gd (a:Nat->Nat) (s b:Nat->Int) (v:Nat):Prop:=s (a v)≠0∨(s v=0∧b v=b (a v))
def AG (n:Nat) (a:Nat->Nat) (s b:Nat->Int):Prop:=∀v,v<n->v≠0->gd a s b v
def Qt (n:Nat) (s b:Nat->Int):Prop:=∀v,v<n->s v=0∧b v=b 0
def Ws (n:Nat) (a:Nat->Nat) (b:Nat->Int) (j:Nat):Prop:=∀v,v<n->a v<=j->b v=b 0
def UL (n E:Nat) (a:Nat->Nat) (s:Nat->Int) (i:Nat):Prop:=∀v,v<n->E<a v+i->s v=0
def CI (n:Nat) (a:Nat->Nat) (s b:Nat->Int):Prop:=∀v,v<n->(b v=b 0->s v=0->∀w,w<n->w≠0->a w=v->s w=0∧b w=b 0)∧(b v≠b 0->s v=0∧∀w,w<n->w≠0->a w=v->b w≠b 0)
section
variable {n E:Nat} {par dp:Nat->Nat} {m:Nat->Prop} {s b s' b':Nat->Int} (hT:RT n E par dp) (hW:WS n par m s b s' b')
theorem WS.cases (hW:WS n par m s b s' b') {v:Nat} (d:v<n):(s' v=s v∧b' v=b v)∨(m v∧La par s b v∧s' v=s (par v)∧b' v=b (par v))∨(m v∧¬La par s b v∧SQ n par s b v∧s' v=0∧b' v=b v)∨(m v∧v=0∧s 0=0∧s' 0≠0∧b' 0≠b 0):=by
 by_cases a:m v
 ·by_cases c:La par s b v
  ·exact .inr (.inl ⟨a,c,hW.take v d a c⟩)
  ·by_cases e:SQ n par s b v
   ·exact .inr (.inr (.inl ⟨a,c,e,hW.fin v d a c e⟩))
   ·rcases hW.oth v d a c e with h|h
    ·exact .inl h
    ·exact .inr (.inr (.inr ⟨a,h⟩))
 ·exact .inl (hW.stay v d a)
theorem WS.rest (hW:WS n par m s b s' b') {v:Nat} (e:v<n) (c:v≠0) (a:s v=0) (d:b v=b (par v)):s' v=s v∧b' v=b v:=by
 rcases hW.cases e with h|⟨_,h,_⟩|⟨_,_,h,_⟩|⟨_,h,_⟩
 ·exact h
 ·rcases h.2 with q|q
  ·exact absurd d.symm q
  ·exact absurd a q.1
 ·exact absurd a h.1
 ·exact absurd h c
theorem Se {v:Nat} (c:v≠0) (h:¬gd par s b v):La par s b v:=by
 refine⟨c,?_⟩
 by_cases a:b (par v)=b v
 ·refine .inr ⟨λq=>h (.inr ⟨q,a.symm⟩),Decidable.not_not.1 λq=>h (.inl q)⟩
 ·exact .inl a
 include hT hW
theorem IX {v:Nat} (i:v<n) (g:v≠0) (x:par v=0∨gd par s b (par v)) (h:gd par s b v∨m v):gd par s' b' v:=by
 obtain⟨o,_⟩:=hT.up v i g;rcases hW.cases o with⟨d,k⟩|⟨_,t,d,_⟩|⟨_,_,w,d,k⟩|⟨_,u,_,d,_⟩
 ·unfold gd;rw[d,k];by_cases l:s (par v)=0
  ·right;have j:gd par s b v->s' v=0∧b' v=b (par v):=λh=>by
    rcases h with q|⟨a,c⟩
    ·exact absurd l q
    ·obtain⟨e,f⟩:=hW.rest i g a c;rw[e,f];exact⟨a,c⟩
   rcases h with h|h
   ·exact j h
   ·by_cases p:gd par s b v
    ·exact j p
    ·obtain⟨e,f⟩:=hW.take v i h (Se g p);rw[e,f];exact⟨l,rfl⟩
  ·exact .inl l
 ·left;rw[d];rcases x with q|q|⟨a,c⟩
  ·exact absurd q t.1
  ·exact q
  ·rcases t.2 with r|r
   ·exact absurd c.symm r
   ·exact absurd a r.1
 ·obtain⟨a,c⟩:=w.2 v i g Z;obtain⟨e,f⟩:=hW.rest i g a c;exact .inr ⟨by rw[e,a],by rw[f,k,c]⟩
 ·left;rw[u];exact d
theorem Be (h:AG n par s b):AG n par s' b':=λv c a=>by
 refine IX hT hW c a ?_ (.inl (h v c a));by_cases e:par v=0
 ·exact .inl e
 ·exact .inr (h _ (hT.up v c a).1 e)
 omit hW
theorem acx (h:AG n par s b) (g:s 0=0):Qt n s b:=by
 have c:∀k v,v<n->dp v=k->s v=0∧b v=b 0:=by
  intro k
  induction k with
  |zero=>
   intro v a i;by_cases e:v=0
   ·subst e;exact⟨g,rfl⟩
   ·have:=(hT.up v a e).2;omega
  |succ k o=>
   intro v a i;have e:v≠0:=λe=>by subst e;have:=hT.d0;omega
   obtain⟨l,j⟩:=hT.up v a e;obtain⟨d,f⟩:=o _ l (by omega);rcases h v a e with q|⟨p,r⟩
   ·exact absurd d q
   ·exact⟨p,by rw[r,f]⟩
 exact λv a=>c _ v a Z
 omit hT in
theorem Qt.ag (h:Qt n s b) (hT:RT n E par dp):AG n par s b:=λv a c=> .inr ⟨(h v a).1,by rw[(h v a).2,(h _ (hT.up v a c).1).2]⟩
 include hW
theorem Md (h:AG n par s b) (d:s 0≠0):(s' 0=s 0∧b' 0=b 0)∨(m 0∧SQ n par s b 0∧s' 0=0∧b' 0=b 0∧Qt n s' b'):=by
 rcases hW.cases hT.n1 with e|⟨_,e,_⟩|⟨g,_,f,a,c⟩|⟨_,_,e,_⟩
 ·exact .inl e
 ·exact absurd Z e.1
 ·exact .inr ⟨g,f,a,c,acx hT (Be hT hW h) a⟩
 ·exact absurd e d
theorem Pm {j:Nat} (h:Ws n dp b j) (f:b' 0=b 0):Ws n dp b' j:=λv c d=>by
 rw[f];rcases hW.cases c with e|⟨_,g,_,e⟩|⟨_,_,_,_,e⟩|⟨_,e,_⟩
 ·rw[e.2];exact h v c d
 ·rw[e];obtain⟨a,i⟩:=hT.up v c g.1;exact h _ a (by omega)
 ·rw[e];exact h v c d
 ·rw[e,f]
theorem Yl {j v:Nat} (h:Ws n dp b j) (k:b' 0=b 0) (f:v<n) (r:dp v<=j+1):(b v≠b 0->La par s b v)∧(b' v≠b' 0->b v≠b 0∧¬m v):=by
 have g:b v≠b 0->La par s b v:=λd=>by
  have e:v≠0:=λe=>d (by rw[e]);obtain⟨a,o⟩:=hT.up v f e;exact⟨e,.inl λq=>d (by rw[<-q];exact h _ a (by omega))⟩
 refine⟨g,λd=> ?_⟩
 rw[k]at d;have l:La par s b v->b (par v)=b 0:=λi=>by
  obtain⟨a,o⟩:=hT.up v f i.1;exact h _ a (by omega)
 have c:b v≠b 0:=λq=>d (by
  rcases hW.cases f with e|⟨_,i,_,e⟩|⟨_,_,_,_,e⟩|⟨_,e,_⟩
  ·rw[e.2,q]
  ·rw[e,l i]
  ·rw[e,q]
  ·rw[e,k])
 exact⟨c,λp=>d (by rw[(hW.take v f p (g c)).2,l (g c)])⟩
theorem Yp {i:Nat} (f:Ws n dp b E) (h:UL n E dp s i) (g:s 0≠0):UL n E dp s' i:=λv c j=>by
 have d:=h v c j;have e:v≠0:=λe=>g (by rw[<-e];exact d);obtain⟨a,_⟩:=hT.up v c e;rw[(hW.rest c e d (by rw[f v c (hT.le v c),f _ a (hT.le _ a)])).1,d]
theorem Yo {i v:Nat} (t:AG n par s b) (u:Ws n dp b E) (h:UL n E dp s i) (d:v<n) (y:E<dp v+(i+1)):(s v≠0->SQ n par s b v)∧(s 0≠0->s' v≠0->s v≠0∧¬m v):=by
 have c:∀w,w<n->b w=b 0:=λw f=>u w f (hT.le w f);have o:s v≠0->SQ n par s b v:=λj=>⟨j,λw f l e=>by
  obtain⟨_,p⟩:=hT.up w f l;rw[e]at p;exact⟨h w f (by omega),by rw[c w f,c v d]⟩⟩
 refine⟨o,λl j=> ?_⟩
 have g:s v≠0:=λq=>j (by
  have e:v≠0:=λe=>l (by rw[<-e];exact q);obtain⟨a,_⟩:=hT.up v d e;rw[(hW.rest d e q (by rw[c v d,c _ a])).1,q])
 refine⟨g,λx=>j ?_⟩
 by_cases k:La par s b v
 ·obtain⟨a,_⟩:=hT.up v d k.1;rcases k.2 with q|q
  ·exact absurd (by rw[c v d,c _ a]) q
  ·rcases t v d k.1 with r|r
   ·exact absurd q.2 r
   ·exact absurd r.1 q.1
 ·exact(hW.fin v d x k (o g)).1
theorem aaT (I:AG n par s b) (h:CI n par s b) (G:b' 0=b 0):CI n par s' b':=λv j=>by
 rw[G]
 -- a child of a finished node stays as it is
 have y:∀w,w<n->w≠0->∀x,par w=x->b x=b 0->s w=0->b w=b 0->s' w=0∧b' w=b 0:=λw f d x e C D t=>by
  obtain⟨o,p⟩:=hW.rest f d D (by rw[e,t,C]);rw[o,p];exact⟨D,t⟩
 have k:∀w,w<n->w≠0->b (par w)≠b 0->b w≠b 0->b' w≠b 0:=λw f d C t=>by
  rcases hW.cases f with e|⟨_,_,_,e⟩|⟨_,_,_,_,e⟩|⟨_,e,_⟩
  ·rw[e.2];exact t
  ·rw[e];exact C
  ·rw[e];exact t
  ·exact absurd e d
 rcases hW.cases j with⟨l,i⟩|⟨_,u,l,i⟩|⟨_,_,F,l,i⟩|⟨_,e,J,l,i⟩
 ·refine⟨λc z w f d e=> ?_,λc=>⟨?_,λw f d e=> ?_⟩⟩
  ·rw[l]at z;rw[i]at c;obtain⟨o,p⟩:=(h v j).1 c z w f d e;exact y w f d v e c o p
  ·rw[l];rw[i]at c;exact((h v j).2 c).1
  ·rw[i]at c;exact k w f d (by rw[e];exact c) (((h v j).2 c).2 w f d e)
 ·obtain⟨H,_⟩:=hT.up v j u.1;have A:b (par v)≠b v:=u.2.resolve_right λq=>by
   rcases I v j u.1 with r|r
   ·exact r q.2
   ·exact q.1 r.1
  by_cases g:b (par v)=b 0
  ·have B:s (par v)≠0:=λq=>A (by rw[((h _ H).1 g q v j u.1 Z).2,g]);exact⟨λ_ z=>absurd (by rw[<-l];exact z) B,λc=>absurd (by rw[i];exact g) c⟩
  ·obtain⟨o,p⟩:=(h _ H).2 g;refine⟨λc=>absurd (by rw[<-i];exact c) g,λ_=>⟨by rw[l];exact o,λw f d e=> ?_⟩⟩
   have c:=p v j u.1 Z;exact k w f d (by rw[e];exact c) (((h v j).2 c).2 w f d e)
 ·have c:b v=b 0:=Decidable.not_not.1 λq=>F.1 ((h v j).2 q).1;refine⟨λ_ _ w f d e=> ?_,λq=>absurd (by rw[i];exact c) q⟩
  obtain⟨o,p⟩:=F.2 w f d e;exact y w f d v e c o (by rw[p,c])
 ·exact absurd G i
 omit hW
theorem aaS (h:CI n par s b) (o:SQ n par s b 0):∀v,v<n->v≠0->s v=0∧b v=b 0:=by
 have d:∀k v,v<n->v≠0->dp v=k->s v=0∧b v=b 0:=by
  intro k
  induction k with
  |zero=>intro v c a j;have:=(hT.up v c a).2;omega
  | succ k ih =>
   intro v c a j;obtain⟨f,l⟩:=hT.up v c a;by_cases e:par v=0
   ·exact o.2 v c a e
   ·obtain⟨g,i⟩:=ih _ f e (by omega);exact(h _ f).1 i g v c a Z
 exact λv c a=>d _ v c a Z
 include hW
theorem Xm (h:Qt n s b) (k:s' 0≠0) (i:b' 0≠b 0):CI n par s' b'∧Ws n dp b' 0∧AG n par s' b':=by
 have j:∀v,v<n->v≠0->s' v=0∧b' v=b 0:=λv c d=>by
  obtain⟨a,_⟩:=hT.up v c d;obtain⟨f,g⟩:=hW.rest c d (h v c).1 (by rw[(h v c).2,(h _ a).2]);rw[f,g];exact h v c
 refine⟨λv c=> ?_,λv c o=> ?_,Be hT hW (h.ag hT)⟩
 ·by_cases e:v=0
  ·subst e;exact⟨λ_ q=>absurd q k,λq=>absurd Z q⟩
  ·obtain⟨f,g⟩:=j v c e;refine⟨λq=>absurd (by rw[<-q,g]) i,λ_=>⟨f,λw l d _ q=>i ?_⟩⟩
   rw[<-q,(j w l d).2]
 ·by_cases e:v=0
  ·rw[e]
  ·have:=(hT.up v c e).2;omega
theorem abK (h:Qt n s b) (f:s' 0=s 0) (d:b' 0=b 0):Qt n s' b':=λv c=>by
 by_cases e:v=0
 ·subst e;exact⟨by rw[f];exact(h 0 c).1,rfl⟩
 ·obtain⟨a,_⟩:=hT.up v c e;obtain⟨g,i⟩:=hW.rest c e (h v c).1 (by rw[(h v c).2,(h _ a).2]);rw[g,i,d];exact h v c
end
end Go.Proofs.YtlkhndebimcbbaaGreatDoor
namespace Go.Proofs.YtlkhndebimcbbaaGreatDoor
open Go Go.Sx
structure TP (g:GR) (d:aO) (par fp:Nat->Nat):Prop where
 at_:∀v,v<g.2.length->v≠0->fp v<(row g v).length∧o_ g d v (fp v:Int)∧(fK (row g v) (fp v)).1=(par v:Int)∧par v<g.2.length∧D d (par v)=D d v - 1
def Gi (g:GR) (d:aO) (c:bE):Prop:=∀v,v<g.2.length->EC c v=D d v∧o_ g d v (GG c v)
def sC (c:bE) (v:Nat):Int:=oF c v 2
def bC (c:bE) (v:Nat):Int:=oF c v 3
section
variable {g:GR} {d:List Int} {c:List (List Int)} (hV:VG g) (hD:oL g 0 d) (h0:∀v,v<g.2.length->0<=D d v)
 include hV
theorem Cb {v i u:Nat} (f:v<g.2.length) (a:i<(row g v).length) (b:(fK (row g v) i).1=(u:Int)):AB (row g v) (u:Int)=(i:Int):=
 Ik i a b λk e=>by
  have:=((hV.node v f).links i a).2.2.2 k e;rwa[b]at this
 include hD h0
theorem ahk:∃x y:Nat->Nat,TP g d x y:=by
 have n:∀v,∃u f:Nat,v<g.2.length->v≠0->f<(row g v).length∧o_ g d v (f:Int)∧(fK (row g v) f).1=(u:Int)∧u<g.2.length∧D d u=D d v - 1:=λv=>by
  by_cases j:v<g.2.length∧v≠0
  ·obtain⟨j,l⟩:=j;have o:0<D d v:=by
    have:=h0 v j;have A:D d v≠0:=λe=>l ((hD.zero v j).1 e);omega
   obtain⟨G,C,⟨E,t,r⟩,s⟩:=hD.near v j o;obtain⟨m,F,h,w⟩:=Gy (p:=λi=>i<(row g v).length∧at' d (fK (row g v) i).1=D d v - 1) E ⟨t,by rw[r];exact s⟩;obtain⟨u,B,q,_⟩:=hV.port j h.1;refine⟨u,m,λ_ _=>⟨h.1,.inl ⟨m,h.1,rfl,h.2,λk z e=>w k z ⟨by omega,e⟩⟩,q,B,?_⟩⟩
   have:=h.2;rw[q]at this;exact this
  ·exact⟨0,0,λa b=>absurd ⟨a,b⟩ j⟩
 refine⟨λv=>(n v).choose,λv=>(n v).choose_spec.choose,⟨λv j l=>(n v).choose_spec.choose_spec j l⟩⟩
 omit hV hD h0 in
theorem Ml {k:Nat} (h:ZH g d k c) (b:∀v,v<g.2.length->D d v<(k:Int)):Gi g d c:=λv a=>h.near v a (b v a)
theorem NR (h:Gi g d c) {v:Nat} (e:v<g.2.length):FL g c v:=by
 obtain⟨a,b⟩:=ahg hV hD h0 (λu f=>(h u f).1) e;exact⟨by rw[a];exact(h v e).1,(h v e).2.uniq b⟩
 omit h0 in
theorem VC (h0:∀v,v<g.2.length->0<=D d v) (h:∀v,v<g.2.length->0<=EC c v) (i:∀v,v<g.2.length->FL g c v):Gi g d c:=by
  have f:=hV.n24;have a:∀k:Nat,ZH g d k c:=by
   intro k
   induction k with
   |zero=>exact HT h0 h
   |succ k e=>exact Qk e λv b=>Uu hV hD h0 e b (i v b.1)
  exact Ml (a (g.2.length+1)) λv j=>by have:=hD.hi v j;omega
 omit h0 in
theorem PK (h0:∀v,v<g.2.length->0<=D d v) (h:Gi g d c):GG c 0 = -1:=by
  have k:=hV.n1;rcases(h 0 (by omega)).2 with⟨i,e,_,a,_⟩|⟨a,_⟩
  ·obtain⟨u,f,b,_⟩:=hV.port (v:=0) (by omega) e;rw[b]at a;have j:D d u=D d 0 - 1:=a;have:=(hD.zero 0 (by omega)).2 Z;have:=h0 u f;omega
  ·exact a
variable {par fp:Nat->Nat} (hP:TP g d par fp)
 include hP
theorem YQ {E:Nat} (h:∀v,v<g.2.length->D d v<=(E:Int)):RT g.2.length E par (λv=>(D d v).toNat):=by
 have i:=hV.n1;refine⟨by omega,?_,λv e f=> ?_,λv e=> ?_⟩
 ·rw[(hD.zero 0 (by omega)).2 Z];rfl
 ·obtain⟨_,_,_,a,b⟩:=hP.at_ v e f;have:=h0 _ a;exact⟨a,by rw[b];omega⟩
 ·have:=h v e;omega
 omit hV hD h0 in
theorem HL (h:Gi g d c) {v:Nat} (b:v<g.2.length) (a:v≠0):GG c v=(fp v:Int):=(h v b).2.uniq (hP.at_ v b a).2.1
theorem Np (h:Gi g d c) {v i u:Nat} (r:v<g.2.length) (t:i<(row g v).length) (n:(fK (row g v) i).1=(u:Int)):NW g c v i 1=Dh g v i↔u≠0∧par u=v:=by
 obtain⟨w,j,p,l⟩:=hV.port r t;obtain rfl:u=w:=by omega
 obtain⟨k,o,m⟩:=hV.back r l;have s:Dh g v i=(k:Int):=by
  unfold Dh;rw[n,Int.toNat_natCast];exact Cb hV j o m
 rw[zJ n,s,show oF c u 1=GG c u from rfl];constructor
 ·intro e;have f:u≠0:=λq=>by
   subst q;rw[PK hV hD h0 h]at e;omega
  rw[HL hP h j f]at e;have:fp u=k:=by omega
  subst this;have:=(hP.at_ u j f).2.2.1;exact⟨f,by omega⟩
 ·rintro⟨f,e⟩;rw[HL hP h j f];obtain⟨a,_,b,_⟩:=hP.at_ u j f;rw[e]at b;have x:=Cb hV j a b;have y:=Cb hV j o m;omega
 omit hV hD h0 in
theorem Ze (h:Gi g d c) {v:Nat} (f:v<g.2.length):(v≠0∧∃i:Nat,i<(row g v).length∧(i:Int)=oF c v 1∧(NW g c v i 3≠oF c v 3∨(oF c v 2≠0∧NW g c v i 2=0)))↔La par (sC c) (bC c) v:=by
  constructor
  ·rintro⟨e,i,k,l,j⟩;have:oF c v 1=(fp v:Int):=HL hP h f e;obtain rfl:i=fp v:=by omega
   have b:=(hP.at_ v f e).2.2.1;rw[zJ b,zJ b]at j;exact⟨e,j⟩
  ·rintro⟨e,j⟩;obtain⟨a,_,b,_⟩:=hP.at_ v f e;refine⟨e,fp v,a,(HL hP h f e).symm,?_⟩
   rw[zJ b,zJ b];exact j
theorem abe (h:Gi g d c) {v:Nat} (o:v<g.2.length):(oF c v 2≠0∧∀i:Nat,i<(row g v).length->NW g c v i 1≠Dh g v i∨(NW g c v i 2=0∧NW g c v i 3=oF c v 3))↔SQ g.2.length par (sC c) (bC c) v:=by
 constructor
 ·rintro⟨n,p⟩;refine⟨n,λw r m e=> ?_⟩
  obtain⟨a,_,f,_⟩:=hP.at_ w r m;rw[e]at f;obtain⟨i,l,j⟩:=hV.back r ⟨fp w,a,f⟩;have s:=(Np hV hD h0 hP h o l j).2 ⟨m,e⟩;have:=(p i l).resolve_left λq=>q s;rw[zJ j,zJ j]at this;exact this
 ·rintro⟨n,p⟩;refine⟨n,λi l=> ?_⟩
  obtain⟨u,t,k,_⟩:=hV.port o l;by_cases q:NW g c v i 1=Dh g v i
  ·obtain⟨a,b⟩:=(Np hV hD h0 hP h o l k).1 q;refine .inr ?_;rw[zJ k,zJ k];exact p u t a b
  ·exact .inl q
 omit hV hD h0 in
theorem Qa (h:Gi g d c) {v:Nat} (q:v<g.2.length) (l:v≠0) (p:sF) (x:Nat) (s:oF c (par v) x=0∨oF c (par v) x=1):fS (aQ p g) c v (.ag 21 (.bi 41 Pe (.lf 12 x)))=oF c (par v) x:=by
  obtain⟨a,_,f,_⟩:=hP.at_ v q l;have r:oF c v 1=(fp v:Int):=HL hP h q l;have j:∀b:Bool,(b=true↔oF c (par v) x≠0)->As b=oF c (par v) x:=λb j=>by
   rcases s with e|e
   ·rw[e]at j ⊢;have:b=false:=by cases b with|true=>exact absurd Z (j.1 Z)|false=>rfl
    rw[this];rfl
   ·rw[e]at j ⊢;rw[j.2 (by decide)];rfl
  have m:fS (aQ p g) c v (.ag 21 (.bi 41 Pe (.lf 12 x)))≠0↔oF c (par v) x≠0:=by
   unfold fS;rw[OW];constructor
   ·rintro⟨i,t,k⟩;unfold Pe at k;rw[Ct,JM]at k;have e:(i:Int)=oF c v 1:=k.1;obtain rfl:i=fp v:=by omega
    have o:NW g c v (fp v) x≠0:=k.2;rw[zJ f]at o;exact o
   ·intro k;refine⟨fp v,a,?_⟩
    unfold Pe;rw[Ct,JM];refine⟨r.symm,?_⟩
    show NW g c v (fp v) x≠0;rw[zJ f];exact k
  have n:∃b:Bool,fS (aQ p g) c v (.ag 21 (.bi 41 Pe (.lf 12 x)))=As b:=⟨_,rfl⟩
  obtain⟨b,e⟩:=n;rw[e];rw[e,tM]at m;exact j b m
end
def RW:List RL:=[(agK,[(2,.lf 2 0),(3,.un 19 (.lf 5 3)),(4,.lf 1 0),(5,.lf 3 0)]),
 (XV,[(2,.ag 21 (.bi 41 Pe (.lf 12 2))),(3,.ag 21 (.bi 41 Pe (.lf 12 3))),(4,.lf 1 0),(5,.lf 3 0)]),(XX,[(2,.lf 3 0)]),(agL,[(5,.lf 2 0)])]
theorem ajU {l:aO} (h:l.length=6):l=[at' l 0,at' l 1,at' l 2,at' l 3,at' l 4,at' l 5]:=by
 match l,h with
 | [a,b,c,d,e,f],_=>rfl
theorem DK {k a b x:Int} (h:a<=x∧x<=b):mG k (a,b) x=x:=BR h.1 h.2
section
variable {p:sF} {g:GR} {c:List (List Int)} {v t:Nat}
variable {d:List Int} (hV:VG g) (hD:oL g 0 d) (h0:∀v,v<g.2.length->0<=D d v) {par fp:Nat->Nat} (hP:TP g d par fp)
 include hV hD h0 hP
end
def aee:E:= .bi 41 (.lf 10 0) (.un 19 (.lf 5 2))
def exS:E:= .ag 26 (.ite (.bi 35 (.lf 12 1) (.lf 17 0)) (.lf 12 5) (.lf 1 0))
def exA:E:= .bi 33 (.lf 5 4) exS
def KW:List De:=[(ByteArray.mk #[115],2,0,0,0,0),(ByteArray.mk #[98],2,0,0,0,0),(ByteArray.mk #[120],1,0,15,0,0),(ByteArray.mk #[97],1,0,0,15,0)]
def fR:List De:=sD++KW
def RX:List RL:=[(aee,[(2,.lf 2 0),(3,.un 19 (.lf 5 3))]),(XV,[(2,.ag 21 (.bi 41 Pe (.lf 12 2))),(3,.ag 21 (.bi 41 Pe (.lf 12 3)))]),(XX,[(2,.lf 3 0),(5,exA)])]
def RN:List RL:=RB++RX
theorem abQ:xU 6 RN=true:=by decide +kernel
theorem aga:∀r∈RX,∀s∈r.2,2<=s.1:=by decide
section
variable {p:sF} {g:GR} {c:List (List Int)} {v t:Nat}
theorem PS (a:Du g c fR) (b:v<g.2.length):(oF c v 2=0∨oF c v 2=1)∧(oF c v 3=0∨oF c v 3=1)∧(0<=oF c v 4∧oF c v 4<=15)∧(0<=oF c v 5∧oF c v 5<=15*(g.2.length:Int)):=by
 have i:=a.ok v b 2 (by decide);have j:=a.ok v b 3 (by decide);have k:=a.ok v b 4 (by decide);have l:=a.ok v b 5 (by decide);have m:0<=oF c v 2∧oF c v 2<=1:=i;have n:0<=oF c v 3∧oF c v 3<=1:=j;have d:0<=oF c v 4∧oF c v 4<=hi g (at' fR ((4:Nat):Int)) v:=k;have f:hi g (at' fR ((4:Nat):Int)) v=15:=by
  show(15:Int)+0*(g.2.length:Int)+0*jR g g.1.length=15;omega
 rw[f]at d;have e:0<=oF c v 5∧oF c v 5<=hi g (at' fR ((5:Nat):Int)) v:=l;have h:hi g (at' fR ((5:Nat):Int)) v=15*(g.2.length:Int):=by
  show(0:Int)+15*(g.2.length:Int)+0*jR g g.1.length=_;omega
 rw[h]at e;omega
theorem agx (g:GR) (v:Nat):pH g fR v 2=(0,1)∧pH g fR v 3=(0,1)∧pH g fR v 5=(0,15*(g.2.length:Int)):=by
 refine⟨rfl,rfl,?_⟩
 show((0:Int),(0:Int)+15*(g.2.length:Int)+0*jR g g.1.length)=_;congr 1;omega
theorem agZ (n:Du g c fR) (o:v<g.2.length):
  lT (aQ p g) fR RX c v 0=[oF c v 0,oF c v 1,1,As (decide (oF c v 3=0)),oF c v 4,oF c v 5]∧
  (∀s b,fS (aQ p g) c v (.ag 21 (.bi 41 Pe (.lf 12 2)))=s->fS (aQ p g) c v (.ag 21 (.bi 41 Pe (.lf 12 3)))=b->0<=s∧s<=1->0<=b∧b<=1->lT (aQ p g) fR RX c v 1=[oF c v 0,oF c v 1,s,b,oF c v 4,oF c v 5])∧
  lT (aQ p g) fR RX c v 2=[oF c v 0,oF c v 1,0,oF c v 3,oF c v 4,mG 1 (0,15*(g.2.length:Int)) (fS (aQ p g) c v exA)]:=by
 have a:(at' c (v:Int)).length=6:=n.row v o;have e:=ajU a;obtain⟨d,f,h⟩:=agx g v;have q:lT (aQ p g) fR RX c v 0=((at' c (v:Int)).set 2 (mG 2 (pH g fR v 2) 1)).set 3 (mG 2 (pH g fR v 3) (As (decide (oF c v 3=0)))):=rfl;have r:lT (aQ p g) fR RX c v 1=((at' c (v:Int)).set 2 (mG 2 (pH g fR v 2) (fS (aQ p g) c v (.ag 21 (.bi 41 Pe (.lf 12 2)))))).set 3 (mG 2 (pH g fR v 3) (fS (aQ p g) c v (.ag 21 (.bi 41 Pe (.lf 12 3))))):=rfl;have u:lT (aQ p g) fR RX c v 2=((at' c (v:Int)).set 2 (mG 2 (pH g fR v 2) 0)).set 5 (mG 1 (pH g fR v 5) (fS (aQ p g) c v exA)):=rfl;have m:∀b:Bool,0<=As b∧As b<=1:=λb=>by cases b<;>decide
 refine⟨?_,λs b i j k l=> ?_,?_⟩
 ·rw[q,d,f,DK (by omega),DK (m _),e];rfl
 ·rw[r,d,f,i,j,DK k,DK l,e];rfl
 ·rw[u,d,h,DK (by omega)];generalize mG 1 (0,15*(g.2.length:Int)) (fS (aQ p g) c v exA)=z;rw[e];rfl
theorem XU:fS (aQ p g) c v aee≠0↔v=0∧oF c v 2=0:=by
 unfold fS aee;rw[Ct,IS,aeI];exact Iff.rfl
variable {d:List Int} (hV:VG g) (hD:oL g 0 d) (h0:∀v,v<g.2.length->0<=D d v) {par fp:Nat->Nat} (hP:TP g d par fp)
 include hV hD h0 hP
theorem enN (w:Gi g d c) (m:v<g.2.length):(0<=dL (aQ p g) RX c v↔(v=0∧oF c v 2=0)∨La par (sC c) (bC c) v∨SQ g.2.length par (sC c) (bC c) v)∧
  ((v=0∧oF c v 2=0)->dL (aQ p g) RX c v=0)∧(La par (sC c) (bC c) v->dL (aQ p g) RX c v=1)∧(¬La par (sC c) (bC c) v->SQ g.2.length par (sC c) (bC c) v->dL (aQ p g) RX c v=2):=by
 have b:=XU (p:=p) (g:=g) (c:=c) (v:=v);have f:=(XW (p:=p) (g:=g) (c:=c) (v:=v)).trans (Ze hP w m);have u:=(XY (p:=p) (g:=g) (c:=c) m).trans (abe hV hD h0 hP w m);have n:∀{e:E},¬fS (aQ p g) c v e≠0->fS (aQ p g) c v e=0:=λh=>Decidable.not_not.1 h;have o:(v=0∧oF c v 2=0)->dL (aQ p g) RX c v=0:=λh=>Ec (i:=0) (by decide) (b.2 h) λj l=>by omega
 have r:La par (sC c) (bC c) v->dL (aQ p g) RX c v=1:=λh=>Ec (i:=1) (by decide) (f.2 h) λj l=>by
  obtain rfl:j=0:=by omega
  exact n λq=>h.1 (b.1 q).1
 have s:¬La par (sC c) (bC c) v->SQ g.2.length par (sC c) (bC c) v->dL (aQ p g) RX c v=2:=λa h=>Ec (i:=2) (by decide) (u.2 h) λj l=>by
  match j,l with
  |0,_=>exact n λq=>h.1 (b.1 q).2
  |1,_=>exact n λq=>a (f.1 q)
 refine⟨⟨λh=> ?_,λh=> ?_⟩,o,r,s⟩
 ·obtain⟨i,x,k,a⟩:=(Ed (aQ p g) RX c v).resolve_left (λe=>by omega);have k:i<3:=k
  match i,k with
  |0,_=>exact .inl (b.1 a)
  |1,_=>exact .inr (.inl (f.1 a))
  |2,_=>exact .inr (.inr (u.1 a))
 ·by_cases a:La par (sC c) (bC c) v
  ·rw[r a];decide
  ·rcases h with h|h|h
   ·rw[o h];decide
   ·exact absurd h a
   ·rw[s a h];decide
end
theorem Up:∀(l:List Int) (a b:Int),0<=a->b<=1000000->(∀x∈l,0<=x)->a+l.sum<=b->l.foldl (λa x=>wI .i64 (a+x)) a=a+l.sum
 | [],a,b,_,_,_,_=>by simp
 | x :: l, a, b, ha, hb, c, hs => by
  have f:=c x List.mem_cons_self;have e:0<=l.sum:=by
   have:∀l:List Int,(∀x∈l,0<=x)->0<=l.sum:=λl=>by
    induction l with
    |nil=>intro _;simp
    |cons y l g=>intro h;have:=g λx c=>h x (List.mem_cons_of_mem _ c);have:=h y List.mem_cons_self;rw[List.sum_cons];omega
   exact this l λy d=>c y (List.mem_cons_of_mem _ d)
  rw[List.sum_cons]at hs ⊢;rw[List.foldl_cons,wr (by omega) (by omega),Up l (a+x) b (by omega) hb (λy d=>c y (List.mem_cons_of_mem _ d)) (by omega)];omega
def Iw (g:GR) (a:Nat->Nat) (f:Nat->Int) (v:Nat):Int:=((List.range (row g v).length).map λi=>if(fK (row g v) i).1.toNat≠0∧a (fK (row g v) i).1.toNat=v then f (fK (row g v) i).1.toNat else 0).sum
section
variable {p:sF} {g:GR} {c:List (List Int)} {v:Nat} {d:List Int} (hV:VG g) (hD:oL g 0 d) (h0:∀v,v<g.2.length->0<=D d v) {par fp:Nat->Nat} (hP:TP g d par fp)
 include hV hD h0 hP
theorem aec (m:Du g c fR) (w:Gi g d c) (j:v<g.2.length) (z:oF c v 4+Iw g par (λu=>oF c u 5) v<=15*(g.2.length:Int)):mG 1 (0,15*(g.2.length:Int)) (fS (aQ p g) c v exA)=oF c v 4+Iw g par (λu=>oF c u 5) v:=by
 have t:=hV.n24;let L:List Int:=(List.range (row g v).length).map λi=>if(fK (row g v) i).1.toNat≠0∧par (fK (row g v) i).1.toNat=v then oF c (fK (row g v) i).1.toNat 5 else 0;have k:L.sum=Iw g par (λu=>oF c u 5) v:=rfl;have e:∀x∈L,0<=x:=λx e=>by
  obtain⟨i,b,rfl⟩:=List.mem_map.1 e;obtain⟨u,s,a,_⟩:=hV.port j (List.mem_range.1 b);rw[a,Int.toNat_natCast];split
  ·exact(PS m s).2.2.2.1
  ·omega
 have G:=(PS m j).2.2.1;have C:fS (aQ p g) c v exS=max (-1073741824) (min (Qb L) 1073741824):=by
  show max (-1073741824) (min (Qb ((List.range (row g v).length).map λi=>(E.ite (.bi 35 (.lf 12 1) (.lf 17 0)) (.lf 12 5) (.lf 1 0)).den (TR (aQ p g,c,(v:Int),[])) (row g v).length ((i:Nat):Int))) 1073741824)=_;congr 3;refine List.map_congr_left λi b=> ?_;have b:=List.mem_range.1 b;obtain⟨u,s,a,_⟩:=hV.port j b;show(if(E.bi 35 (.lf 12 1) (.lf 17 0)).den (TR (aQ p g,c,(v:Int),[])) (row g v).length ((i:Nat):Int)≠0 then NW g c v i 5 else 0)=_;have o:=Np hV hD h0 hP w j b a;have n:(E.bi 35 (.lf 12 1) (.lf 17 0)).den (TR (aQ p g,c,(v:Int),[])) (row g v).length ((i:Nat):Int)≠0↔NW g c v i 1=Dh g v i:=by
   rw[JM,Rk j b];exact Iff.rfl
  rw[a,Int.toNat_natCast];by_cases q:u≠0∧par u=v
  ·rw[if_pos q,if_pos (n.2 (o.2 q)),zJ a]
  ·rw[if_neg q,if_neg λr=>q (o.1 (n.1 r))]
 have B:0<=L.sum:=by
  have:∀l:List Int,(∀x∈l,0<=x)->0<=l.sum:=λl=>by
   induction l with
   |nil=>intro _;simp
   |cons y l F=>intro h;have:=F λx e=>h x (List.mem_cons_of_mem _ e);have:=h y List.mem_cons_self;rw[List.sum_cons];omega
  exact this L e
 have f:Qb L=L.sum:=by
  unfold Qb;rw[Up L 0 1000000 (by omega) (by omega) e (by rw[k]at *;omega)];omega
 have A:fS (aQ p g) c v exA=oF c v 4+L.sum:=by
  show Ul (wI .i64 (oF c v 4+fS (aQ p g) c v exS))=_;rw[C,f,wr (by omega) (by omega)];unfold Ul;omega
 rw[A,k];exact BR (by rw[<-k];omega) z
end
structure Stg {I C:Type} (idx:I->Nat) (last:Nat) (Ph:I->C->Prop) (T:I->C->Nat->Prop) (en:C->Nat) (St:C->Nat->C->Prop):Prop where
 le:∀i c,Ph i c->idx i<=last
 adv:∀i c,Ph i c->idx i<last->(∀v,¬T i c v)->∃i',idx i<idx i'∧Ph i' c
 en:∀i c v,Ph i c->T i c v->(en c).testBit v=true
 step:∀i c t c',Ph i c->St c t c'->∃i',Ph i' c'∧(idx i<idx i'∨(i'=i∧∀v,T i c' v->T i c v∧t.testBit v=false))
def Ap {I C:Type} (a:I->Nat) (b:Nat) (d:I->C->Prop) (T:I->C->Nat->Prop) (R e:Nat) (c:C):Prop:=∃i,d i c∧(a i=b∨R<a i∨(R=a i∧∀v,T i c v->e.testBit v=true))
section
variable {I C:Type} {idx:I->Nat} {last:Nat} {Ph:I->C->Prop} {T:I->C->Nat->Prop} {en:C->Nat} {St:C->Nat->C->Prop} {c c':C} {R pe pe' t:Nat}
theorem Ap.start (h:Stg idx last Ph T en St) {i:I} (a:Ph i c):Ap idx last Ph T 0 (en c) c:=by
 refine⟨i,a,?_⟩
 rcases Nat.eq_zero_or_pos (idx i)with e|e
 ·exact .inr (.inr ⟨e.symm,λv b=>h.en i c v a b⟩)
 ·exact .inr (.inl e)
theorem Ap.next (h:Stg idx last Ph T en St) (n:Ap idx last Ph T R pe c) (q:St c t c') (g:∀v,pe'.testBit v=(pe.testBit v && !t.testBit v&&(en c').testBit v)):Ap idx last Ph T R pe' c':=by
 obtain⟨i,l,j⟩:=n;obtain⟨r,d,f⟩:=h.step i c t c' l q;refine⟨r,d,?_⟩
 have p:=h.le _ _ d;have k:=h.le _ _ l;rcases f with f|⟨rfl,f⟩
 ·rcases j with e|e|⟨e,_⟩
  ·omega
  ·exact .inr (.inl (by omega))
  ·exact .inr (.inl (by omega))
 ·rcases j with e|e|⟨e,o⟩
  ·exact .inl e
  ·exact .inr (.inl e)
  ·refine .inr (.inr ⟨e,λv m=> ?_⟩);obtain⟨a,b⟩:=f v m;rw[g,o v a,b,h.en _ _ v d m];rfl
theorem Ap.round (h:Stg idx last Ph T en St) (g:Ap idx last Ph T R 0 c):Ap idx last Ph T (R+1) (en c) c:=by
 obtain⟨i,a,k⟩:=g;rcases k with e|e|⟨e,j⟩
 ·exact⟨i,a,.inl e⟩
 ·refine⟨i,a,?_⟩
  by_cases q:R+1=idx i
  ·exact .inr (.inr ⟨q,λv b=>h.en i c v a b⟩)
  ·exact .inr (.inl (by omega))
 ·by_cases q:idx i=last
  ·exact⟨i,a,.inl q⟩
  ·have l:=h.le _ _ a;obtain⟨d,m,f⟩:=h.adv i c a (by omega) λv b=>by have:=j v b;rw[Nat.zero_testBit]at this;cases this
   refine⟨d,f,?_⟩
   by_cases q:R+1=idx d
   ·exact .inr (.inr ⟨q,λv b=>h.en d c v f b⟩)
   ·exact .inr (.inl (by omega))
theorem Ap.done (h:Stg idx last Ph T en St) (b:Ap idx last Ph T R pe c) (d:last<=R):∃i,Ph i c∧idx i=last:=by
 obtain⟨i,a,e⟩:=b;have:=h.le _ _ a;exact⟨i,a,by omega⟩
theorem Ju (h:Stg idx last Ph T en St) (s:Ap idx last Ph T R pe c) (w:St c t c') {k:Nat} {f b:CT} {B:Nat} (u:Da k f R B pe) (v:k<900) (x:t<16777216) (r:t≠0) (n:en c'<16777216) {m:Int} (g:fX 1000 f (t:Int) (en c':Int)=some (b,m)):
  ∃l q pe',Da (k+1) b l q pe'∧Ap idx last Ph T l pe' c'∧(t=pe->l=R+1∧pe'=en c'):=by
 obtain⟨pe',j,d⟩:=u.add v x r n g;have p:=Ap.next h s w j;rcases d with⟨o,a⟩|⟨o,a⟩
 ·subst o;exact⟨R+1,R+1,_,a,Ap.round h p,λ_=>⟨rfl,rfl⟩⟩
 ·refine⟨R,R+1,pe',a,p,λe=>absurd (Nat.eq_of_testBit_eq λi=> ?_) o⟩
  rw[j,<-e,Nat.zero_testBit];cases t.testBit i<;>rfl
end
end Go.Proofs.YtlkhndebimcbbaaGreatDoor
namespace Go.Proofs.YtlkhndebimcbbaaGreatDoor
open Go.Sx
def qI  (a:Bool):Option (Bool):=
 some (a)
def wM (U:Nat) (a:Int):Option (Bool):=
 if(1:Int)<=a then(qI  (decide (a<=(4:Int))))else(qI  (false))
theorem adx:aU Tryz.prog 75:=Tryz.call75
theorem KF (U:Nat) {b:Int} (r:Bool) (h:wM U b=some r):
  aY Tryz.prog 75 #[vI (b)] [] (λx:Unit=>vB (r)) (λx l=>l) (λ_ l=>l):=by
 refine aY.of Tryz.func75 Z Tryz.ntmps75 Z λc=>?_;refine aW<|aE Z<|aM<|aK<|eS (λa=>qI  a=some r) (λa d=>[(2,vB (a))]) (λa d=>[]) ?_ ?_
 ·refine aS<|aA Z<|aB (E_ Z Z) Z<|aA Z ?_;refine FG h Z (λ_ h=>?_) λ_ h=>?_
  ·refine eR Z<|aX Z (Df Z Z) Z<|fM Z<|aE Z<|aM ?_;exact jG (decide (b<=(4:Int))) () h SF Z
  refine aP Z<|aP Z<|iI Z<|aE Z<|aM ?_;exact jG (false) () h SF Z
 intro a d h;unfold qI at h;refine aV ?_;cases h;exact lP Z
def yT (U:Nat) (a:BH) (b:cG) (d:Int) (e:bE) (f:Int):Option (Int):=
 Option.bind (rV U ((a.1,a.2.1,a.2.2)) ((b.1,b.2)) e) λc=>(if c≠(0:Int)then(some (c))else(Option.bind (wM U d) λg=>(if(!g)=true then(some (12:Int))else(if(4096:Int)<f then(some (3:Int))else(some (0:Int))))))
theorem ado:aU Tryz.prog 46:=Tryz.call46
theorem Qh (U:Nat) {a:BH} {g:cG} {j:Int} {k:bE} {m:Int} (b:Value)  (d:Value)  (e:Value)  (f:Value)  (n:lJ)  (i:Value)  (o:qF) (r:Int) (h:yT U a g j k m=some r):
  aY Tryz.prog 46 #[Value.agg #[vS (a.1),b,d],Value.agg #[e,f],vI (j),i,vI (m)] [Sl aR b a.2.1,Sl aJ d a.2.2,PF (Value.agg #[vS a.1,b,d]),Sl bO e g.1,S2 bA f n g.2,S2 bO i o k] (λx:Unit=>vI (r)) (λx l=>l) (λ_ l=>l):=by
 refine aY.of Tryz.func46 Z Tryz.ntmps46 Z λc=>?_;refine aW<|aH (aN.box (cs:=[vS (a.1),b,d]) Z Z) Z λu=>aH (aN.box (cs:=[e,f]) Z Z) Z λv=>aE Z<|aM<|aK<|aW<|eQ 1 Z<|eQ 0 Z<|aA Z<|fU h λp s h=>aH (aN.callQ adr (KI U b d e f n i o p s) Z (oO [0,1,2,3,4,5] Z)) Z λw=>aE Z<|aM<|aW<|aA Z<|qO Z<|aM ?_;refine fJ h Z (λh=>?_) λh=>?_
 ·refine aW<|aA Z<|aE Z<|aM<|aV<|aI ?_;cases h;exact vN Z
 refine cU<|aK<|aW<|aA Z<|fU h λq t h=>aH (aN.callQ adx (KF U  q t) Z .nil) Z λy=>aB (tK Z) Z<|aM ?_;refine BM h Z (λ_ h=>?_) λ_ h=>?_
 ·refine aW<|aE Z<|aM<|aV<|aI ?_;cases h;exact vN Z
 refine cU<|aK<|aW<|aA Z<|aB (yP Z Z) Z<|aM ?_;refine fJ h Z (λh=>?_) λh=>?_
 ·refine aW<|aE Z<|aM<|aV<|aI ?_;cases h;exact vN Z
 refine cU<|aW<|aE Z<|aM<|aV ?_;cases h;exact vN Z
def uI (U:Nat) (a:Int):Option ((Int×Int×Int×Int×Int)):=
 some (((0:Int),(0:Int),(0:Int),(0:Int),(dM .u32 a (16777215:Int))))
theorem aam:aU Tryz.prog 109:=Tryz.call109
theorem Iy (U:Nat) {a:Int} (r:(Int×Int×Int×Int×Int)) (h:uI U a=some r):
  aY Tryz.prog 109 #[vU (a)] [] (λx:Unit=>Value.agg #[vI (r.1),vI (r.2.1),vI (r.2.2.1),vI (r.2.2.2.1),vU (r.2.2.2.2)]) (λx l=>l) (λ_ l=>l):=by
 refine aY.of Tryz.func109 Z Tryz.ntmps109 Z λc=>?_;unfold uI at h;refine aW<|aH (aN.alloc (cs:=vD2) Z Z) Z λb=>aM<|aW<|aA Z<|zQ Z ?_;refine aB (WG (r:=Value.agg #[vI (0:Int),vI (0:Int),vI (0:Int),vI (0:Int),vU (dM .u32 a (16777215:Int))]) Z (by intro w;simp[Instr.build,Instr.fill,eX,dY,dH,eY,eZ,dZ,gK])) Z ?_;refine bT 0 (vs:=[vI (0:Int),vI (0:Int),vI (0:Int),vI (0:Int),vU (dM .u32 a (16777215:Int))]) Z Z Z Z Z Z<|aM<|aV ?_;cases h;exact hZ () Z Z (RV.cell 0 Z Z Z Z) .nil aG.nil
end Go.Proofs.YtlkhndebimcbbaaGreatDoor
namespace Go.Proofs.YtlkhndebimcbbaaGreatDoor
open Go Go.Sx
def eO (g:GR):Nat:=2^g.2.length - 1
theorem aad {g:GR} (b:VG g):eO g<4294967296:=by
 have a:=b.n24;have:(2:Nat)^g.2.length<=2^24:=Nat.pow_le_pow_right (by omega) a;unfold eO;omega
section
variable {p:sF} {g:GR} {R:List RL}
end
def aC (c:bE) (v:Nat):Int:=oF c v 5
def xC (c:bE) (v:Nat):Int:=oF c v 4
structure DC (g:GR) (par:Nat->Nat) (x S:Nat->Int):Prop where
 eq:∀v,v<g.2.length->S v=x v+Iw g par S v
 bd:∀v,v<g.2.length->S v<=15*(g.2.length:Int)
def MvN (n:Nat) (a:Nat->Nat) (S:Nat->Int) (c b:bE) (v:Nat):Prop:=
 (v=0∧sC c 0=0∧sC b v≠0∧bC b v≠bC c v∧aC b v=aC c v)∨
 (La a (sC c) (bC c) v∧sC b v=sC c (a v)∧bC b v=bC c (a v)∧aC b v=aC c v)∨
 (¬La a (sC c) (bC c) v∧SQ n a (sC c) (bC c) v∧sC b v=0∧bC b v=bC c v∧((∀w,w<n->w≠0->a w=v->aC c w=S w)->aC b v=S v))
structure StN (n:Nat) (par:Nat->Nat) (S:Nat->Int) (c:bE) (t:Nat) (c':bE):Prop where
 stay:∀v,v<n->t.testBit v=false->sC c' v=sC c v∧bC c' v=bC c v∧aC c' v=aC c v
 move:∀v,v<n->t.testBit v=true->MvN n par S c c' v
def CN (n:Nat) (a:Nat->Nat) (S:Nat->Int) (c:bE):Prop:=CI n a (sC c) (bC c)∧∀v,v<n->bC c v=bC c 0->sC c v=0->aC c v=S v
section
variable {n E:Nat} {par dp:Nat->Nat} {S:Nat->Int} {c c':List (List Int)} {t:Nat}
theorem StN.ws (h:StN n par S c t c'):WS n par (λv=>t.testBit v=true) (sC c) (bC c) (sC c') (bC c'):=by
 refine⟨λv f d=> ?_,λv f d g=> ?_,λv f d g i=> ?_,λv f d g i=> ?_⟩
 ·obtain⟨a,b,_⟩:=h.stay v f (by simpa using d);exact⟨a,b⟩
 ·rcases h.move v f d with q|q|q
  ·exact absurd q.1 g.1
  ·exact⟨q.2.1,q.2.2.1⟩
  ·exact absurd g q.1
 ·rcases h.move v f d with q|q|q
  ·have:=q.2.1;rw[<-q.1]at this;exact absurd this i.1
  ·exact absurd q.1 g
  ·exact⟨q.2.2.1,q.2.2.2.1⟩
 ·rcases h.move v f d with q|q|q
  ·obtain⟨rfl,a,b,e,_⟩:=q;exact .inr ⟨rfl,a,b,e⟩
  ·exact absurd q.1 g
  ·exact absurd q.2.1 i
theorem StN.right (h:StN n par S c t c') (b:∀v,v<n->aC c v=S v):∀v,v<n->aC c' v=S v:=λv a=>by
 cases d:t.testBit v with
 |false=>rw[(h.stay v a d).2.2];exact b v a
 |true=>
  rcases h.move v a d with q|q|q
  ·rw[q.2.2.2.2];exact b v a
  ·rw[q.2.2.2];exact b v a
  ·exact q.2.2.2.2 λw e _ _=>b w e
variable (hT:RT n E par dp) (h:StN n par S c t c')
 include hT h
theorem Tx (x:AG n par (sC c) (bC c)) (z:sC c 0≠0) (i:CN n par S c) (p:bC c' 0=bC c 0):CN n par S c':=by
 have y:=h.ws;refine⟨aaT hT y x i.1 p,λv g f d=> ?_⟩
 rw[p]at f;cases s:t.testBit v with
 |false=>
  obtain⟨a,b,e⟩:=h.stay v g s;rw[a]at d;rw[b]at f;rw[e];exact i.2 v g f d
 | true =>
  rcases h.move v g s with q|q|q
  ·exact absurd q.2.1 z
  ·obtain⟨k,l,B,_⟩:=q;rw[l]at d;rw[B]at f;obtain⟨A,_⟩:=hT.up v g k.1;obtain⟨m,o⟩:=(i.1 _ A).1 f d v g k.1 Z;rcases k.2 with r|r
   ·exact absurd (by rw[f,o]) r
   ·exact absurd m r.1
  ·obtain⟨_,l,_,C,D⟩:=q;rw[C]at f;refine D λw u j e=> ?_;obtain⟨m,o⟩:=l.2 w u j e;exact i.2 w u (by rw[o,f]) m
theorem Tw (i:CN n par S c) (j:SQ n par (sC c) (bC c) 0) (l:t.testBit 0=true):∀v,v<n->aC c' v=S v:=by
 have d:=aaS hT i.1 j;have b:∀v,v<n->v≠0->aC c v=S v:=λv a g=>i.2 v a (d v a g).2 (d v a g).1;intro v a;by_cases e:v=0
 ·subst e;rcases h.move 0 a l with q|q|q
  ·exact absurd q.2.1 j.1
  ·exact absurd Z q.1.1
  ·exact q.2.2.2.2 λw m f _=>b w m f
 ·cases k:t.testBit v with
  |false=>rw[(h.stay v a k).2.2];exact b v a e
  |true=>
   rcases h.move v a k with q|q|q
   ·exact absurd q.1 e
   ·rw[q.2.2.2];exact b v a e
   ·exact absurd (d v a e).1 q.2.1.1
theorem abJ (d:Qt n (sC c) (bC c)):(sC c' 0≠0∧bC c' 0≠bC c 0∧CN n par S c'∧Ws n dp (bC c') 0∧AG n par (sC c') (bC c'))∨(Qt n (sC c') (bC c')∧t.testBit 0=false):=by
 have i:=h.ws;have j:=hT.n1;cases o:t.testBit 0 with
 |false=>
  right;obtain⟨a,b,_⟩:=h.stay 0 j o;exact⟨abK hT i d a b,rfl⟩
 | true =>
  left;rcases h.move 0 j o with q|q|q
  ·obtain⟨_,_,k,l,_⟩:=q;obtain⟨a,b,e⟩:=Xm hT i d k l;refine⟨k,l,⟨a,λv f m p=> ?_⟩,b,e⟩
   by_cases g:v=0
   ·subst g;exact absurd p k
   ·obtain⟨a,_⟩:=hT.up v f g;have:=(i.rest f g (d v f).1 (by rw[(d v f).2,(d _ a).2])).2;rw[this,(d v f).2]at m;exact absurd m.symm l
  ·exact absurd Z q.1.1
  ·exact absurd (d 0 j).1 q.2.1.1
end
theorem aeO {p:sF} {g:GR} {d:List Int} {c:List (List Int)} {a P:Nat->Nat} {S:Nat->Int} {t:Nat} (r:VG g) (z:oL g 0 d) (y:∀v,v<g.2.length->0<=D d v) (j:TP g d a P) (m:Du g c fR) (l:Gi g d c) (G:DC g a (xC c) S)
  (A:∀v,t.testBit v=true->v<g.2.length∧0<=dL (aQ p g) RN c v):StN g.2.length a S c t (g_ (aQ p g) fR RN c t):=by
 have n:=m.len;refine⟨λv b s=> ?_,λv b s=> ?_⟩
 ·have e:at' (g_ (aQ p g) fR RN c t) (v:Int)=at' c (v:Int):=by rw[yV (by rw[n];exact b),if_neg (by rw[s];decide)]
  unfold sC bC aC oF;rw[e];exact⟨rfl,rfl,rfl⟩
 ·obtain⟨_,T⟩:=A v s;obtain⟨B,N⟩:=Pu (p:=p) (W:=KW) (R':=RX) (NR r z y l b) T;have e:at' (g_ (aQ p g) fR RN c t) (v:Int)=lT (aQ p g) fR RX c v (dL (aQ p g) RX c v):=by
   rw[yV (by rw[n];exact b),if_pos s];exact N
  obtain⟨O,K,L,M⟩:=enN (p:=p) r z y j l b;obtain⟨V,X,Y⟩:=agZ (p:=p) m b;have o:sC (g_ (aQ p g) fR RN c t) v=at' (lT (aQ p g) fR RX c v (dL (aQ p g) RX c v)) 2∧bC (g_ (aQ p g) fR RN c t) v=at' (lT (aQ p g) fR RX c v (dL (aQ p g) RX c v)) 3∧aC (g_ (aQ p g) fR RN c t) v=at' (lT (aQ p g) fR RX c v (dL (aQ p g) RX c v)) 5:=by
   unfold sC bC aC oF;rw[e];exact⟨rfl,rfl,rfl⟩
  unfold MvN;rw[o.1,o.2.1,o.2.2];by_cases w:v=0∧oF c v 2=0
  ·left;rw[K w,V];obtain⟨rfl,q2⟩:=w;refine⟨rfl,q2,show(1:Int)≠0 by decide,?_,rfl⟩
   show As (decide (oF c 0 3=0))≠oF c 0 3;rcases(PS m b).2.1 with q|q<;>rw[q]<;>decide
  ·right;by_cases f:La a (sC c) (bC c) v
   ·left;obtain⟨C,_⟩:=(j.at_ v b f.1).2.2.2;obtain⟨I,J,_⟩:=PS m C;have k:∀x:Nat,oF c (a v) (x:Int)=0∨oF c (a v) (x:Int)=1->0<=oF c (a v) (x:Int)∧oF c (a v) (x:Int)<=1:=λx h=>by omega
    rw[L f,X _ _ (Qa j l b f.1 p 2 I) (Qa j l b f.1 p 3 J) (k 2 I) (k 3 J)];exact⟨f,rfl,rfl,rfl⟩
   ·right;have F:=(O.1 B).resolve_left w |>.resolve_left f;rw[M f F,Y];refine⟨f,F,rfl,rfl,λU=> ?_⟩
    show mG 1 (0,15*(g.2.length:Int)) (fS (aQ p g) c v exA)=S v;have H:Iw g a (λu=>oF c u 5) v=Iw g a S v:=by
     unfold Iw;congr 1;refine List.map_congr_left λi o=> ?_;obtain⟨u,C,E,_⟩:=r.port b (List.mem_range.1 o);rw[E,Int.toNat_natCast];by_cases q:u≠0∧a u=v
     ·rw[if_pos q,if_pos q];exact U u C q.1 q.2
     ·rw[if_neg q,if_neg q]
    have R:=G.eq v b;have Q:=G.bd v b;have hx:xC c v=oF c v 4:=rfl;rw[aec r z y j m l b (by rw[H];omega),H,R];rfl
inductive SN where
 |tree (k:Nat)
 |good (k:Nat)
 |lev (cl:Bool) (k:Nat)
 |low (cl:Bool) (k:Nat)
 |rest
 |done
def BX (E:Nat):SN->Nat
 | .tree k=>k
 | .good k=>E+1+k
 | .lev false k=>2*E+1+k
 | .low false k=>3*E+1+k
 | .rest=>4*E+2
 | .lev true k=>4*E+3+k
 | .low true k=>5*E+3+k
 | .done=>6*E+4
def GdN (n:Nat) (a c:Nat->Nat) (s b:Nat->Int) (k:Nat):Prop:=∀v,v<n->v≠0->c v<=k->gd a s b v
section
variable (g:GR) (d:List Int) (E:Nat) (par dp:Nat->Nat) (S:Nat->Int)
def UM (i:SN) (c:List (List Int)):Prop:=Du g c fR∧DC g par (xC c) S∧match i with
 | .tree k=>k<=E∧ZH g d k c
 | .good k=>k<E∧Gi g d c∧GdN g.2.length par dp (sC c) (bC c) k
 | .lev cl k=>k<E∧Gi g d c∧AG g.2.length par (sC c) (bC c)∧sC c 0≠0∧Ws g.2.length dp (bC c) k∧(cl=true->CN g.2.length par S c)
 | .low cl k=>k<=E∧Gi g d c∧AG g.2.length par (sC c) (bC c)∧sC c 0≠0∧Ws g.2.length dp (bC c) E∧UL g.2.length E dp (sC c) k∧(cl=true->CN g.2.length par S c)
 | .rest=>Gi g d c∧Qt g.2.length (sC c) (bC c)
 | .done=>Gi g d c∧AG g.2.length par (sC c) (bC c)∧∀v,v<g.2.length->aC c v=S v
def TsN (i:SN) (c:List (List Int)) (v:Nat):Prop:=match i with
 | .tree k=>TrT g d k c v
 | .good k=>v<g.2.length∧v≠0∧dp v<=k+1∧¬gd par (sC c) (bC c) v
 | .lev _ k=>v<g.2.length∧dp v<=k+1∧bC c v≠bC c 0
 | .low _ k=>v<g.2.length∧E<dp v+(k+1)∧sC c v≠0
 | .rest=>v=0
 | .done=>False
end
section
variable {g:GR} {d:List Int} {E:Nat} {par dp:Nat->Nat} {S:Nat->Int} {c c':List (List Int)} {t:Nat} (hT:RT g.2.length E par dp)
 include hT
theorem aet {s:Nat->Int}:UL g.2.length E dp s 0:=λv a b=>by have:=hT.le v a;omega
theorem Kc {cl:Bool} {k:Nat} (m:Du g c fR) (l:DC g par (xC c) S) (n:k<=E) (a:Gi g d c) (b:AG g.2.length par (sC c) (bC c)) (f:sC c 0≠0) (h:Ws g.2.length dp (bC c) k) (j:cl=true->CN g.2.length par S c):∃i,BX E (.lev cl k)<=BX E i∧UM g d E par dp S i c:=by
 by_cases e:k<E
 ·exact⟨.lev cl k,Nat.le_refl _,m,l,e,a,b,f,h,j⟩
 ·obtain rfl:k=E:=by omega
  refine⟨.low cl 0,?_,m,l,Nat.zero_le _,a,b,f,h,aet hT,j⟩
  cases cl<;>(simp only[BX];omega)
theorem Pf {k:Nat} (l:Du g c fR) (j:DC g par (xC c) S) (w:k<=E) (h:Gi g d c) (n:GdN g.2.length par dp (sC c) (bC c) k):∃i,E+1+k<=BX E i∧UM g d E par dp S i c:=by
 by_cases e:k<E
 ·exact⟨.good k,Nat.le_refl _,l,j,e,h,n⟩
 ·have o:AG g.2.length par (sC c) (bC c):=λv f r=>n v f r (by have:=hT.le v f;omega);by_cases p:sC c 0=0
  ·exact⟨.rest,by simp only[BX];omega,l,j,h,acx hT o p⟩
  ·have s:Ws g.2.length dp (bC c) 0:=λv f u=>by
    by_cases m:v=0
    ·rw[m]
    ·have:=(hT.up v f m).2;omega
   obtain⟨i,a,b⟩:=Kc (cl:=false) hT l j (Nat.zero_le _) h o p s (λq=>by cases q);exact⟨i,by simp only[BX]at a ⊢;omega,b⟩
theorem ajI:GdN g.2.length par dp (sC c) (bC c) 0:=λv b a e=>by have:=(hT.up v b a).2;omega
 omit hT in
theorem aeC {i:SN} (h:UM g d E par dp S i c):BX E i<=6*E+4:=by
  obtain⟨_,_,h⟩:=h
  match i,h with
  | .tree k,h=>have:=h.1;simp only[BX];omega
  | .good k,h=>have:=h.1;simp only[BX];omega
  | .lev false k,h=>have:=h.1;simp only[BX];omega
  | .lev true k,h=>have:=h.1;simp only[BX];omega
  | .low false k,h=>have:=h.1;simp only[BX];omega
  | .low true k,h=>have:=h.1;simp only[BX];omega
  | .rest,h=>simp only[BX];omega
  | .done,h=>exact Nat.le_refl _
theorem abF (s:∀v,v<g.2.length->D d v<=(E:Int)) {i:SN} (h:UM g d E par dp S i c) (u:BX E i<6*E+4) (f:∀v,¬TsN g d E par dp i c v):∃p,BX E i<BX E p∧UM g d E par dp S p c:=by
 obtain⟨n,m,h⟩:=h
 match i,h,f with
 | .tree k, ⟨hk, h⟩, f =>
  have l:=Qk h f;by_cases e:k<E
  ·exact⟨.tree (k+1),by simp only[BX];omega,n,m,e,l⟩
  ·obtain⟨i,a,b⟩:=Pf (k:=0) hT n m (Nat.zero_le _) (Ml l λv j=>by have:=s v j;omega) (ajI hT);exact⟨i,by simp only[BX]at a ⊢;omega,b⟩
 | .good k,⟨hk,h1,h2⟩,f=>
  obtain⟨i,a,b⟩:=Pf (k:=k+1) hT n m hk h1 (λv j r o=>Classical.not_not.1 λq=>f v ⟨j,r,o,q⟩);exact⟨i,by simp only[BX]at a ⊢;omega,b⟩
 | .lev cl k,⟨hk,h1,h2,h3,h4,h5⟩,f=>
  obtain⟨i,a,b⟩:=Kc (k:=k+1) hT n m hk h1 h2 h3 (λv j o=>Decidable.not_not.1 λq=>f v ⟨j,o,q⟩) h5;refine⟨i,?_,b⟩
  cases cl<;>(simp only[BX]at a ⊢;omega)
 | .low cl k, ⟨hk, h1, h2, h3, h4, h5, h6⟩, f =>
  have l:UL g.2.length E dp (sC c) (k+1):=λv j o=>Decidable.not_not.1 λq=>f v ⟨j,o,q⟩;by_cases e:k<E
  ·refine⟨.low cl (k+1),?_,n,m,e,h1,h2,h3,h4,l,h6⟩
   cases cl<;>(simp only[BX];omega)
  ·exact absurd (l 0 hT.n1 (by have:=hT.d0;omega)) h3
 | .rest,_,f=>exact absurd Z (f 0)
 | .done,_,_=>simp only[BX]at u;omega
end
structure StK (g:GR) (d:List Int) (par:Nat->Nat) (c:List (List Int)) (t:Nat) (c':List (List Int)):Prop where
 tr:TrS g c t c'
 rc:Du g c' fR
 x:∀v,v<g.2.length->xC c' v=xC c v
 ws:Gi g d c->∀S,DC g par (xC c) S->Gi g d c'∧StN g.2.length par S c t c'
section
variable {g:GR} {d:List Int} {E:Nat} {par dp:Nat->Nat} {S:Nat->Int} {c c':List (List Int)} {t:Nat} (hV:VG g) (hD:oL g 0 d) (h0:∀v,v<g.2.length->0<=D d v) (hT:RT g.2.length E par dp) (hs:StK g d par c t c')
 include hV hD h0 hT hs
theorem YI {i:SN} (h:UM g d E par dp S i c):∃F,UM g d E par dp S F c'∧(BX E i<BX E F∨(F=i∧∀v,TsN g d E par dp i c' v->TsN g d E par dp i c v∧t.testBit v=false)):=by
 obtain⟨M,u,h⟩:=h;have m:=hs.rc;have l:DC g par (xC c') S:=⟨λv n=>by rw[hs.x v n];exact u.eq v n,u.bd⟩
 have G:∀{v:Nat},¬(t.testBit v=true)->t.testBit v=false:=λh=>by simpa using h
 match i,h with
 | .tree k,⟨hk,h⟩=>
  obtain⟨a,b⟩:=Zg hV hD h0 h hs.tr;exact⟨.tree k,⟨m,l,hk,a⟩,.inr ⟨rfl,b⟩⟩
 | .good k, ⟨hk, h1, h2⟩ =>
  obtain⟨f,j⟩:=hs.ws h1 S u;have p:=j.ws;have H:∀v,v<g.2.length->v≠0->dp v<=k+1->par v=0∨gd par (sC c) (bC c) (par v):=λv n o r=>by
   obtain⟨a,b⟩:=hT.up v n o;by_cases e:par v=0
   ·exact .inl e
   ·exact .inr (h2 _ a e (by omega))
  refine⟨.good k,⟨m,l,hk,f,λv n o r=>IX hT p n o (H v n o (by omega)) (.inl (h2 v n o r))⟩,.inr ⟨rfl,λv ⟨n,o,r,y⟩=> ?_⟩⟩
  exact⟨⟨n,o,r,λq=>y (IX hT p n o (H v n o r) (.inl q))⟩,G λq=>y (IX hT p n o (H v n o r) (.inr q))⟩
 | .lev cl k, ⟨hk, h1, h2, h3, h4, h5⟩ =>
  obtain⟨f,j⟩:=hs.ws h1 S u;have p:=j.ws;rcases Md hT p h2 h3 with⟨z,s⟩|⟨C,B,z,s,A⟩
  ·refine⟨.lev cl k,⟨m,l,hk,f,Be hT p h2,by rw[z];exact h3,Pm hT p h4 s,λq=>Tx hT j h2 h3 (h5 q) s⟩,.inr ⟨rfl,λv ⟨n,r,y⟩=> ?_⟩⟩
   obtain⟨a,b⟩:=(Yl hT p h4 s n r).2 y;exact⟨⟨n,r,a⟩,G b⟩
  ·cases cl with
   |false=>exact⟨.rest,⟨m,l,f,A⟩,.inl (by simp only[BX];omega)⟩
   |true=>exact⟨.done,⟨m,l,f,Be hT p h2,Tw hT j (h5 Z) B C⟩,.inl (by simp only[BX];omega)⟩
 | .low cl k, ⟨hk, h1, h2, h3, h4, h5, h6⟩ =>
  obtain⟨f,j⟩:=hs.ws h1 S u;have p:=j.ws;rcases Md hT p h2 h3 with⟨z,s⟩|⟨C,B,z,s,A⟩
  ·refine⟨.low cl k,⟨m,l,hk,f,Be hT p h2,by rw[z];exact h3,Pm hT p h4 s,Yp hT p h4 h5 h3,λq=>Tx hT j h2 h3 (h6 q) s⟩,.inr ⟨rfl,λv ⟨n,r,y⟩=> ?_⟩⟩
   obtain⟨a,b⟩:=(Yo hT p h2 h4 h5 n r).2 h3 y;exact⟨⟨n,r,a⟩,G b⟩
  ·cases cl with
   |false=>exact⟨.rest,⟨m,l,f,A⟩,.inl (by simp only[BX];omega)⟩
   |true=>exact⟨.done,⟨m,l,f,Be hT p h2,Tw hT j (h6 Z) B C⟩,.inl (by simp only[BX];omega)⟩
 | .rest, ⟨h1, h2⟩ =>
  obtain⟨f,j⟩:=hs.ws h1 S u;rcases abJ hT j h2 with⟨I,N,J,K,L⟩|⟨A,w⟩
  ·obtain⟨i,a,b⟩:=Kc (cl:=true) hT m l (Nat.zero_le _) f L I K (λ_=>J);exact⟨i,b,.inl (by simp only[BX]at a ⊢;omega)⟩
  ·exact⟨.rest,⟨m,l,f,A⟩,.inr ⟨rfl,λv n=>⟨n,by rw[show v=0 from n];exact w⟩⟩⟩
 | .done,⟨h1,h2,h3⟩=>
  obtain⟨f,j⟩:=hs.ws h1 S u;exact⟨.done,⟨m,l,f,Be hT j.ws h2,j.right h3⟩,.inr ⟨rfl,λv q=>q.elim⟩⟩
end
theorem Su {p:sF} {g:GR} {d:List Int} {c:List (List Int)} {i u:Nat->Nat} {t:Nat} (m:VG g) (q:oL g 0 d) (o:∀v,v<g.2.length->0<=D d v) (w:TP g d i u) (y:tB g fR) (k:Du g c fR)
  (h:∀v,t.testBit v=true->v<g.2.length∧0<=dL (aQ p g) RN c v):StK g d i c t (g_ (aQ p g) fR RN c t):=by
 have l:=aeS (p:=p) (W:=KW) (R':=RX) (t:=t) m k aga h;have n:=k.len;refine⟨l,Mi (S:=aQ p g) y k,λv e=>Sv (x:=4) (by decide) (by rw[n];exact e),λj S f=>⟨λv e=> ?_,aeO m q o w k j f h⟩⟩
 have s:=NR m q o j e;cases r:t.testBit v with
 |false=>obtain⟨a,b⟩:=l.stay v e r;rw[show g_ (aQ p g) fR RN c t=g_ (aQ p g) (sD++KW) (RB++RX) c t from rfl,a,b];exact j v e
 |true=>obtain⟨a,b⟩:=l.move v e r;rw[show g_ (aQ p g) fR RN c t=g_ (aQ p g) (sD++KW) (RB++RX) c t from rfl,a,b,<-s.1,<-s.2];exact j v e
theorem Us:∀(l:oC) (f h:Nat->Int),(l.map λi=>f i+h i).sum=(l.map f).sum+(l.map h).sum
 | [],f,h=>by simp
 |x::l,f,h=>by rw[List.map_cons,List.map_cons,List.map_cons,List.sum_cons,List.sum_cons,List.sum_cons,Us l f h];omega
theorem GU:∀(l:oC) (f:Nat->Int),(∀i∈l,f i=0)->(l.map f).sum=0
 | [],f,_=>by simp
 |x::l,f,h=>by rw[List.map_cons,List.sum_cons,h x List.mem_cons_self,GU l f λi a=>h i (List.mem_cons_of_mem _ a)];rfl
theorem Ut:∀(m:Nat) (f:Nat->Int) (i:Nat),i<m->(∀j,j<m->j≠i->f j=0)->((List.range m).map f).sum=f i
 |0,f,i,h,_=>by omega
 | m + 1, f, i, h, hz => by
  rw[List.range_succ,List.map_append,List.sum_append,List.map_singleton];have b:([f m]:aO).sum=f m:=by simp
  rw[b];by_cases e:i=m
  ·subst e;rw[GU _ f λj a=>hz j (by have:=List.mem_range.1 a;omega) (by have:=List.mem_range.1 a;omega)];omega
  ·rw[Ut m f i (by omega) λj a c=>hz j (by omega) c,hz m (by omega) (λq=>e q.symm)];omega
section
variable {g:GR} {d:List Int} {par fp:Nat->Nat} {P:Nat->Int} {c:List (List Int)} (hV:VG g) (hD:oL g 0 d) (h0:∀v,v<g.2.length->0<=D d v) (hT:TP g d par fp) (hP:ZG g d P) (hPp:∀v,v<g.2.length->v≠0->P v=(par v:Int))
theorem Ku {f:Nat} {v:Nat}:onP P (f+1) (v:Int) v=true:=by
 simp only[onP];rw[if_neg (by omega)];simp
 include hP hPp hT
theorem Ua:∀(f w v:Nat),w<g.2.length->onP P f (w:Int) v=true->w≠v->∃u,u<g.2.length∧u≠0∧par u=v∧onP P f (w:Int) u=true
 |0,w,v,_,h,_=>by cases h
 | f + 1, w, v, hw, h, hne => by
  simp only[onP]at h;rw[if_neg (by omega),Bool.or_eq_true,decide_eq_true_eq]at h;rcases h with h|h
  ·exact absurd (by omega) hne
  ·rw[show Int.toNat (w:Int)=w from rfl]at h;by_cases e:w=0
   ·subst e;rw[hP.root,GC (by omega)]at h;cases h
   ·rw[hPp w hw e]at h;obtain⟨_,_,_,a,_⟩:=hT.at_ w hw e;by_cases q:par w=v
    ·exact⟨w,hw,e,q,Ku⟩
    ·obtain⟨u,b,i,j,k⟩:=Ua f (par w) v a h q;refine⟨u,b,i,j,?_⟩
     simp only[onP];rw[if_neg (by omega),show Int.toNat (w:Int)=w from rfl,hPp w hw e,k,Bool.or_true]
theorem YF:∀(f w u:Nat),w<g.2.length->u<g.2.length->u≠0->onP P f (w:Int) u=true->onP P (f+1) (w:Int) (par u)=true
 |0,w,u,_,_,_,h=>by cases h
 | f + 1, w, u, hw, hu, hu0, h => by
  have a:=h;simp only[onP]at a;rw[if_neg (by omega),Bool.or_eq_true,decide_eq_true_eq]at a;rw[show onP P (f+1+1) (w:Int) (par u)=if(w:Int)<0 then false else decide ((w:Int)=((par u:Nat):Int))||onP P (f+1) (P (Int.toNat (w:Int))) (par u)from rfl,if_neg (by omega),show Int.toNat (w:Int)=w from rfl];rcases a with a|a
  ·have:w=u:=by omega
   subst this;rw[hPp w hu hu0,Ku,Bool.or_true]
  ·rw[show Int.toNat (w:Int)=w from rfl]at a;by_cases e:w=0
   ·subst e;rw[hP.root,GC (by omega)]at a;cases a
   ·rw[hPp w hw e]at a ⊢;obtain⟨_,_,_,b,_⟩:=hT.at_ w hw e;rw[YF f (par w) u b hu hu0 a,Bool.or_true]
theorem PE (m:∀v,v<g.2.length->0<=D d v):∀(f l w u k:Nat),w<g.2.length->onP P f (w:Int) u=true->onP P l (w:Int) k=true->D d u=D d k->u=k
 |0,_,w,_,_,_,h,_,_=>by cases h
 |f+1,0,w,_,_,_,_,h,_=>by cases h
 | f + 1, l + 1, w, u, k, hw, h, i, hd => by
  simp only[onP]at h i;rw[if_neg (by omega),Bool.or_eq_true,decide_eq_true_eq,show Int.toNat (w:Int)=w from rfl]at h i;by_cases e:w=0
  ·subst e;rw[hP.root,GC (by omega)]at h i;have a:=h.resolve_right (by decide);have b:=i.resolve_right (by decide);omega
  ·obtain⟨_,_,_,j,n⟩:=hT.at_ w hw e;rw[hPp w hw e]at h i;rcases h with h|h
   ·rcases i with i|i
    ·omega
    ·have:=Kt hP l (par w) k j i;have:u=w:=by omega
     subst this;omega
   ·rcases i with i|i
    ·have:=Kt hP f (par w) u j h;have:k=w:=by omega
     subst this;omega
    ·exact PE m f l (par w) u k j h i hd
 include hV hD h0
theorem Mj {v:Nat} (z:v<g.2.length):∀k,k<=g.2.length->wV P g.2.length c v k=(if v<k then FY c v else 0)+Iw g par (λu=>wV P g.2.length c u k) v
 |0,_=>by
  unfold Iw;simp only[wV];rw[GU _ _ λi _=>by split<;>rfl,if_neg (by omega)];rfl
 | k + 1, hk => by
  have O:=hV.n24;have b:k<g.2.length:=hk;have V:=Mj z k (by omega);have U:=(hD.zero 0 (by omega)).2 Z;have Q:=h0 k b;have R:=hD.hi k b;have n:∀f u,f>(D d k).toNat->onP P f (k:Int) u=onP P ((D d k).toNat+1) (k:Int) u:=λf u W=>Kv hP h0 U (D d k).toNat k f u b (by omega) (by omega)
  -- the new summand at the children
  have J:((List.range (row g v).length).map λi=>if((fK (row g v) i).1.toNat≠0∧par (fK (row g v) i).1.toNat=v)∧onP P (g.2.length+1) (k:Int) (fK (row g v) i).1.toNat=true then FY c k else 0).sum=if onP P (g.2.length+1) (k:Int) v=true∧k≠v then FY c k else 0:=by
   by_cases q:onP P (g.2.length+1) (k:Int) v=true∧k≠v
   ·rw[if_pos q];obtain⟨u,t,p,o,x⟩:=Ua hT hP hPp _ k v b q.1 q.2;obtain⟨a,_,l,_⟩:=hT.at_ u t p;rw[o]at l;obtain⟨i,A,w⟩:=hV.back t ⟨fp u,a,l⟩;rw[Ut _ _ i A λj K T=> ?_]
    ·rw[w,Int.toNat_natCast,if_pos ⟨⟨p,o⟩,x⟩]
    ·obtain⟨L,H,m,_⟩:=hV.port z K;rw[m,Int.toNat_natCast,if_neg];rintro⟨⟨C,E⟩,F⟩;have M:=(hT.at_ u t p).2.2.2.2;have G:=(hT.at_ L H C).2.2.2.2;rw[o]at M;rw[E]at G;have:=PE hT hP hPp h0 _ _ k u L b x F (by omega);subst this;have X:=Cb hV z A w;have Y:=Cb hV z K m;omega
   ·rw[if_neg q];refine GU _ _ λi A=>if_neg ?_;obtain⟨u,t,I,_⟩:=hV.port z (List.mem_range.1 A);rw[I,Int.toNat_natCast];rintro⟨⟨C,E⟩,F⟩;have y:=YF hT hP hPp _ k u b t C F;rw[E,n _ _ (by omega),<-n (g.2.length+1) v (by omega)]at y;have S:=Kt hP _ k u b F;have G:=(hT.at_ u t C).2.2.2.2;rw[E]at G;exact q ⟨y,λe=>by subst e;omega⟩
  have h:Iw g par (λu=>wV P g.2.length c u (k+1)) v=Iw g par (λu=>wV P g.2.length c u k) v+((List.range (row g v).length).map λi=>if((fK (row g v) i).1.toNat≠0∧par (fK (row g v) i).1.toNat=v)∧onP P (g.2.length+1) (k:Int) (fK (row g v) i).1.toNat=true then FY c k else 0).sum:=by
   unfold Iw;rw[<-Us];congr 1;refine List.map_congr_left λi _=> ?_;simp only[wV];by_cases q:(fK (row g v) i).1.toNat≠0∧par (fK (row g v) i).1.toNat=v
   ·rw[if_pos q,if_pos q];by_cases r:onP P (g.2.length+1) (k:Int) (fK (row g v) i).1.toNat=true
    ·rw[if_pos r,if_pos ⟨q,r⟩]
    ·rw[if_neg r,if_neg λs=>r s.2]
   ·rw[if_neg q,if_neg q,if_neg λs=>q s.1];rfl
  rw[h,J];show wV P g.2.length c v k+(if onP P (g.2.length+1) (k:Int) v=true then FY c k else 0)=_;rw[V];by_cases e:k=v
  ·subst e;rw[if_neg (Nat.lt_irrefl k),if_pos (Ku (f:=g.2.length)),if_pos (Nat.lt_succ_self k),if_neg λq=>q.2 Z];omega
  ·have N:(if v<k+1 then FY c v else 0)=if v<k then FY c v else 0:=by
    by_cases q:v<k
    ·rw[if_pos q,if_pos (by omega)]
    ·rw[if_neg q,if_neg (by omega)]
   rw[N];generalize (if v<k then FY c v else 0)=B;by_cases q:onP P (g.2.length+1) (k:Int) v=true
   ·rw[if_pos q,if_pos ⟨q,e⟩];omega
   ·rw[if_neg q,if_neg λr=>q r.1];omega
theorem Zc {W:List De} (b:∀v,v<g.2.length->0<=FY c v∧FY c v<=15):DC g par (xC c) (λv=>wV P g.2.length c v g.2.length):=by
 refine⟨λv a=> ?_,λv a=>(NH b).2⟩
 have:=Mj hV hD h0 hT hP hPp (c:=c) a g.2.length (Nat.le_refl _);rw[if_pos a]at this;exact this
end
theorem abU (p b:sF) (g:GR) (a:List De) (R:List RL) (c:bE) (t:Nat):g_ (aQ p g) a R c t=g_ (aQ b g) a R c t:=rfl
theorem OY (p b:sF) (g:GR) (R:List RL) (a:Nat) (c:bE):pZ (aQ p g) R a c=pZ (aQ b g) R a c:=rfl
noncomputable def nxt (g:GR) (a:Int) (c:Nat) (w:Int):Nat:=(((nL 1000 g).bind λb=>eK 1000 b a (c:Int) w).getD 0).toNat
noncomputable def CO (p:sF) (vars:List De) (R:List RL) (g:GR) (kind:Int) (ws:aO) (a:bE):Nat->bE
 |0=>a
 |k+1=>g_ (aQ p g) vars R (CO p vars R g kind ws a k) (nxt g kind (pZ (aQ p g) R (eO g) (CO p vars R g kind ws a k)) (at' ws (k:Int)))
theorem KA (p p':sF) (vars:List De) (R:List RL) (g:GR) (kind:Int) (ws:aO) (a:bE) (k:Nat):CO p vars R g kind ws a k=CO p' vars R g kind ws a k:=by
 induction k with
 |zero=>rfl
 |succ k b=>
  rw[CO,CO,b,abU p p',OY p p']
theorem exZ (D:KU):∃z:List xE,z.map Aa=D:=by
 refine⟨D.map λd=>(ByteArray.mk #[],(.bool true,d.1),(.bool true,d.2.map λs=>(s.1,(.bool true,s.2)))),?_⟩
 rw[List.map_map]
 conv=>rhs;rw[<-List.map_id D]
 refine List.map_congr_left λd _=> ?_;show(d.1,(d.2.map λs=>(s.1,((.bool true:Value),s.2))).map λs=>(s.1,s.2.2))=d;rw[List.map_map];exact Prod.ext Z (by
  conv=>rhs;rw[<-List.map_id d.2]
  rfl)
end Go.Proofs.YtlkhndebimcbbaaGreatDoor
namespace Go.Proofs.YtlkhndebimcbbaaGreatDoor
open Go.Sx
def GM  (a:acA):Option Ba:=
 if a.2.2.2.2.2.1≠(0:Int)then(some (([]:zT),([]:Mo),a.2.2.2.2.2.1))else(some (a.2.2.2.2.2.2.2.2.2.2,a.2.2.2.2.2.2.2.2.2.1,(0:Int)))
def Ag  (a:acB):Option Ba:=
 GM  (a.2.2.2.2.2.1,a.2.2.2.2.2.2.1,a.2.2.2.2.2.2.2.1,a.2.2.2.2.2.2.2.2.1,a.2.2.2.2.2.2.2.2.2.1,a.2.2.2.2.2.2.2.2.2.2,a.2.2.1,a.2.2.2.1,a.2.2.2.2.1,a.1,a.2.1)
def wT  (a:aO×Int×Int×Int×Int×Int×bE×aO×(List (Int×Int×Int×Int×Int))×List bE):Option Ba:=
 Ag  (a.2.2.2.2.2.2.2.2.1,a.2.2.2.2.2.2.2.2.2,a.2.2.2.2.2.2.2.1,a.1,a.2.2.2.2.2.2.1,a.2.1,a.2.2.1,a.2.2.2.1,a.2.2.2.2.1,a.2.2.2.2.2.1,(0:Int))
def CS (e:Mq) (b:Zj) (f:Zi->Option Ba) (d:Int) (h:bE) (c:Int) (a:(Int×Int×Int×Int×Int)×Int) (g:zT):Option Ba:=
 ck ((List.length b.2.2.2.2.2.2.2.2.2.1:Int)+(List.length ([d]):Int)<=1099511627) (ck ((List.length b.2.1:Int)+(List.length ([(dM .u32 c e.1)]):Int)<=1099511627) (f ((dM .u32 c e.1),(b.2.1++([(dM .u32 c e.1)])),(wI .i64 (b.2.2.1+(1:Int))),a.1.1,a.1.2.1,a.1.2.2.1,a.1.2.2.2.1,a.1.2.2.2.2,h,(b.2.2.2.2.2.2.2.2.2.1++[d]),(b.2.2.2.2.2.2.2.2.2.2.1++([(a.1.1,a.1.2.1,a.1.2.2.1,a.1.2.2.2.1,a.1.2.2.2.2)])),g)))
def CR (U:Nat) (e:BH) (k:cG) (l:Int) (c:Mq) (a:Zj) (i:Zi->Option Ba) (d:Int):Option Ba:=
 if¬(a.1≠(0:Int))then(wT  (a.2.1,a.2.2.2.1,a.2.2.2.2.1,a.2.2.2.2.2.1,a.2.2.2.2.2.2.1,a.2.2.2.2.2.2.2.1,a.2.2.2.2.2.2.2.2.1,a.2.2.2.2.2.2.2.2.2.1,a.2.2.2.2.2.2.2.2.2.2.1,a.2.2.2.2.2.2.2.2.2.2.2))else(Option.bind (fQ U c.2.1 l a.1 d) λj=>(if(!j)=true then(Ag  (a.2.2.2.2.2.2.2.2.2.2.1,a.2.2.2.2.2.2.2.2.2.2.2,([]:aO),([]:aO),([]:bE),(0:Int),(0:Int),(0:Int),(0:Int),(0:Int),(11:Int)))else(Option.bind (jD U ((((e.1,e.2.1,e.2.2)),((((e.1,e.2.1,e.2.2)),((k.1,k.2)),c.2.2.2.1,c.2.2.2.2)),c.2.2.1)) a.2.2.2.2.2.2.2.2.1 d) λf=>(Option.bind (d_ U ((((e.1,e.2.1,e.2.2)),((((e.1,e.2.1,e.2.2)),((k.1,k.2)),c.2.2.2.1,c.2.2.2.2)),c.2.2.1)) f) λg=>(Option.bind (fX U ((a.2.2.2.1,a.2.2.2.2.1,a.2.2.2.2.2.1,a.2.2.2.2.2.2.1,a.2.2.2.2.2.2.2.1)) d (dM .u32 g c.1)) λb=>(Option.bind (lX U f) λh=>(ck ((List.length a.2.2.2.2.2.2.2.2.2.2.2:Int)+(List.length (([]:zT)++[h]):Int)<=1099511627) (ck ((List.length a.2.2.2.2.2.2.2.2.2.2.1:Int)+(List.length ([(b.1.1,b.1.2.1,b.1.2.2.1,b.1.2.2.2.1,b.1.2.2.2.2)]):Int)<=1099511627) (CS c a i d f g b (a.2.2.2.2.2.2.2.2.2.2.2++(([]:zT)++[h])))))))))))
def sS (U:Nat) (g:BH) (h:cG) (f:Int) (e:aO) (c:Mq) (a:Zj) (b:Zi->Option Ba):Option Ba:=
 if a.2.2.1<(List.length e:Int)then(ck (0<=a.2.2.1∧a.2.2.1<(List.length e:Int)) (Option.bind (eK U c.2.1 f a.1 (at' e a.2.2.1)) λd=>(CR U g h f c a b (d))))else(wT  (a.2.1,a.2.2.2.1,a.2.2.2.2.1,a.2.2.2.2.2.1,a.2.2.2.2.2.2.1,a.2.2.2.2.2.2.2.1,a.2.2.2.2.2.2.2.2.1,a.2.2.2.2.2.2.2.2.2.1,a.2.2.2.2.2.2.2.2.2.2.1,a.2.2.2.2.2.2.2.2.2.2.2))
def CQ (U:Nat) (f:BH) (g:cG) (h:Int) (i:aO) (b:Mq) (e:bE) (c:Int) (a:(Int×Int×Int×Int×Int)) (d:zT):Option Ba:=
 ck ((List.length ([]:aO):Int)+(List.length ([(dM .u32 c b.1)]):Int)<=1099511627) (bL (sS U f g h i b) U ((dM .u32 c b.1),(([]:aO)++([(dM .u32 c b.1)])),(0:Int),a.1,a.2.1,a.2.2.1,a.2.2.2.1,a.2.2.2.2,e,([]:aO),(([]:Mo)++([(a.1,a.2.1,a.2.2.1,a.2.2.2.1,a.2.2.2.2)])),d))
def CP (U:Nat) (d:BH) (g:cG) (h:Int) (i:bE) (j:aO) (b:Mq):Option Ba:=
 Option.bind (lX U i) λe=>(Option.bind (d_ U ((((d.1,d.2.1,d.2.2)),((((d.1,d.2.1,d.2.2)),((g.1,g.2)),b.2.2.2.1,b.2.2.2.2)),b.2.2.1)) e) λf=>(Option.bind (uI U (dM .u32 f b.1)) λa=>(Option.bind (lX U e) λc=>(ck ((List.length ([]:zT):Int)+(List.length (([]:zT)++[c]):Int)<=1099511627) (ck ((List.length ([]:Mo):Int)+(List.length ([(a.1,a.2.1,a.2.2.1,a.2.2.2.1,a.2.2.2.2)]):Int)<=1099511627) (CQ U d g h j b e f a (([]:zT)++(([]:zT)++[c]))))))))
def Ah (U:Nat) (e:BH) (b:cG) (f:Int) (g:bE) (h:aO) (a:fO×Int×bE):Option Ba:=
 Option.bind (nL U ((b.1,b.2))) λc=>(Option.bind (yS U ((b.1,b.2))) λd=>(CP U e b f g h (d,c,a.1,a.2.1,a.2.2)))
def Ai (U:Nat) (c:BH) (d:cG) (e:Int) (f:bE) (g:aO) (a:Int×bE):Option Ba:=
 Option.bind (mP U ((c.1,c.2.1,c.2.2)) ((d.1,d.2))) λb=>(Ah U c d e f g (b,a.1,a.2))
def tR (U:Nat) (b:BH) (c:cG) (d:Int) (e:bE) (f:aO) (a:Int×bE):Option Ba:=
 Ai U b c d e f (a.1,a.2)
def yE (d:cG) (a:Int×Int×bE) (b:(Int×Int×bE)->Option Ba) (c:bE):Option Ba:=
 b ((wI .i64 (a.1+(1:Int))),(max a.2.1 (at' d.1 a.1)),c)
def sT (U:Nat) (f:cG) (a:Int×Int×bE) (d:(Int×Int×bE)->Option Ba) (b:Int×bE) (e:(Int×bE)->Option Ba):Option Ba:=
 if b.1<(List.length (at' f.2 a.1):Int)then(ck (0<=b.1∧b.1<(List.length (at' f.2 a.1):Int)) (ck (0<=a.1∧a.1<(List.length b.2:Int)) (Option.bind (rT U ((f.1,f.2)) ((at' (at' f.2 a.1) b.1).1) a.1) λc=>(ck ((List.length (at' b.2 a.1):Int)+(List.length ([c]):Int)<=1099511627) (ck (0<=a.1∧a.1<(List.length (List.set b.2 (Int.toNat a.1) ((at' b.2 a.1)++[c])):Int)) (e ((wI .i64 (b.1+(1:Int))),(List.set b.2 (Int.toNat a.1) ((at' b.2 a.1)++[c])))))))))else(yE f a d (b.2))
def n_ (U:Nat) (d:BH) (c:cG) (e:Int) (f:bE) (g:aO) (a:Int×Int×bE) (b:(Int×Int×bE)->Option Ba):Option Ba:=
 if a.1<(List.length c.2:Int)then(ck (0<=a.1∧a.1<(List.length c.2:Int)) (ck (0<=a.1∧a.1<(List.length c.1:Int)) (bL (sT U c a b) U ((0:Int),a.2.2))))else(tR U d c e f g (a.2.1,a.2.2))
def vL (U:Nat) (b:BH) (a:cG) (c:Int) (d:bE) (e:aO):Option Ba:=
 Option.bind (yT U ((b.1,b.2.1,b.2.2)) ((a.1,a.2)) c d (List.length e:Int)) λf=>(if f≠(0:Int)then(some (([]:zT),([]:Mo),f))else(ck (0<=(List.length a.2:Int)∧(List.length a.2:Int)<=1099511627) (bL (n_ U b a c d e) U ((0:Int),(0:Int),(List.replicate (Int.toNat (List.length a.2:Int)) ([]:aO))))))
theorem adh:aU Tryz.prog 27:=Tryz.call27
theorem Qg (U:Nat) {s:BH} {G:cG} {R:Int} {p3:bE} {p4:aO} (u:Value)  (v:Value)  (E:Value)  (D:Value)  (z4:lJ)  (v5:Value)  (z6:qF)  (v7:Value) (r:List bE×(List (Int×Int×Int×Int×Int))×Int) (h:vL U s G R p3 p4=some r):
  aY Tryz.prog 27 #[Value.agg #[vS (s.1),u,v],Value.agg #[E,D],vI (R),v5,v7] [Sl aR u s.2.1,Sl aJ v s.2.2,PF (Value.agg #[vS s.1,u,v]),Sl bO E G.1,S2 bA D z4 G.2,S2 bO v5 z6 p3,Sl yZ v7 p4,Gb 0 (cellsOf HY w_)] (λx:Value×List Value×List (List Value)×Value=>Value.tuple #[x.1,x.2.2.2,vI (r.2.2)]) (λx l=>Ar cQ.raw x.1 x.2.1::IP bX x.2.1 x.2.2.1 r.1::Ar cJ x.2.2.2 r.2.1::l) (λ_ l=>l):=by
 refine aY.of Tryz.func27 Z Tryz.ntmps27 Z λc=>?_;refine aW<|aH (aN.box (cs:=[vS (s.1),u,v]) Z Z) Z λb1=>aH (aN.box (cs:=[E,D]) Z Z) Z λb2=>aE Z<|aE Z<|aE Z<|aM<|aK<|aW<|eQ 1 Z<|eQ 0 Z<|aA Z<|aA Z<|aA Z<|kT (aF.fact 6 Z) Z<|fU h λr3 w4 h=>aH (aN.callQ ado (Qh U u v E D z4 v5 z6 r3 w4) Z (oO [0,1,2,3,4,5] Z)) Z λx5=>aE Z<|aM<|aW<|aA Z<|qO Z<|aM ?_;refine fJ h Z (λh=>?_) λh=>?_
 ·refine aW<|aA Z<|aE Z<|aE Z<|aE Z<|aM<|aV<|aI<|jL (iK cQ.raw) (jL (Aq bX) ?_);refine jL (iK cJ) ?_;cases h;exact IM ((lH),([]:fT),([]:List (List Value)),(lH)) Z Z (RV.tmp Z) (RV.tmp Z) (RV.tmp Z) (aZ.ix [2,1,0] Z Z) aG.nil
 refine cU<|aW<|aH (aN.alloc (cs:=[lH]) Z Z) Z λM=>aM<|aW<|aH (aN.alloc (cs:=[lH]) Z Z) Z λN=>aM<|aW<|eQ 3 Z<|eQ 2 Z<|aA Z<|aB (xL (cs:=[.tmp 14,.tmp 15]) (vs:=[vP M,vP N]) Z) Z<|Bu (A:=Mq) (B:=Nat×Value×Nat×Value×List Value×Value×List Value) (vs:=[Value.agg #[vS (s.1),u,v],Value.agg #[E,D],vI (R),Value.func (.func 48) #[] #[vP M,vP N]]) (λg=>CP U s G R p3 p4 g=some r) (λg a=>Value.agg #[vP a.1,a.2.1,vI (R),vU (g.1),Value.func (.func 48) #[] #[vP M,vP N]]) (λg a=>[Ar oZ a.2.1 g.2.1,bY a.1 [vS (s.1),u,v,vP a.2.2.1,a.2.2.2.1] 106,Ar cQ.raw a.2.2.2.1 a.2.2.2.2.1,jZ b_ a.2.2.2.2.1 g.2.2.1,bY a.2.2.1 [vS (s.1),u,v,E,D,vI (g.2.2.2.1),a.2.2.2.2.2.1] 134,Ar cQ.raw a.2.2.2.2.2.1 a.2.2.2.2.2.2,jZ bX a.2.2.2.2.2.2 g.2.2.2.2,bY N [lH] 35,bY M [lH] 34]) (λg a=>[Sl aR u s.2.1,Sl aJ v s.2.2,PF (Value.agg #[vS s.1,u,v]),Sl bO E G.1,S2 bA D z4 G.2,S2 bO v5 z6 p3,Sl yZ v7 p4,Gb 0 (cellsOf HY w_)]) (sX.fn (show aU Tryz.prog 47 from Tryz.call47) Z) Tryz.func47 Z Tryz.ntmps47 Z Z ?_ ?_
 ·refine aW<|aH (aN.box (cs:=[vS (s.1),u,v]) Z Z) Z λaf=>aH (aN.box (cs:=[E,D]) Z Z) Z λag=>aH (aN.alloc (cs:=vD1) Z Z) Z λah=>aM<|aK ?_;refine JR.start [0,0,3,0,15,0,0,95,0,511,1023] 9 mixedOrders (by decide +kernel) ?_;refine JR.open (by exact rfl) ?_;refine nU 2 Z<|nU 1 Z<|SY (A:=fO×Int×bE) (B:=Nat×Nat×Value×List Value×Value×List Value) (vs:=[Value.agg #[vS (s.1),u,v],Value.agg #[E,D]]) (λP=>Ah U s G R p3 p4 P=some r) (λP t=>vP t.1) (λP t=>[bY t.1 [vS (s.1),u,v,vP t.2.1,t.2.2.1] 106,Ar cQ.raw t.2.2.1 t.2.2.2.1,jZ b_ t.2.2.2.1 P.1,bY t.2.1 [vS (s.1),u,v,E,D,vI (P.2.1),t.2.2.2.2.1] 134,Ar cQ.raw t.2.2.2.2.1 t.2.2.2.2.2,jZ bX t.2.2.2.2.2 P.2.2,bY ah vD1 92,bY ag [E,D] 28,bY af [vS (s.1),u,v] 57,bY N [lH] 35,bY M [lH] 34]) (λP t=>[Sl aR u s.2.1,Sl aJ v s.2.2,PF (Value.agg #[vS s.1,u,v]),Sl bO E G.1,S2 bA D z4 G.2,S2 bO v5 z6 p3,Sl yZ v7 p4,Gb 0 (cellsOf HY w_)]) Z Z Z (sX.fn (show aU Tryz.prog 39 from Tryz.call39) Z) Tryz.func39 Z Tryz.ntmps39 Z Z (λ_ _=>(vY [] Z)) ?_ ?_
  ·refine aW<|aH (aN.box (cs:=[vS (s.1),u,v]) Z Z) Z λar=>aH (aN.box (cs:=[E,D]) Z Z) Z λau=>aE Z<|aM<|aK ?_;refine JR.start [0,0,0,6,0,0,62,127,255,511] 7 mixedOrders (by decide +kernel) ?_;refine JR.open (by exact rfl) ?_;refine nU 1 Z<|nU 1 Z<|nU 0 Z<|SY (A:=Int×bE) (B:=Nat×Value×List Value) (vs:=[Value.agg #[vS (s.1),u,v],Value.agg #[E,D]]) (λS=>Ai U s G R p3 p4 S=some r) (λS I=>vP I.1) (λS I=>[bY I.1 [vS (s.1),u,v,E,D,vI (S.1),I.2.1] 134,Ar cQ.raw I.2.1 I.2.2,jZ bX I.2.2 S.2,bY au [E,D] 28,bY ar [vS (s.1),u,v] 57,bY ah vD1 92,bY ag [E,D] 28,bY af [vS (s.1),u,v] 57,bY N [lH] 35,bY M [lH] 34]) (λS I=>[Sl aR u s.2.1,Sl aJ v s.2.2,PF (Value.agg #[vS s.1,u,v]),Sl bO E G.1,S2 bA D z4 G.2,S2 bO v5 z6 p3,Sl yZ v7 p4,Gb 0 (cellsOf HY w_)]) Z Z Z (sX.fn (show aU Tryz.prog 64 from Tryz.call64) Z) Tryz.func64 Z Tryz.ntmps64 Z Z (λ_ _=>(vY [([4],[])] Z)) ?_ ?_
   ·refine aW<|aH (aN.box (cs:=[vS (s.1),u,v]) Z Z) Z λc7=>aH (aN.box (cs:=[E,D]) Z Z) Z λai=>aE Z<|aM<|aK ?_;refine JR.start [0,0,0,4,12,28,63,127,255] 6 mixedOrders (by decide +kernel) ?_;refine JR.open (by exact rfl) ?_;refine nU 1 Z<|nU 0 Z<|dD Z<|jO 0 Z<|bK Z .nil (lE 4 Z) (gQ Z (aF.fact 0 Z) Z) aL.z<|dB h λcj h=>JR.stp (yN bX (Int.toNat (List.length G.2:Int)))<|JR.loud Z Z Z (mC (e:=cQ.raw) (lH) Z Z Z Z cj Z Z Z) Z (λL=>(vY [([2],[]),([3],[])] Z)) λL=>bQ 6 Z Z<|cF (Know.one (aF.sl (bV (i:=0) (j:=1) Z Z dC))) λbR=>?_;refine aB (WH (r:=Value.agg #[vS (s.1),u,v,E,D,vI (0:Int),L]) Z Z Z (by intro w;simp[Instr.build,Instr.fill,eX,dY,dH,eY,eZ,dZ,gK,eI bR])) Z ?_;refine aH (aN.box (cs:=[vS (s.1),u,v,E,D,vI (0:Int),L]) Z Z) Z λT=>aE Z<|aM<|aK<|ER (B:=fT) (λX=>tR U s G R p3 p4 X=some r) (λX av=>[(5,vP T)]) (λX av=>[bY T [vS (s.1),u,v,E,D,vI (X.1),L] 134,Ar cQ.raw L av,jZ bX av X.2,bY au [E,D] 28,bY ar [vS (s.1),u,v] 57,bY ah vD1 92,bY ag [E,D] 28,bY af [vS (s.1),u,v] 57,bY N [lH] 35,bY M [lH] 34]) ?_ ?_
    ·refine aW<|bW Z<|dN 3 Z<|aB (gQ Z (aF.fact 4 Z) Z) Z<|aA Z<|aM<|aT<|eV (B:=fT) (n_ U s G R p3 p4) (λo aj=>[(3,vP ai),(5,vP T),(19,D),(20,vI (List.length G.2:Int)),(21,vI (o.1))]) (λo aj=>[bY T [vS (s.1),u,v,E,D,vI (o.2.1),L] 134,Ar cQ.raw L aj,jZ bX aj o.2.2,bY ai [E,D] 28,bY au [E,D] 28,bY ar [vS (s.1),u,v] 57,bY ah vD1 92,bY ag [E,D] 28,bY af [vS (s.1),u,v] 57,bY N [lH] 35,bY M [lH] 34]) ((0:Int),(0:Int),(List.replicate (Int.toNat (List.length G.2:Int)) ([]:aO))) (List.replicate (Int.toNat (List.length G.2:Int)) (lH)) h SF (aZ.ix [0,1,2,3,5,6,7,8,9,10,11] Z Z) ?_;intro bh o aj h;refine aW<|cY Z<|aM<|aK ?_;refine fJ h Z (λh=>?_) λh=>?_
     ·refine cU<|aK<|ER (B:=fT) (λae=>yE G o (bL (n_ U s G R p3 p4) bh) ae=some r) (λae aw=>[(3,vP ai),(5,vP T),(19,D),(20,vI (List.length G.2:Int)),(21,vI (o.1))]) (λae aw=>[bY T [vS (s.1),u,v,E,D,vI (max o.2.1 (at' G.1 o.1)),L] 134,Ar cQ.raw L aw,jZ bX aw ae,bY ai [E,D] 28,bY au [E,D] 28,bY ar [vS (s.1),u,v] 57,bY ah vD1 92,bY ag [E,D] 28,bY af [vS (s.1),u,v] 57,bY N [lH] 35,bY M [lH] 34]) ?_ ?_
      ·refine aT<|aW<|aA Z<|dB h λaa h=>aB (cC Z Z (aF.fact 4 Z) Z Z aa) Z<|aB (cE Z (aF.fact 4 Z) Z Z aa) Z<|aE Z<|aE Z<|aM<|aK ?_;refine JR.start [0,0,2,6,14,0,32,0,224,480,1022,2047,4095,8191] 11 mixedOrders (by decide +kernel) ?_;refine JR.open (by exact rfl) ?_;refine bH Z<|bH Z<|iX Z (cB Z)<|dD Z<|jO 0 Z<|dD Z<|jO 3 Z<|bH Z<|dB h λbe h=>bK Z .nil (lE 3 Z) (bB Z Z (aF.fact 0 Z) Z Z be) aL.z<|bK Z .nil (lE 3 Z) (bS Z (aF.fact 0 Z) Z Z Z cX be) aL.z<|iX Z (OE Z Z)<|bQ 11 Z Z<|aB (cB Z) Z<|bW Z<|iB 0 Z Z Z Z Z Z<|aM<|aW<|aA Z<|aB (h_ Z (aF.el (aF.fact 4 Z) aa.1 aa.2) Z) Z<|aA Z<|aM<|aT<|eV (B:=fT) (sT U G o (bL (n_ U s G R p3 p4) bh)) (λK ak=>[(3,vP ai),(5,vP T),(6,vI (o.1)),(19,D),(20,vI (List.length G.2:Int)),(21,vI (o.1)),(39,(at' z4 o.1).1),(40,vI (List.length (at' G.2 o.1):Int)),(41,vI (K.1))]) (λK ak=>[bY T [vS (s.1),u,v,E,D,vI (max o.2.1 (at' G.1 o.1)),L] 134,Ar cQ.raw L ak,jZ bX ak K.2,bY ai [E,D] 28,bY au [E,D] 28,bY ar [vS (s.1),u,v] 57,bY ah vD1 92,bY ag [E,D] 28,bY af [vS (s.1),u,v] 57,bY N [lH] 35,bY M [lH] 34]) ((0:Int),o.2.2) (aj) h SF (aZ.refl _) ?_;intro c9 K ak h;refine aW<|cY Z<|aM<|aK ?_;refine fJ h Z (λh=>?_) λh=>?_
       ·refine cU<|aK<|aT<|aW<|dB h λbf h=>aB (bB Z Z (aF.el (aF.fact 4 Z) aa.1 aa.2) Z Z bf) Z<|aB (jM (cs:=[vI ((at' (at' G.2 o.1) K.1).1),vI ((at' (at' G.2 o.1) K.1).2)]) Z (aF.el (aF.fact 4 Z) aa.1 aa.2) bU Z Z Z Z bf) Z<|aH (aN.alloc (cs:=V_) Z Z) Z λc8=>bT 0 (vs:=[vI ((at' (at' G.2 o.1) K.1).1),vI ((at' (at' G.2 o.1) K.1).2)]) Z Z Z Z Z Z<|aM ?_;refine JR.start [0,1,3,7,0,0,32,96,224,0,992,2016,0,0,8192,0,61440,126976,262112,524287,1048575] 19 mixedOrders (by decide +kernel) ?_;refine JR.open (by exact rfl) ?_;refine bH Z<|iX Z (cB Z)<|dD Z<|jO 1 Z<|bH Z<|bH Z<|iX Z (cB Z)<|dD Z<|jO 1 Z<|bH Z<|dB h λaQ h=>cZ (dA 3 Z) λbo=>?_;refine bK Z (aZ.cons 2 Z .nil) .nil (gO 0 Z Z Z Z Z aQ.1 (by have q1:=aQ.2;have q2:=bo;(try simp only[List.length_set]at q1);(try simp only[List.length_set]at q2);(try simp only[List.length_set]);omega)) aL.z ?_;refine cZ (dA 3 Z) λbp=>bK Z (aZ.cons 2 Z .nil) .nil (iY 0 Z Z bp Z Z aQ) aL.z<|nU 4 Z<|dD Z<|jO 0 Z<|bH Z<|fU h λax cR h=>JR.loud Z Z Z (aN.callQ adG (KH U E D z4 ax cR) Z (oO [3,4] Z)) Z (λc0=>(vY [([2],[]),([2],[]),([1],[]),([1],[])] Z)) λc0=>JR.loud Z Z Z (cA (e:=bX) ([ax]) [(0,vI (ax))] Z Z Z Z (nT (vI (ax)) Z) Z Z Z) Z (λcw=>(vY [([3],[]),([3],[]),([2],[]),([2],[])] Z)) λcw=>dB h λck h=>JR.loud Z Z Z (qH 4 dC Z Z Z (bF (aF.res 0 Z) dC) Z Z Z Z aQ ck Z) Z (λbn=>(vY [([2],[])] Z)) λbn=>bQ 19 Z Z<|dB h λab h=>cF (dA 4 Z) λbq=>?_;refine aB (gO 3 Z Z Z Z Z ab.1 (by have q1:=ab.2;have q2:=bq;(try simp only[List.length_set]at q1);(try simp only[List.length_set]at q2);(try simp only[List.length_set]);omega)) Z ?_;refine cF (Bd 4 (k:=o.1) Z ⟨ab.1,by first|exact ab.2|simpa using ab.2⟩) λb0=>?_;refine pW 3 4 ⟨ab.1,by first|exact ab.2|simpa using ab.2⟩ Z Z Z Z Z (by simp) b0 Z ?_;refine eM<|oD<|aS<|cL Z<|aA Z<|aM ?_;exact nR ((wI .i64 (K.1+(1:Int))),(List.set K.2 (Int.toNat o.1) ((at' K.2 o.1)++[ax]))) (List.set ak (Int.toNat o.1) bn) h SF (aZ.ix [2,3,4,5,6,7,8,9,10,11,12] Z Z) (aG.refl _ _)
       refine s_<|fW<|fW<|zO<|oD ?_;exact jG (K.2) (ak) h SF Z
      intro ae aw h;unfold yE at h;refine aS<|cL Z<|aA Z<|aM ?_;exact Al ((wI .i64 (o.1+(1:Int))),(max o.2.1 (at' G.1 o.1)),ae) (aw) h SF Z
     refine fV ?_;exact cK (o.2.1,o.2.2) (aj) h SF (aZ.ix [0,1,2,4,5,6,7,8,9,10] Z Z) (aG.refl _ _)
    intro X av h;unfold tR at h;refine aW<|aA Z<|aE Z<|aM<|aV ?_;exact tA (X.1,X.2) (T,L,av) h (.inl Z) (He.r1 Z (RV.tmp Z)) Z (aZ.refl _) (aG.refl _ _)
   intro S I h;unfold Ai at h;refine bK Z (aZ.cons 4 Z .nil) .nil (jN 0 Z Z Z Z) (aL.h (aZ.ix [1] Z Z) .nil aL.z)<|bK Z (aZ.cons 3 Z .nil) .nil (jN 0 Z Z Z Z) (aL.h (aZ.ix [0] Z Z) .nil aL.z)<|fU h λbm cP h=>JR.loud Z Z Z (aN.callQ Xc (Ek U u v E D z4 bm cP) Z (oO [0,1,2,3,4] Z)) Z (λay=>(vY [([6],[])] Z)) λay=>bQ 7 Z Z<|cF (Know.one (aF.sl (bV (i:=0) (j:=1) Z Z bU))) λbN=>?_;refine aB (WH (r:=Value.agg #[vS (s.1),u,v,Value.pointer (some ⟨I.1,0,none⟩),ay.1]) Z Z Z (by intro w;simp[Instr.build,Instr.fill,eX,dY,dH,eY,eZ,dZ,gK,eI bN])) Z ?_;refine aH (aN.box (cs:=[vS (s.1),u,v,vP I.1,ay.1]) Z Z) Z λb3=>aE Z<|aM<|aV ?_;exact tA (bm,S.1,S.2) (b3,I.1,ay.1,ay.2,I.2.1,I.2.2) h (.inl Z) (He.r1 Z (RV.tmp Z)) Z (aZ.ix [0,1,2,3,4,5,8,9,10,11,12] Z Z) (aG.refl _ _)
  intro P t h;unfold Ah at h;refine bK Z (aZ.cons 7 Z .nil) .nil (jN 0 Z Z Z Z) (aL.h (aZ.ix [1] Z Z) .nil aL.z)<|fU h λbl cN h=>JR.loud Z Z Z (aN.callQ ady (IA U E D z4 bl cN) Z (oO [3,4] Z)) Z (λa0=>(vY [] Z)) λa0=>iX Z (fH Z)<|bK Z (aZ.cons 8 Z .nil) .nil (jN 0 Z Z Z Z) (aL.h (aZ.ix [7] Z Z) .nil (aL.h (aZ.ix [1] Z Z) .nil aL.z))<|fU h λaX cO h=>JR.loud Z Z Z (aN.callQ adz (Qf U E D z4 aX cO) Z (oO [3,4] Z)) Z (λcW=>(vY [] Z)) λcW=>iX Z (fH Z)<|bQ 9 Z Z<|cF (Know.one ((bF (aF.res 0 Z) uV))) λbJ=>?_;refine aB (Y.bld5 (r:=Value.agg #[Value.pointer (some ⟨t.1,0,none⟩),a0,vI (R),vU (aX),Value.func (.func 48) #[] #[Value.pointer (some ⟨M,0,none⟩),Value.pointer (some ⟨N,0,none⟩)]]) Z Z Z Z Z (by intro w;simp[Instr.build,Instr.fill,eX,dY,dH,eY,eZ,dZ,gK,eI bJ])) Z ?_;refine cF (Know.one ((bF (aF.res 0 Z) uV))) λbM=>bT 7 (vs:=[vP t.1,a0,vI (R),vU (aX),Value.func (.func 48) #[] #[vP M,vP N]]) Z Z (kW Z (kW bM (kW Z (kW Z (kW Z Z))))) Z Z Z<|aM<|aV ?_;exact tA (aX,bl,P.1,P.2.1,P.2.2) (t.1,a0,t.2.1,t.2.2.1,t.2.2.2.1,t.2.2.2.2.1,t.2.2.2.2.2) h (.inl Z) (He.r1 Z (RV.cell 7 Z Z Z Z)) Z (aZ.ix [0,1,2,3,4,5,6,10,11] Z Z) (aG.refl _ _)
 intro g a h;refine aH (aN.alloc (cs:=vD1) Z Z) Z λdh=>cF (Know.one ((bF (aF.res 1 Z) uV))) λb4=>bT 0 (vs:=[vP a.1,a.2.1,vI (R),vU (g.1),Value.func (.func 48) #[] #[vP M,vP N]]) Z Z (kW Z (kW b4 (kW Z (kW Z (kW Z Z))))) Z Z Z<|aM<|aK<|aW<|eQ 0 Z<|aA Z<|aA Z<|Bu (A:=acA) (B:=Value×Value×Value×Value×Value×List Value×List Value×List (List Value)) (vs:=[Value.agg #[vP a.1,a.2.1,vI (R),vU (g.1),Value.func (.func 48) #[] #[vP M,vP N]],v5,v7]) (λJ=>GM  J=some r) (λJ F=>Value.tuple #[Value.agg #[F.1,F.2.1,F.2.2.1,vI (J.1),vI (J.2.1),vI (J.2.2.1),vI (J.2.2.2.1),vU (J.2.2.2.2.1)],vI (J.2.2.2.2.2.1)]) (λJ F=>[Ar cJ F.2.2.2.1 J.2.2.2.2.2.2.2.2.2.1,IP bX F.2.2.2.2.2.2.1 F.2.2.2.2.2.2.2 J.2.2.2.2.2.2.2.2.2.2,Ar cQ.raw F.2.2.2.2.1 F.2.2.2.2.2.2.1,bY N [F.2.2.2.1] 35,bY M [F.2.2.2.2.1] 34,Ar oZ F.1 J.2.2.2.2.2.2.1,Ar oZ F.2.1 J.2.2.2.2.2.2.2.1,Ar cQ.raw F.2.2.1 F.2.2.2.2.2.1,jZ bX F.2.2.2.2.2.1 J.2.2.2.2.2.2.2.2.1]) (λJ F=>[Sl aR u s.2.1,Sl aJ v s.2.2,PF (Value.agg #[vS s.1,u,v]),Sl bO E G.1,S2 bA D z4 G.2,S2 bO v5 z6 p3,Sl yZ v7 p4,Gb 0 (cellsOf HY w_)]) (sX.fn (show aU Tryz.prog 50 from Tryz.call50) Z) Tryz.func50 Z Tryz.ntmps50 Z Z ?_ ?_
 ·refine aW<|aH (aN.box (cs:=[vP a.1,a.2.1,vI (R),vU (g.1),Value.func (.func 48) #[] #[vP M,vP N]]) Z Z) Z λao=>cF (Know.one ((aF.fact 6 Z))) λca=>?_;refine aH (aN.box (cs:=[v7]) Z (by rw[eI ca])) Z λap=>?_;refine aH (aN.alloc (cs:=Qr) Z Z) Z λa1=>aE Z<|aM<|aW<|eQ 2 Z<|aA Z<|dN 1 Z<|kT (aF.fact 6 Z) Z<|aB (xL (cs:=[.tmp 3,.tmp 5]) (vs:=[vP ao,vP ap]) Z) Z<|Bu (A:=acB) (B:=Value×Value×List Value×List (List Value)×Value×Value×Value×List Value) (vs:=[Value.agg #[vP a.1,a.2.1,vI (R),vU (g.1),Value.func (.func 48) #[] #[vP M,vP N]],v5,vI (List.length p4:Int),Value.func (.func 79) #[] #[vP ao,vP ap]]) (λy=>Ag  y=some r) (λy C=>Value.tuple #[Value.agg #[C.2.2.2.2.1,C.2.2.2.2.2.1,C.2.2.2.2.2.2.1,vI (y.2.2.2.2.2.1),vI (y.2.2.2.2.2.2.1),vI (y.2.2.2.2.2.2.2.1),vI (y.2.2.2.2.2.2.2.2.1),vU (y.2.2.2.2.2.2.2.2.2.1)],vI (y.2.2.2.2.2.2.2.2.2.2)]) (λy C=>[Ar cJ C.1 y.1,IP bX C.2.2.1 C.2.2.2.1 y.2.1,Ar cQ.raw C.2.1 C.2.2.1,bY a1 Qr 72,bY N [C.1] 35,bY M [C.2.1] 34,Ar oZ C.2.2.2.2.1 y.2.2.1,Ar oZ C.2.2.2.2.2.1 y.2.2.2.1,Ar cQ.raw C.2.2.2.2.2.2.1 C.2.2.2.2.2.2.2,jZ bX C.2.2.2.2.2.2.2 y.2.2.2.2.1]) (λy C=>[Sl aR u s.2.1,Sl aJ v s.2.2,PF (Value.agg #[vS s.1,u,v]),Sl bO E G.1,S2 bA D z4 G.2,S2 bO v5 z6 p3,Sl yZ v7 p4,Gb 0 (cellsOf HY w_)]) (sX.fn (show aU Tryz.prog 78 from Tryz.call78) Z) Tryz.func78 Z Tryz.ntmps78 Z Z ?_ ?_
  ·refine aW<|aH (aN.box (cs:=[vP a.1,a.2.1,vI (R),vU (g.1),Value.func (.func 48) #[] #[vP M,vP N]]) Z Z) Z λa4=>aH (aN.alloc (cs:=Qr) Z Z) Z λaC=>aE Z<|aM<|aW<|aH (aN.alloc (cs:=Qr) Z Z) Z λaD=>aM<|aW<|aA Z<|fU h λa2 c1 h=>aH (aN.callQ MX (yI U v5 z6 a2 c1) Z (oO [5] Z)) Z λad=>aE Z<|aM<|aK ?_;refine JR.start [0,1,0,7,0,16,63,127] 6 mixedOrders (by decide +kernel) ?_;refine JR.open (by exact rfl) ?_;refine dD Z<|jO 4 Z<|bH Z<|fU h λaq c2 h=>JR.loud Z Z Z (aN.callQ WY (vQ U a.1 u v a.2.2.1 u v E D z4 a.2.2.2.2.2.1 (List.zip a.2.2.2.2.2.2 g.2.2.2.2) a.2.2.2.1 (List.zip a.2.2.2.2.1 g.2.2.1) ad.1 (List.zip ad.2 a2) aq c2) Z (aG.cons (aF.res 10 Z) (aG.cons (aF.fact 0 Z) (aG.cons (aF.fact 1 Z) (aG.cons (aF.res 13 Z) (aG.cons (aF.fact 0 Z) (aG.cons (aF.fact 1 Z) (aG.cons (aF.fact 3 Z) (aG.cons (aF.fact 4 Z) (aG.cons (bV (i:=14) (j:=15) Z Z dC) (aG.cons (bV (i:=11) (j:=12) Z Z bU) (aG.cons (bV (i:=0) (j:=1) Z Z dC) .nil)))))))))))) Z (λc4=>(vY [] Z)) λc4=>iX Z (eN Z Z Z Z Z)<|bK Z (aZ.cons 4 Z .nil) .nil (gE 0 Z Z Z Z Z) (aL.h (aZ.ix [4] Z Z) .nil aL.z)<|bQ 6 Z Z<|zQ Z<|aE Z<|aM<|aW<|aA Z<|fU h λm c3 h=>aH (aN.callQ aam (Iy U  m c3) Z .nil) Z λdk=>aH (aN.alloc (cs:=vD2) Z Z) Z λaP=>bT 0 (vs:=[vI (m.1),vI (m.2.1),vI (m.2.2.1),vI (m.2.2.2.1),vU (m.2.2.2.2)]) Z Z Z Z Z Z<|aM<|aW<|bW Z<|dN 5 Z<|aA Z<|aA Z<|eQ 0 Z<|Bu (A:=zT) (B:=Value×Value×List Value×List (List Value)) (vs:=[ad.1,vU (dM .u32 aq g.1),Value.agg #[vI (m.1),vI (m.2.1),vI (m.2.2.1),vI (m.2.2.2.1),vU (m.2.2.2.2)],vP M,vP N]) (λaz=>CQ U s G R p4 g a2 aq m az=some r) (λaz V=>Value.tuple #[]) (λaz V=>[Ar cJ V.1 (([]:Mo)++([(m.1,m.2.1,m.2.2.1,m.2.2.2.1,m.2.2.2.2)])),IP bX V.2.2.1 V.2.2.2 az,Ar cQ.raw V.2.1 V.2.2.1,bY aP [vI (m.1),vI (m.2.1),vI (m.2.2.1),vI (m.2.2.2.1),vU (m.2.2.2.2)] 47,Ar cQ.raw ad.1 ad.2,jZ bX ad.2 a2,bY aD Qr 72,bY aC Qr 72,bY a4 [vP a.1,a.2.1,vI (R),vU (g.1),Value.func (.func 48) #[] #[vP M,vP N]] 92,bY a1 Qr 72,bY ap [v7] 25,bY ao [vP a.1,a.2.1,vI (R),vU (g.1),Value.func (.func 48) #[] #[vP M,vP N]] 92,Ar oZ a.2.1 g.2.1,bY a.1 [vS (s.1),u,v,vP a.2.2.1,a.2.2.2.1] 106,Ar cQ.raw a.2.2.2.1 a.2.2.2.2.1,jZ b_ a.2.2.2.2.1 g.2.2.1,bY a.2.2.1 [vS (s.1),u,v,E,D,vI (g.2.2.2.1),a.2.2.2.2.2.1] 134,Ar cQ.raw a.2.2.2.2.2.1 a.2.2.2.2.2.2,jZ bX a.2.2.2.2.2.2 g.2.2.2.2,bY N [V.1] 35,bY M [V.2.1] 34]) (λaz V=>[Sl aR u s.2.1,Sl aJ v s.2.2,PF (Value.agg #[vS s.1,u,v]),Sl bO E G.1,S2 bA D z4 G.2,S2 bO v5 z6 p3,Sl yZ v7 p4,Gb 0 (cellsOf HY w_)]) (Hj (us:=[ad.1,vU (dM .u32 aq g.1),Value.agg #[vI (m.1),vI (m.2.1),vI (m.2.2.1),vI (m.2.2.2.1),vU (m.2.2.2.2)]]) (cs:=[vP M,vP N]) (show aU Tryz.prog 48 from Tryz.call48) Z Z Z) Tryz.func48 Z Tryz.ntmps48 Z Z ?_ ?_
   ·refine aW<|aH (aN.box (cs:=[vI (m.1),vI (m.2.1),vI (m.2.2.1),vI (m.2.2.2.1),vU (m.2.2.2.2)]) Z Z) Z λc6=>aM<|aK ?_;refine JR.start [0,0,2,6,15,31] 4 mixedOrders (by decide +kernel) ?_;refine JR.open (by exact rfl) ?_;refine jO 19 Z<|bH Z<|fU h λbk cM h=>JR.loud Z Z Z (aN.callQ MX (yI U ad.1 (List.zip ad.2 a2) bk cM) Z (aG.cons (bV (i:=2) (j:=3) Z Z dC) .nil)) Z (λan=>(vY [([21],[])] Z)) λan=>cZ (Know.one (aF.sl (bV (i:=0) (j:=1) Z Z dC))) λba=>JR.stp (Aq bX)<|JR.stp (S_ 1 2 Z Z Z)<|JR.stp (Jv 0 1 Z Z Z) ?_;refine JR.loud Z Z Z (cA (e:=cQ.raw) (([]:fT)++[an.1]) [(0,an.1)] Z Z Z Z (nT (an.1) ba) Z Z (by simp[cellsOf,cQ.raw,ba])) Z (λct=>(vY [([21],[])] Z)) λct=>?_;refine bQ 4 Z Z<|jL (iK cQ.raw) (jL (Aq bX) ?_);refine cF (pA 0 Z) λa7=>cF (pA 3 Z) λa8=>dB h λbd h=>jL (Jw 0 3 Z Z Z) ?_;refine aH (aN.append 1 2 Z Z Z Z Z Z Z (by have q:=bd;have q1:=a7;have q2:=a8;(try simp only[List.length_cons,List.length_nil,List.length_append]at q q1 q2 ⊢);omega) (by have q:=bd;have q1:=a7;have q2:=a8;(try simp only[List.length_cons,List.length_nil,List.length_append]at q q1 q2 ⊢);omega) Z) Z λcu=>?_;refine cF (Jr 1 Z) λbG=>iB 22 Z Z bG Z Z Z<|aM<|aS<|dN 21 Z<|eQ 3 Z<|aH (cA (e:=cJ) ([((m.1,m.2.1,m.2.2.1,m.2.2.2.1,m.2.2.2.2))]) [(0,Value.agg #[vI (m.1),vI (m.2.1),vI (m.2.2.1),vI (m.2.2.2.1),vU (m.2.2.2.2)])] Z Z Z Z (O_ (vI (m.1)) (vI (m.2.1)) (vI (m.2.2.1)) (vI (m.2.2.2.1)) (vU (m.2.2.2.2))) Z Z Z) Z λdd=>jL (iK cJ)<|dB h λci h=>aH (eW 0 jK Z Z Z (bF (aF.res 1 Z) jK) Z Z Z Z ci Z) Z λcv=>cF (Know.one ((bF (aF.res 0 Z) jK))) λbI=>iB 23 Z Z bI Z Z Z<|eM ?_;exact tA (([]:zT)++(([]:zT)++[bk])) (cv,cu,(([]:fT)++(([]:fT)++[an.1])),(([]:List (List Value))++(([]:List (List Value))++[an.2]))) h (.inr Z) (He.r0 Z) Z (aZ.ix [0,2,3,6,7,8,9,10,11,12,13,14,16,17,18,19,20,21,22,23,24] Z Z) (aG.refl _ _)
   intro az V h;refine aM<|aW<|bW Z<|dN 6 Z<|aA Z<|aH (cA (e:=oZ) ([(dM .u32 aq g.1)]) [(0,vU (dM .u32 aq g.1))] Z Z Z Z (nT (vU (dM .u32 aq g.1)) Z) Z Z Z) Z λdj=>jL (iK oZ)<|dB h λce h=>aH (eW 0 uV Z Z Z (bF (aF.res 1 Z) uV) Z Z Z Z ce Z) Z λcm=>bW Z<|cF (Know.one ((bF (aF.res 0 Z) uV))) λbr=>iB 8 Z Z br Z Z Z<|aM<|aK<|ER (B:=Value×List Value×Value×Value×Value×Value×List Value×List (List Value)) (λn=>wT  n=some r) (λn p=>[(1,p.1),(8,vP aC),(10,vP aD),(12,vP aP)]) (λn p=>[Ar oZ p.2.2.2.1 n.1,Ar cJ p.2.2.2.2.1 n.2.2.2.2.2.2.2.2.1,IP bX p.2.2.2.2.2.2.1 p.2.2.2.2.2.2.2 n.2.2.2.2.2.2.2.2.2,Ar cQ.raw p.2.2.2.2.2.1 p.2.2.2.2.2.2.1,bY aP [vI (n.2.1),vI (n.2.2.1),vI (n.2.2.2.1),vI (n.2.2.2.2.1),vU (n.2.2.2.2.2.1)] 47,Ar cQ.raw p.1 p.2.1,jZ bX p.2.1 n.2.2.2.2.2.2.1,bY aD [p.2.2.1,p.2.2.2.1,lH,vI (0:Int),vI (0:Int),vI (0:Int),vI (0:Int),vU (0:Int)] 72,bY aC Qr 72,bY a1 Qr 72,bY N [p.2.2.2.2.1] 35,bY M [p.2.2.2.2.2.1] 34,Ar oZ p.2.2.1 n.2.2.2.2.2.2.2.1]) ?_ ?_
   ·refine aW<|aA Z<|aA Z<|aM<|aT<|jL (iK oZ)<|eV (B:=Value×List Value×Value×Value×Value×Value×List Value×List (List Value)) (sS U s G R p4 g) (λb d=>[(1,d.1),(3,Value.func (.func 79) #[] #[vP ao,vP ap]),(4,vP a4),(8,vP aC),(10,vP aD),(11,vU (b.1)),(12,vP aP),(39,vI (List.length p4:Int)),(40,vI (b.2.2.1))]) (λb d=>[Ar oZ d.2.2.2.1 b.2.1,Ar cJ d.2.2.2.2.1 b.2.2.2.2.2.2.2.2.2.2.1,IP bX d.2.2.2.2.2.2.1 d.2.2.2.2.2.2.2 b.2.2.2.2.2.2.2.2.2.2.2,Ar cQ.raw d.2.2.2.2.2.1 d.2.2.2.2.2.2.1,bY aP [vI (b.2.2.2.1),vI (b.2.2.2.2.1),vI (b.2.2.2.2.2.1),vI (b.2.2.2.2.2.2.1),vU (b.2.2.2.2.2.2.2.1)] 47,Ar cQ.raw d.1 d.2.1,jZ bX d.2.1 b.2.2.2.2.2.2.2.2.1,bY aD [d.2.2.1,d.2.2.2.1,lH,vI (0:Int),vI (0:Int),vI (0:Int),vI (0:Int),vU (0:Int)] 72,bY aC Qr 72,bY a4 [vP a.1,a.2.1,vI (R),vU (g.1),Value.func (.func 48) #[] #[vP M,vP N]] 92,bY a1 Qr 72,bY ap [v7] 25,bY ao [vP a.1,a.2.1,vI (R),vU (g.1),Value.func (.func 48) #[] #[vP M,vP N]] 92,Ar oZ a.2.1 g.2.1,bY a.1 [vS (s.1),u,v,vP a.2.2.1,a.2.2.2.1] 106,Ar cQ.raw a.2.2.2.1 a.2.2.2.2.1,jZ b_ a.2.2.2.2.1 g.2.2.1,bY a.2.2.1 [vS (s.1),u,v,E,D,vI (g.2.2.2.1),a.2.2.2.2.2.1] 134,Ar cQ.raw a.2.2.2.2.2.1 a.2.2.2.2.2.2,jZ bX a.2.2.2.2.2.2 g.2.2.2.2,bY N [d.2.2.2.2.1] 35,bY M [d.2.2.2.2.2.1] 34,Ar oZ d.2.2.1 b.2.2.2.2.2.2.2.2.2.1]) ((dM .u32 aq g.1),(([]:aO)++([(dM .u32 aq g.1)])),(0:Int),m.1,m.2.1,m.2.2.1,m.2.2.2.1,m.2.2.2.2,a2,([]:aO),(([]:Mo)++([(m.1,m.2.1,m.2.2.1,m.2.2.2.1,m.2.2.2.2)])),az) (ad.1,ad.2,(lH),cm,V.1,V.2.1,V.2.2.1,V.2.2.2) h SF (aZ.ix [1,3,4,5,6,7,8,9,10,11,12,13,14,15,16,17,18,19,20,21,22,23,0] Z Z) ?_;intro bg b d h;refine aW<|cY Z<|aM<|aK ?_;refine fJ h Z (λh=>?_) λh=>?_
    ·refine cU<|aK<|aT<|aW<|aA Z<|aE Z<|aM<|aW<|aA Z<|aA Z<|aA Z<|Bu (A:=Int) (B:=Unit) (vs:=[vI (b.2.2.1),vU (b.1),vP ao,vP ap]) (λO=>CR U s G R g b (bL (sS U s G R p4 g) bg) O=some r) (λO a3=>Value.tuple #[vU (O),vB (decide (b.1≠(0:Int)))]) (λO a3=>[Ar oZ d.2.2.2.1 b.2.1,Ar cJ d.2.2.2.2.1 b.2.2.2.2.2.2.2.2.2.2.1,IP bX d.2.2.2.2.2.2.1 d.2.2.2.2.2.2.2 b.2.2.2.2.2.2.2.2.2.2.2,Ar cQ.raw d.2.2.2.2.2.1 d.2.2.2.2.2.2.1,bY aP [vI (b.2.2.2.1),vI (b.2.2.2.2.1),vI (b.2.2.2.2.2.1),vI (b.2.2.2.2.2.2.1),vU (b.2.2.2.2.2.2.2.1)] 47,Ar cQ.raw d.1 d.2.1,jZ bX d.2.1 b.2.2.2.2.2.2.2.2.1,bY aD [d.2.2.1,d.2.2.2.1,lH,vI (0:Int),vI (0:Int),vI (0:Int),vI (0:Int),vU (0:Int)] 72,bY aC Qr 72,bY a4 [vP a.1,a.2.1,vI (R),vU (g.1),Value.func (.func 48) #[] #[vP M,vP N]] 92,bY a1 Qr 72,bY ap [v7] 25,bY ao [vP a.1,a.2.1,vI (R),vU (g.1),Value.func (.func 48) #[] #[vP M,vP N]] 92,Ar oZ a.2.1 g.2.1,bY a.1 [vS (s.1),u,v,vP a.2.2.1,a.2.2.2.1] 106,Ar cQ.raw a.2.2.2.1 a.2.2.2.2.1,jZ b_ a.2.2.2.2.1 g.2.2.1,bY a.2.2.1 [vS (s.1),u,v,E,D,vI (g.2.2.2.1),a.2.2.2.2.2.1] 134,Ar cQ.raw a.2.2.2.2.2.1 a.2.2.2.2.2.2,jZ bX a.2.2.2.2.2.2 g.2.2.2.2,bY N [d.2.2.2.2.1] 35,bY M [d.2.2.2.2.2.1] 34,Ar oZ d.2.2.1 b.2.2.2.2.2.2.2.2.2.1]) (λO a3=>[Sl aR u s.2.1,Sl aJ v s.2.2,PF (Value.agg #[vS s.1,u,v]),Sl bO E G.1,S2 bA D z4 G.2,S2 bO v5 z6 p3,Sl yZ v7 p4,Gb 0 (cellsOf HY w_)]) (Hj (us:=[vI (b.2.2.1),vU (b.1)]) (cs:=[vP ao,vP ap]) (show aU Tryz.prog 79 from Tryz.call79) Z Z Z) Tryz.func79 Z Tryz.ntmps79 Z Z ?_ ?_
     ·refine aW<|aE Z<|aE Z<|aM<|aK ?_;refine JR.start [0,1,0,4,0,0,0,96,224,511,0,1024,1023,8191] 13 mixedOrders (by decide +kernel) ?_;refine JR.open (by exact rfl) ?_;refine dD Z<|jO 12 Z<|dD Z<|jO 12 Z<|bH Z<|jO 11 Z<|bH Z<|dB h λbc h=>bK Z .nil (lE 6 Z) (bB Z Z (aF.fact 0 Z) Z Z bc) aL.z<|bK Z .nil (lE 6 Z) (bS Z (aF.fact 0 Z) Z Z Z Hp bc) aL.z<|fU h λbj cI h=>JR.loud Z Z Z (aN.callQ Xe (wX U a.2.1 bj cI) Z (aG.cons (bF (aF.res 13 Z) uV) (oO [7] Z))) Z (λcV=>(vY [] Z)) λcV=>iX Z (fH Z)<|iX Z (Dg Z Z)<|iX Z (mE Z)<|bQ 13 Z Z<|aE Z<|aM<|aV ?_;exact tA (bj) () h (.inl Z) (He.r2 Z (RV.tmp Z) (RV.tmp Z)) Z (aZ.refl _) (aG.refl _ _)
     intro O a3 h;refine aA Z<|iS Z<|iS Z<|aE Z<|aE Z<|aM<|aK<|aW<|aA Z<|aB (acX Z) Z<|aM ?_;refine fJ h Z (λh=>?_) λh=>?_
     ·refine s_<|fW<|ZP Z<|fW<|fW<|zO<|zU ?_;exact cK (b.2.1,b.2.2.2.1,b.2.2.2.2.1,b.2.2.2.2.2.1,b.2.2.2.2.2.2.1,b.2.2.2.2.2.2.2.1,b.2.2.2.2.2.2.2.2.1,b.2.2.2.2.2.2.2.2.2.1,b.2.2.2.2.2.2.2.2.2.2.1,b.2.2.2.2.2.2.2.2.2.2.2) (d.1,d.2.1,d.2.2.1,d.2.2.2.1,d.2.2.2.2.1,d.2.2.2.2.2.1,d.2.2.2.2.2.2.1,d.2.2.2.2.2.2.2) h SF (aZ.ix [0,1,2,3,4,5,6,7,8,10,20,21,22] Z Z) (aG.refl _ _)
     refine cU<|aK<|aW<|bW Z<|dN 9 Z<|bW Z<|dN 9 Z<|aA Z<|aA Z<|fU h λcl cx h=>aH (aN.callQ Tk (wW U a.2.1 cl cx) Z (aG.cons (bF (aF.res 13 Z) uV) (oO [7] Z))) Z λdf=>aB (tK Z) Z<|aM ?_;refine BM h Z (λ_ h=>?_) λ_ h=>?_
     ·refine aW ?_;refine aB (MM (r:=Value.agg #[lH,lH,lH,vI (0:Int),vI (0:Int),vI (0:Int),vI (0:Int),vU (0:Int)]) (by intro w;simp[Instr.build,Instr.fill,eX,dY,dH,eY,eZ,dZ,gK])) Z ?_;refine bT 8 (vs:=Qr) Z Z Z Z Z Z<|aE Z<|aM<|aV<|aI<|bP<|aI<|aI<|bP<|aI<|jL (iK oZ)<|jL (iK oZ)<|jL (iK cQ.raw) (jL (Dz bX) ?_);exact tA (b.2.2.2.2.2.2.2.2.2.2.1,b.2.2.2.2.2.2.2.2.2.2.2,([]:aO),([]:aO),([]:bE),(0:Int),(0:Int),(0:Int),(0:Int),(0:Int),(11:Int)) (d.2.2.2.2.1,d.2.2.2.2.2.1,d.2.2.2.2.2.2.1,d.2.2.2.2.2.2.2,(lH),(lH),(lH),([]:fT)) h (.inl Z) (He.r2 Z (RV.cell 12 Z Z Z Z) (RV.tmp Z)) Z (aZ.ix [5,6,7,14,24,25,2,3,1,0] Z Z) (aG.refl _ _)
     refine cU<|aW<|bW Z<|dN 9 Z<|aA Z<|aA Z<|fU h λal cy h=>aH (aN.callQ aan (Ej U a.1 u v a.2.2.1 u v E D z4 a.2.2.2.2.2.1 (List.zip a.2.2.2.2.2.2 g.2.2.2.2) a.2.2.2.1 (List.zip a.2.2.2.2.1 g.2.2.1) d.1 (List.zip d.2.1 b.2.2.2.2.2.2.2.2.1) al cy) Z (aG.cons (aF.res 14 Z) (aG.cons (aF.fact 0 Z) (aG.cons (aF.fact 1 Z) (aG.cons (aF.res 17 Z) (aG.cons (aF.fact 0 Z) (aG.cons (aF.fact 1 Z) (aG.cons (aF.fact 3 Z) (aG.cons (aF.fact 4 Z) (aG.cons (bV (i:=18) (j:=19) Z Z dC) (aG.cons (bV (i:=15) (j:=16) Z Z bU) (aG.cons (bV (i:=5) (j:=6) Z Z dC) .nil)))))))))))) Z λQ=>aE Z<|aM<|aK ?_;refine JR.start [0,1,0,7,0,16,63,127] 6 mixedOrders (by decide +kernel) ?_;refine JR.open (by exact rfl) ?_;refine dD Z<|jO 11 Z<|bH Z<|fU h λW cz h=>JR.loud Z Z Z (aN.callQ WY (vQ U a.1 u v a.2.2.1 u v E D z4 a.2.2.2.2.2.1 (List.zip a.2.2.2.2.2.2 g.2.2.2.2) a.2.2.2.1 (List.zip a.2.2.2.2.1 g.2.2.1) Q.1 (List.zip Q.2 al) W cz) Z (aG.cons (aF.res 16 Z) (aG.cons (aF.fact 0 Z) (aG.cons (aF.fact 1 Z) (aG.cons (aF.res 19 Z) (aG.cons (aF.fact 0 Z) (aG.cons (aF.fact 1 Z) (aG.cons (aF.fact 3 Z) (aG.cons (aF.fact 4 Z) (aG.cons (bV (i:=20) (j:=21) Z Z dC) (aG.cons (bV (i:=17) (j:=18) Z Z bU) (aG.cons (bV (i:=0) (j:=1) Z Z dC) .nil)))))))))))) Z (λcT=>(vY [] Z)) λcT=>iX Z (eN Z Z Z Z Z)<|bK Z (aZ.cons 11 Z .nil) .nil (gE 0 Z Z Z Z Z) (aL.h (aZ.ix [11] Z Z) .nil aL.z)<|bQ 6 Z Z<|zQ Z<|aE Z<|aM<|aW<|eQ 6 Z<|aA Z<|aA Z<|fU h λf cD h=>aH (aN.callQ aao (Lh U  f cD) Z .nil) Z λdg=>aA Z<|iS Z<|iS Z<|bT 6 (vs:=[vI (f.1.1),vI (f.1.2.1),vI (f.1.2.2.1),vI (f.1.2.2.2.1),vU (f.1.2.2.2.2)]) Z Z Z Z Z Z<|aM<|aW<|bW Z<|dN 11 Z<|aA Z<|aA Z<|eQ 6 Z<|Bu (A:=zT) (B:=Value×Value×List Value×List (List Value)) (vs:=[Q.1,vU (dM .u32 W g.1),Value.agg #[vI (f.1.1),vI (f.1.2.1),vI (f.1.2.2.1),vI (f.1.2.2.2.1),vU (f.1.2.2.2.2)],vP M,vP N]) (λac=>CS g b (bL (sS U s G R p4 g) bg) O al W f ac=some r) (λac H=>Value.tuple #[]) (λac H=>[Ar cQ.raw Q.1 Q.2,jZ bX Q.2 al,Ar oZ d.2.2.2.1 b.2.1,Ar cJ H.1 (b.2.2.2.2.2.2.2.2.2.2.1++([(f.1.1,f.1.2.1,f.1.2.2.1,f.1.2.2.2.1,f.1.2.2.2.2)])),IP bX H.2.2.1 H.2.2.2 ac,Ar cQ.raw H.2.1 H.2.2.1,bY aP [vI (f.1.1),vI (f.1.2.1),vI (f.1.2.2.1),vI (f.1.2.2.2.1),vU (f.1.2.2.2.2)] 47,bY aD [d.2.2.1,d.2.2.2.1,lH,vI (0:Int),vI (0:Int),vI (0:Int),vI (0:Int),vU (0:Int)] 72,bY aC Qr 72,bY a4 [vP a.1,a.2.1,vI (R),vU (g.1),Value.func (.func 48) #[] #[vP M,vP N]] 92,bY a1 Qr 72,bY ap [v7] 25,bY ao [vP a.1,a.2.1,vI (R),vU (g.1),Value.func (.func 48) #[] #[vP M,vP N]] 92,Ar oZ a.2.1 g.2.1,bY a.1 [vS (s.1),u,v,vP a.2.2.1,a.2.2.2.1] 106,Ar cQ.raw a.2.2.2.1 a.2.2.2.2.1,jZ b_ a.2.2.2.2.1 g.2.2.1,bY a.2.2.1 [vS (s.1),u,v,E,D,vI (g.2.2.2.1),a.2.2.2.2.2.1] 134,Ar cQ.raw a.2.2.2.2.2.1 a.2.2.2.2.2.2,jZ bX a.2.2.2.2.2.2 g.2.2.2.2,bY N [H.1] 35,bY M [H.2.1] 34,Ar oZ d.2.2.1 b.2.2.2.2.2.2.2.2.2.1]) (λac H=>[Sl aR u s.2.1,Sl aJ v s.2.2,PF (Value.agg #[vS s.1,u,v]),Sl bO E G.1,S2 bA D z4 G.2,S2 bO v5 z6 p3,Sl yZ v7 p4,Gb 0 (cellsOf HY w_)]) (Hj (us:=[Q.1,vU (dM .u32 W g.1),Value.agg #[vI (f.1.1),vI (f.1.2.1),vI (f.1.2.2.1),vI (f.1.2.2.2.1),vU (f.1.2.2.2.2)]]) (cs:=[vP M,vP N]) (show aU Tryz.prog 48 from Tryz.call48) Z Z Z) Tryz.func48 Z Tryz.ntmps48 Z Z ?_ ?_
     ·refine aW<|aH (aN.box (cs:=[vI (f.1.1),vI (f.1.2.1),vI (f.1.2.2.1),vI (f.1.2.2.2.1),vU (f.1.2.2.2.2)]) Z Z) Z λc5=>aM<|aK ?_;refine JR.start [0,0,2,6,15,31] 4 mixedOrders (by decide +kernel) ?_;refine JR.open (by exact rfl) ?_;refine jO 24 Z<|bH Z<|fU h λbi cH h=>JR.loud Z Z Z (aN.callQ MX (yI U Q.1 (List.zip Q.2 al) bi cH) Z (aG.cons (bV (i:=1) (j:=2) Z Z dC) .nil)) Z (λam=>(vY [([26],[])] Z)) λam=>cZ (Know.one (aF.sl (bV (i:=0) (j:=1) Z Z dC))) λa9=>JR.stp (Aq bX)<|JR.stp (S_ 1 2 Z Z Z)<|JR.stp (Jv 0 1 Z Z Z) ?_;refine JR.loud Z Z Z (cA (e:=cQ.raw) (([]:fT)++[am.1]) [(0,am.1)] Z Z Z Z (nT (am.1) a9) Z Z (by simp[cellsOf,cQ.raw,a9])) Z (λcp=>(vY [([26],[])] Z)) λcp=>?_;refine bQ 4 Z Z<|cF (pA 7 Z) λa5=>cF (pA 1 Z) λa6=>dB h λbb h=>jL (Jw 7 1 Z Z Z) ?_;refine aH (aN.append 7 0 Z Z Z Z Z Z Z (by have q:=bb;have q1:=a5;have q2:=a6;(try simp only[List.length_cons,List.length_nil,List.length_append]at q q1 q2 ⊢);omega) (by have q:=bb;have q1:=a5;have q2:=a6;(try simp only[List.length_cons,List.length_nil,List.length_append]at q q1 q2 ⊢);omega) Z) Z λcq=>?_;refine cF (Jr 7 Z) λbC=>iB 25 Z Z bC Z Z Z<|aM<|aS<|dN 24 Z<|eQ 1 Z<|aH (cA (e:=cJ) ([((f.1.1,f.1.2.1,f.1.2.2.1,f.1.2.2.2.1,f.1.2.2.2.2))]) [(0,Value.agg #[vI (f.1.1),vI (f.1.2.1),vI (f.1.2.2.1),vI (f.1.2.2.2.1),vU (f.1.2.2.2.2)])] Z Z Z Z (O_ (vI (f.1.1)) (vI (f.1.2.1)) (vI (f.1.2.2.1)) (vI (f.1.2.2.2.1)) (vU (f.1.2.2.2.2))) Z Z Z) Z λdc=>dB h λch h=>aH (eW 6 jK Z Z Z (bF (aF.res 0 Z) jK) Z Z Z Z ch Z) Z λcr=>cF (Know.one ((bF (aF.res 6 Z) jK))) λbD=>iB 25 Z Z bD Z Z Z<|eM ?_;exact tA (b.2.2.2.2.2.2.2.2.2.2.2++(([]:zT)++[bi])) (cr,cq,(d.2.2.2.2.2.2.1++(([]:fT)++[am.1])),(d.2.2.2.2.2.2.2++(([]:List (List Value))++[am.2]))) h (.inr Z) (He.r0 Z) Z (aZ.ix [3,4,5,6,7,8,9,12,13,14,15,16,17,18,19,20,21,22,23,24,25,26,27] Z Z) (aG.refl _ _)
     intro ac H h;refine aM<|aW<|bW Z<|dN 7 Z<|aA Z<|aH (cA (e:=oZ) ([O]) [(0,vU (O))] Z Z Z Z (nT (vU (O)) Z) Z Z Z) Z λda=>dB h λcf h=>aH (eW 23 uV Z Z Z (bF (aF.res 0 Z) uV) Z Z Z Z cf Z) Z λcn=>bW Z<|cF (Know.one ((bF (aF.res 23 Z) uV))) λbx=>iB 8 Z Z bx Z Z Z<|aM<|aS<|bW Z<|dN 8 Z<|aA Z<|aH (cA (e:=oZ) ([(dM .u32 W g.1)]) [(0,vU (dM .u32 W g.1))] Z Z Z Z (nT (vU (dM .u32 W g.1)) Z) Z Z Z) Z λdb=>dB h λcg h=>aH (eW 4 uV Z Z Z (bF (aF.res 0 Z) uV) Z Z Z Z cg Z) Z λco=>bW Z<|cF (Know.one ((bF (aF.res 4 Z) uV))) λbz=>iB 9 Z Z bz Z Z Z<|eM<|oD<|aS<|cL Z<|aA Z<|aM ?_;exact nR ((dM .u32 W g.1),(b.2.1++([(dM .u32 W g.1)])),(wI .i64 (b.2.2.1+(1:Int))),f.1.1,f.1.2.1,f.1.2.2.1,f.1.2.2.2.1,f.1.2.2.2.2,al,(b.2.2.2.2.2.2.2.2.2.1++[O]),(b.2.2.2.2.2.2.2.2.2.2.1++([(f.1.1,f.1.2.1,f.1.2.2.1,f.1.2.2.2.1,f.1.2.2.2.2)])),ac) (Q.1,Q.2,cn,co,H.1,H.2.1,H.2.2.1,H.2.2.2) h SF (aZ.ix [4,5,6,7,8,2,3,9,10,11,12,13,14,15,16,17,18,19,20,21,22,23,24] Z Z) (aG.refl _ _)
    refine fV ?_;exact cK (b.2.1,b.2.2.2.1,b.2.2.2.2.1,b.2.2.2.2.2.1,b.2.2.2.2.2.2.1,b.2.2.2.2.2.2.2.1,b.2.2.2.2.2.2.2.2.1,b.2.2.2.2.2.2.2.2.2.1,b.2.2.2.2.2.2.2.2.2.2.1,b.2.2.2.2.2.2.2.2.2.2.2) (d.1,d.2.1,d.2.2.1,d.2.2.2.1,d.2.2.2.2.1,d.2.2.2.2.2.1,d.2.2.2.2.2.2.1,d.2.2.2.2.2.2.2) h SF (aZ.ix [0,1,2,3,4,5,6,7,8,10,20,21,22] Z Z) (aG.refl _ _)
   intro n p h;unfold wT at h;refine aK ?_;refine JR.start [0,0,1,5,15,31] 4 mixedOrders (by decide +kernel) ?_;refine JR.open (by exact rfl) ?_;refine bH Z<|nU 4 Z<|dD Z<|cZ (Know.one (aF.sl (bV (i:=5) (j:=6) Z Z dC))) λbs=>Dv Z Z Z (Oe 7 Z Z bs Z Z Z) (λcS=>(vY [([4],[])] Z)) λcS=>bQ 4 Z Z<|bW Z<|SV (Js 7 (us:=[vI (n.2.1),vI (n.2.2.1),vI (n.2.2.2.1),vI (n.2.2.2.2.1),vU (n.2.2.2.2.2.1)]) Z Z Z Z Z Z Z Z Z) λde=>aM<|aW<|eQ 7 Z<|cF (Know.one ((bF (aF.res 12 Z) uV))) λbt=>cF (Know.one ((bF (aF.res 0 Z) uV))) λbu=>cF (Know.one (aF.sl (bV (i:=5) (j:=6) Z Z dC))) λbw=>bT 8 (vs:=[p.2.2.1,p.2.2.2.1,p.1,vI (n.2.1),vI (n.2.2.1),vI (n.2.2.2.1),vI (n.2.2.2.2.1),vU (n.2.2.2.2.2.1)]) Z Z (kW bt (kW bu (kW bw (kW Z (kW Z (kW Z (kW Z (kW Z Z)))))))) Z Z Z<|aE Z<|aM<|aV ?_;exact tA (n.2.2.2.2.2.2.2.2.1,n.2.2.2.2.2.2.2.2.2,n.2.2.2.2.2.2.2.1,n.1,n.2.2.2.2.2.2.1,n.2.1,n.2.2.1,n.2.2.2.1,n.2.2.2.2.1,n.2.2.2.2.2.1,(0:Int)) (p.2.2.2.2.1,p.2.2.2.2.2.1,p.2.2.2.2.2.2.1,p.2.2.2.2.2.2.2,p.2.2.1,p.2.2.2.1,p.1,p.2.1) h (.inl Z) (He.r2 Z (RV.cell 8 Z Z Z Z) (RV.tmp Z)) Z (aZ.ix [1,2,3,9,10,11,12,0,5,6] Z Z) (aG.refl _ _)
  intro y C h;unfold Ag at h;refine iS Z<|iS Z<|cF (Know.one ((bF (aF.res 6 Z) uV))) λcb=>cF (Know.one ((bF (aF.res 7 Z) uV))) λcc=>cF (Know.one (aF.sl (bV (i:=8) (j:=9) Z Z dC))) λcd=>bT 3 (vs:=[C.2.2.2.2.1,C.2.2.2.2.2.1,C.2.2.2.2.2.2.1,vI (y.2.2.2.2.2.1),vI (y.2.2.2.2.2.2.1),vI (y.2.2.2.2.2.2.2.1),vI (y.2.2.2.2.2.2.2.2.1),vU (y.2.2.2.2.2.2.2.2.2.1)]) Z Z (kW cb (kW cc (kW cd (kW Z (kW Z (kW Z (kW Z (kW Z Z)))))))) Z Z Z<|aE Z<|aM<|aV ?_;exact tA (y.2.2.2.2.2.1,y.2.2.2.2.2.2.1,y.2.2.2.2.2.2.2.1,y.2.2.2.2.2.2.2.2.1,y.2.2.2.2.2.2.2.2.2.1,y.2.2.2.2.2.2.2.2.2.2,y.2.2.1,y.2.2.2.1,y.2.2.2.2.1,y.1,y.2.1) (C.2.2.2.2.1,C.2.2.2.2.2.1,C.2.2.2.2.2.2.1,C.1,C.2.1,C.2.2.2.2.2.2.2,C.2.2.1,C.2.2.2.1) h (.inl Z) (He.r2 Z (RV.cell 3 Z Z Z Z) (RV.tmp Z)) Z (aZ.ix [0,1,2,4,5,6,7,8,9] Z Z) (aG.refl _ _)
 intro J F h;refine aA Z<|iS Z<|iS Z<|aH (aN.alloc (cs:=Qr) Z Z) Z λdi=>cF (Know.one ((bF (aF.res 6 Z) uV))) λb5=>cF (Know.one ((bF (aF.res 7 Z) uV))) λb6=>cF (Know.one (aF.sl (bV (i:=8) (j:=9) Z Z dC))) λb9=>bT 0 (vs:=[F.1,F.2.1,F.2.2.1,vI (J.1),vI (J.2.1),vI (J.2.2.1),vI (J.2.2.2.1),vU (J.2.2.2.2.1)]) Z Z (kW b5 (kW b6 (kW b9 (kW Z (kW Z (kW Z (kW Z (kW Z Z)))))))) Z Z Z<|aE Z<|aM<|aW<|aA Z<|qO Z<|aM ?_;refine fJ h Z (λh=>?_) λh=>?_
 ·refine aW<|aA Z<|aE Z<|aE Z<|aE Z<|aM<|aV<|aI<|jL (iK cQ.raw) (jL (Aq bX) ?_);refine jL (iK cJ) ?_;cases h;exact IM ((lH),([]:fT),([]:List (List Value)),(lH)) Z Z (RV.tmp Z) (RV.tmp Z) (RV.tmp Z) (aZ.ix [2,1,0] Z Z) aG.nil
 refine cU<|aK ?_;refine JR.start [0,0,1,7,15] 3 mixedOrders (by decide +kernel) ?_;refine JR.open (by exact rfl) ?_;refine jO 5 Z<|jO 4 Z<|iX Z (mE Z)<|bQ 3 Z Z<|aE Z<|aE Z<|aM<|aV ?_;cases h;exact IM (F.2.2.2.2.1,F.2.2.2.2.2.2.1,F.2.2.2.2.2.2.2,F.2.2.2.1) Z Z (RV.tmp Z) (RV.tmp Z) (RV.tmp Z) (aZ.ix [3,2,1] Z Z) aG.nil
end Go.Proofs.YtlkhndebimcbbaaGreatDoor
namespace Go.Proofs.YtlkhndebimcbbaaGreatDoor
open Go Go.Sx
theorem VN {g:GR} (e:VG g) (p:sF) (b:Int) (c:bE) (o:aO):
  bL (n_ 1000 p g b c o) 1000 ((0:Int),(0:Int),(List.replicate (Int.toNat (List.length g.2:Int)) ([]:aO)))=tR 1000 p g b c o (jR g g.2.length,fI g):=by
 have z:=e.n24;have s:=e.len;let f:Nat->aO:=λv=>(List.range (row g v).length).map (Dh g v);let Q:Nat->bE:=λk=>(List.range k).map f++List.replicate (g.2.length - k) [];have q:∀k,k<=g.2.length->(Q k).length=g.2.length:=λk i=>by simp[Q];omega
 rw[show List.replicate (Int.toNat (List.length g.2:Int)) ([]:aO)=Q 0 by simp[Q]];refine dU (step:=n_ 1000 p g b c o) g.2.length (λk=>((k:Int),jR g k,Q k)) (λk d i=> ?_) (λd=> ?_) 1000 (by omega)
 ·have r:=(e.node k i).deg;have t:k<(Q k).length:=by rw[q k (by omega)];exact i
  unfold n_;dsimp only;rw[if_pos (by omega),bZ (by omega),bZ (by omega)];let a:Nat->aO:=λj=>(List.range j).map (Dh g k);have y:Q k=(Q k).set k (a 0):=by
   have:at' (Q k) (k:Int)=a 0:=by
    rw[lN t];simp[Q,a]
   rw[<-this];exact(KB (Q k) (k:Int) (by simpa using t) (by omega)).symm
  rw[show(Q k)=(Q k).set k (a 0)from y];have h:∀A:bE,A.length=g.2.length->bL (sT 1000 g ((k:Int),jR g k,(Q k).set k (a 0)) d) 1000 ((0:Int),A.set k (a 0))=d (((k+1:Nat):Int),jR g (k+1),A.set k (f k)):=by
   intro A D;refine dU (step:=sT 1000 g ((k:Int),jR g k,(Q k).set k (a 0)) d) (K:=d (((k+1:Nat):Int),jR g (k+1),A.set k (f k))) (row g k).length (λj=>((j:Int),A.set k (a j))) (λj m C=> ?_) (λm=> ?_) 1000 (by omega)
   ·obtain⟨u,w,l⟩:=e.to i C;have B:=(e.node u w).deg;have x:at' (A.set k (a j)) (k:Int)=a j:=by rw[tE _ _ _ _ (by omega),if_pos Z]
    have n:(a j).length=j:=by simp[a]
    unfold sT;dsimp only;rw[if_pos (show(j:Int)<((row g k).length:Int) by omega),bZ (show 0<=(j:Int)∧(j:Int)<((row g k).length:Int) by omega),bZ (by simp only[List.length_set];omega),show at' (at' g.2 (k:Int)) (j:Int)=fK (row g k) j from rfl,l,bG (show rT 1000 _ (u:Int) (k:Int)=_ from VH g u (k:Int) w (by omega)),x,bZ (by rw[n];simp;omega),bZ (by simp only[List.length_set];omega),fC (by omega),Int.toNat_natCast,List.set_set];have:a j++[AB (row g u) (k:Int)]=a (j+1):=by
     simp only[a];rw[List.range_succ,List.map_append,List.map_singleton,Dh,l,Int.toNat_natCast]
    rw[this]
   ·unfold sT yE;dsimp only;rw[if_neg (show¬((row g k).length:Int)<((row g k).length:Int)from Int.lt_irrefl _),fC (by omega)];rfl
  have:=h (Q k) (q k (by omega));rw[yD f [] g.2.length k i]at this;exact this
 ·unfold n_;dsimp only;rw[if_neg (by omega)];simp[Q,fI,f]
noncomputable def JL (p:sF) (vars:List De) (R:List RL) (g:GR) (kind:Int) (ws:aO) (a:bE):Nat->CT
 |0=>(0,0,0,0,dM .u32 ((pZ (aQ p g) R (eO g) a:Nat):Int) 16777215)
 |k+1=>((fX 1000 (JL p vars R g kind ws a k) ((nxt g kind (pZ (aQ p g) R (eO g) (CO p vars R g kind ws a k)) (at' ws (k:Int)):Nat):Int) ((pZ (aQ p g) R (eO g) (CO p vars R g kind ws a (k+1)):Nat):Int)).getD ((0,0,0,0,0),0)).1
theorem adO (p p':sF) (vars:List De) (R:List RL) (g:GR) (kind:Int) (ws:aO) (a:bE) (k:Nat):JL p vars R g kind ws a k=JL p' vars R g kind ws a k:=by
 induction k with
 |zero=>rfl
 |succ k b=>rw[JL,JL,b,KA p p',KA p p' vars R g kind ws a (k+1),OY p p',OY p p']
section
variable {p:sF} {g:GR} {R:List RL}
theorem ZD (hV:VG g) (hp:tB g p.2.1) (hz:p.2.2.map Aa=FB R) (hR:xU p.2.1.length R=true) {kind:Int} (hk1:1<=kind) (hk4:kind<=4) {c0:List (List Int)} (hc0:Du g c0 p.2.1) {ws:List Int} (hws:ws.length<=900) (hw:∀k:Nat,k<ws.length->∃m:Nat,at' ws (k:Int)=(m:Int)∧m<4294967296)
  (P:Nat->List (List Int)->List Nat->CT->Prop) (h0:P 0 c0 [] (0,0,0,0,dM .u32 ((pZ (aQ p g) R (eO g) c0:Nat):Int) 16777215))
  (hstep:∀k c ch cnt t cnt' err,k<ws.length->zP g p.2.1.length c->P k c ch cnt->pZ (aQ p g) R (eO g) c≠0->t≠0->(∀i,t.testBit i=true->(pZ (aQ p g) R (eO g) c).testBit i=true)->(kind<=2->∀v u,t.testBit v=true->t.testBit u=true->¬KZ g v u)->(kind=4->t=pZ (aQ p g) R (eO g) c)->CO p p.2.1 R g kind ws c0 (k+1)=g_ (aQ p g) p.2.1 R c t->
   fX 1000 cnt (t:Int) ((pZ (aQ p g) R (eO g) (g_ (aQ p g) p.2.1 R c t):Nat):Int)=some (cnt',err)->cnt'=JL p p.2.1 R g kind ws c0 (k+1)->P (k+1) (g_ (aQ p g) p.2.1 R c t) (ch++[t]) cnt'):
  ∃k c ch,vL 1000 p g kind c0 ws=some ((List.range (k+1)).map (CO p p.2.1 R g kind ws c0),(List.range (k+1)).map (JL p p.2.1 R g kind ws c0),0)∧P k c ch (JL p p.2.1 R g kind ws c0 k)∧c=CO p p.2.1 R g kind ws c0 k∧k<=ws.length∧(∀j,j<k->pZ (aQ p g) R (eO g) (CO p p.2.1 R g kind ws c0 j)≠0)∧(k=ws.length∨pZ (aQ p g) R (eO g) c=0):=by
 have h24:=hV.n24;have hvl:=hp.len;let S:=aQ p g;have hVS:VG S.2.1:=hV;obtain⟨net,hnet,hN⟩:=aez hV;have hcheck:yT 1000 p g kind c0 (ws.length:Int)=some 0:=by
  unfold yT;rw[bG (show rV 1000 _ _ c0=_ from Xj hV hp hc0),if_neg (by decide)];have:wM 1000 kind=some true:=by
   unfold wM qI;rw[if_pos hk1,decide_eq_true hk4]
  rw[bG this,if_neg (by decide),if_neg (by omega)]
 unfold vL;rw[bG (show yT 1000 _ _ kind c0 _=_ from hcheck),if_neg (by decide),bZ (by omega),VN hV p kind c0 ws];unfold tR Ai;rw[bG (show mP 1000 _ _=_ from Qj hV hp)];unfold Ah;rw[bG (show nL 1000 _=_ from hnet),bG (show yS 1000 _=some ((eO g:Nat):Int)from acY hV)];have hen:∀c,zP g p.2.1.length c->d_ 1000 (p,(p,g,jR g g.2.length,fI g),CZ g p.2.1) c=some ((enD S R c:Nat):Int):=λc hc=>RA hV hc hz hR (by simp[CZ]);have hand:∀c,dM .u32 ((enD S R c:Nat):Int) ((eO g:Nat):Int)=((pZ S R (eO g) c:Nat):Int):=λc=>DI (adT hVS R c) (aad hV);have hcopy:∀c,zP g p.2.1.length c->lX 1000 c=some c:=λc hc=>Tz c (by rw[hc.len];omega) (λv hv=>by rw[hc.row v (by rw[<-hc.len];exact hv)];omega);unfold CP;dsimp only;rw[bG (hcopy c0 hc0.shape),bG (show d_ 1000 _ c0=_ from hen c0 hc0.shape),hand,bG (show uI 1000 _=some (0,0,0,0,dM .u32 ((pZ S R (eO g) c0:Nat):Int) 16777215)from rfl),bG (hcopy c0 hc0.shape),bZ (by simp),bZ (by simp)];unfold CQ;dsimp only;rw[hand,bZ (by simp),List.nil_append,List.nil_append,List.nil_append,List.nil_append];let A:Int×List Int×(List (List (Int×Int)))×Int×List (List Int):=(((eO g:Nat):Int),net,CZ g p.2.1,jR g g.2.length,fI g)
 let rc:=CO p p.2.1 R g kind ws c0;let cw:=JL p p.2.1 R g kind ws c0;let T:=List (List (List Int))×List CT×Int;let QQ:T->Prop:=λr=>∃k c ch,r=((List.range (k+1)).map rc,(List.range (k+1)).map cw,0)∧P k c ch (cw k)∧c=rc k∧k<=ws.length∧(∀j,j<k->pZ S R (eO g) (rc j)≠0)∧(k=ws.length∨pZ S R (eO g) c=0)
 have fin:∀(k:Nat) (c:List (List Int)) (ch:List Nat) (ens:List Int),P k c ch (cw k)->c=rc k->k<=ws.length->(∀j,j<k->pZ S R (eO g) (rc j)≠0)->(k=ws.length∨pZ S R (eO g) c=0)->
   OK QQ (wT (ens,(cw k).1,(cw k).2.1,(cw k).2.2.1,(cw k).2.2.2.1,(cw k).2.2.2.2,c,abp ch,(List.range (k+1)).map cw,(List.range (k+1)).map rc)):=λk c ch ens a1 a2 a3 a6 a7=>⟨_,rfl,k,c,ch,rfl,a1,a2,a3,a6,a7⟩
 have key:=wG (step:=sS 1000 p g kind ws A) (Q:=QQ)
  (λx=>∃(k:Nat) (c:List (List Int)) (ch:List Nat) (ens:List Int),x=(((pZ S R (eO g) c:Nat):Int),ens,(k:Int),(cw k).1,(cw k).2.1,(cw k).2.2.1,(cw k).2.2.2.1,(cw k).2.2.2.2,c,abp ch,(List.range (k+1)).map cw,(List.range (k+1)).map rc)∧P k c ch (cw k)∧zP g p.2.1.length c∧c=rc k∧k<=ws.length∧ch.length=k∧ens.length=k+1∧∀j,j<k->pZ S R (eO g) (rc j)≠0) (λx=>ws.length - x.2.2.1.toNat) (λx ag hI hrec=>by
  obtain⟨k,c,ch,ens,rfl,b1,b2,b3,b4,b5,b6,b9⟩:=hI;unfold sS;dsimp only;by_cases hlt:k<ws.length
  rotate_left
  ·rw[if_neg (by omega)];exact fin k c ch ens b1 b3 b4 b9 (.inl (by omega))
  obtain⟨w,hwe,hw32⟩:=hw k hlt;have hin:QI g (pZ S R (eO g) c):=JP S R (eO g) c;obtain⟨t,ht,hsub,hne⟩:=Sk hV hN hk1 hk4 hin hw32;rw[if_pos (by omega),bZ (by omega),hwe,bG (show eK 1000 net kind _ _=_ from ht)];unfold CR;dsimp only;by_cases he0:pZ S R (eO g) c=0
  ·rw[if_pos (by omega)];exact fin k c ch ens b1 b3 b4 b9 (.inr he0)
  obtain⟨ht0,hperm,hk2,hk4'⟩:=hne he0;have ht32:t<4294967296:=by have:=QI.lt hV (λi hi=>hin i (hsub i hi));omega
  rw[if_neg (by omega),bG (show fQ 1000 net kind _ _=_ from hperm),if_neg (by decide)];have hst:jD 1000 (p,(p,g,jR g g.2.length,fI g),CZ g p.2.1) c (t:Int)=some (g_ S p.2.1 R c t):=abV (gr:=jR g g.2.length) hV hp b2 hz hR ht32 (λv hv=>((Nf S R (eO g) c v).1 (hsub v hv)).2.1);have hsh:zP g p.2.1.length (g_ S p.2.1 R c t):=b2.step;obtain⟨⟨cnt',err⟩,hadd⟩:=WL (cw k) ht32 ((pZ S R (eO g) (g_ S p.2.1 R c t):Nat):Int);rw[bG (show jD 1000 _ c (t:Int)=_ from hst),bG (show d_ 1000 _ _=_ from hen _ hsh),hand,bG (show fX 1000 _ (t:Int) _=_ from hadd),bG (hcopy _ hsh),bZ (by simp;omega),bZ (by simp;omega)];unfold CS;dsimp only;rw[hand,bZ (by simp[abp];omega),bZ (by simp;omega),fC (by omega)];have en:nxt g kind (pZ S R (eO g) (rc k)) (at' ws (k:Int))=t:=by
   unfold nxt;rw[bG hnet,hwe,<-b3,ht];simp
  have hr:rc (k+1)=g_ S p.2.1 R c t:=by
   show g_ S p.2.1 R (rc k) (nxt g kind (pZ S R (eO g) (rc k)) (at' ws (k:Int)))=_;rw[en,<-b3]
  obtain rfl:cnt'=cw (k+1):=by
   show cnt'=((fX 1000 (cw k) ((nxt g kind (pZ S R (eO g) (rc k)) (at' ws (k:Int)):Nat):Int) ((pZ S R (eO g) (rc (k+1)):Nat):Int)).getD ((0,0,0,0,0),0)).1;rw[en,hr,hadd];rfl
  refine hrec _ ⟨k+1,g_ S p.2.1 R c t,ch++[t],ens++[((pZ S R (eO g) (g_ S p.2.1 R c t):Nat):Int)],?_,hstep k c ch (cw k) t (cw (k+1)) err hlt b2 b1 he0 ht0 hsub hk2 hk4' hr hadd Z,hsh,hr.symm,by omega,by simp[b5],by simp[b6],λj hj=> ?_⟩ (by dsimp only;omega)
  ·rw[List.nil_append,List.range_succ (n:=k+1),List.map_append,List.map_singleton,List.map_append,List.map_singleton,hr];simp[abp]
  ·by_cases e:j<k
   ·exact b9 j e
   ·obtain rfl:j=k:=by omega
    rw[<-b3];exact he0) 1000 (((pZ S R (eO g) c0:Nat):Int),[((pZ S R (eO g) c0:Nat):Int)],(0:Int),0,0,0,0,dM .u32 ((pZ S R (eO g) c0:Nat):Int) 16777215,c0,[],[(0,0,0,0,dM .u32 ((pZ S R (eO g) c0:Nat):Int) 16777215)],[c0])
  ⟨0,c0,[],[((pZ S R (eO g) c0:Nat):Int)],rfl,h0,hc0.shape,rfl,by omega,rfl,rfl,λj hj=>by omega⟩ (by dsimp only;omega)
 obtain⟨r,hr,k,c,ch,rfl,hrest⟩:=key;exact⟨k,c,ch,hr,hrest⟩
end
theorem YU {p p':sF} {g:GR} {R:List RL} {vars:List De} {kind:Int} {ws:List Int} {b:List (List Int)} {k a:Nat}
  (l:k<=ws.length) (f:k=ws.length∨pZ (aQ p g) R (eO g) (CO p vars R g kind ws b k)=0) (h:∀j,j<k->pZ (aQ p g) R (eO g) (CO p vars R g kind ws b j)≠0)
  (i:a<=ws.length) (c:a=ws.length∨pZ (aQ p' g) R (eO g) (CO p' vars R g kind ws b a)=0) (d:∀j,j<a->pZ (aQ p' g) R (eO g) (CO p' vars R g kind ws b j)≠0):k=a:=by
 rcases Nat.lt_trichotomy k a with q|q|q
 ·have:=d k q;rw[KA p' p,OY p' p]at this;rcases f with e|e
  ·omega
  ·exact absurd e this
 ·exact q
 ·have:=h a q;rw[KA p p',OY p p']at this;rcases c with e|e
  ·omega
  ·exact absurd e this
end Go.Proofs.YtlkhndebimcbbaaGreatDoor