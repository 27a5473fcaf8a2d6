/- Models and proofs. Conditions: none. -/
import Derived.Test.YtgciopekomcbfaaGreatDoorZTMA11
import Derived.Test.YtgciopekomcbfaaGreatDoorZTMA9
import Derived.Test.YtgciopekomcbfaaGreatDoorZTMA2
import Derived.Test.YtgciopekomcbfaaGreatDoorZTMA5
import Derived.Test.YtgciopekomcbfaaGreatDoorZTMA8
set_option linter.unusedVariables false
set_option linter.unusedSimpArgs false
set_option maxHeartbeats 4000000
set_option maxRecDepth 20000
open Go.Proofs.Tryz
namespace Go.Proofs.YtgciopekomcbfaaGreatDoor
open Go Go.Sx
def ldK:E:= .bi 33 (.bi 30 (.lf 12 0) (.lf 6 0)) (.lf 12 1)
def Ze:E:= .ag 24 (.ite (.bi 37 (.bi 33 (.lf 12 1) (.lf 1 1)) (.lf 6 0)) ldK (.bi 30 (.bi 33 (.lf 7 0) (.lf 1 1)) (.lf 6 0)))
def ldI:E:= .bi 30 (.lf 8 0) (.lf 6 0)
def ldQ:E:= .bi 31 Ze (.lf 6 0)
def ldD:E:= .bi 33 (.bi 32 Ze (.lf 6 0)) (.lf 1 1)
def ldP:E:= .ag 23 (.bi 35 ldK Ze)
def guO:E:= .bi 41 (.bi 38 ldI Ze) (.bi 42 (.bi 42 (.bi 36 (.lf 5 0) (.lf 8 0)) (.bi 36 (.lf 5 1) (.lf 1 0))) (.bi 36 (.lf 5 2) (.lf 4 0)))
def guJ:E:= .bi 41 (.bi 39 ldI Ze) (.bi 42 (.bi 42 (.bi 36 (.lf 5 0) ldQ) (.bi 36 (.lf 5 1) ldD)) (.bi 36 (.lf 5 2) ldP))
def RE:List RL:=[(guO,[(0,.lf 8 0),(1,.lf 1 0),(2,.lf 4 0)]),(guJ,[(0,ldQ),(1,ldD),(2,ldP)])]
theorem QD:oP 3 RE=true:=by decide +kernel
def mH:List xF:=[(ByteArray.mk #[108,101,97,100],1,0,0,0,1),(ByteArray.mk #[100],1,0,-1,1,0),(ByteArray.mk #[112],3,0,0,0,0)]
theorem acv:∀x,x<mH.length->DK (at' mH (x:Int)):=by
 intro x a;have a:x<3:=a
 match x,a with
 |0,_=>exact⟨by decide,by decide,by decide⟩
 |1,_=>exact⟨by decide,by decide,by decide⟩
 |2,_=>exact⟨by decide,by decide,by decide⟩
theorem aff (g:GR) (v:Nat):lo g (at' mH ((0:Nat):Int)) v=0:=rfl
theorem abt (g:GR) (v:Nat):lo g (at' mH ((1:Nat):Int)) v=0:=rfl
theorem aid (g:GR) (v:Nat):lo g (at' mH ((2:Nat):Int)) v = -1:=rfl
theorem aeT (g:GR) (v:Nat):hi g (at' mH ((0:Nat):Int)) v=eO g g.1.length:=by
 show(0:Int)+0*(g.2.length:Int)+1*eO g g.1.length=_;omega
theorem aeU (g:GR) (v:Nat):hi g (at' mH ((1:Nat):Int)) v=(g.2.length:Int) - 1:=by
 show(-1:Int)+1*(g.2.length:Int)+0*eO g g.1.length=_;omega
theorem ahW (g:GR) (v:Nat):hi g (at' mH ((2:Nat):Int)) v=((row g v).length:Int) - 1:=rfl
theorem adf {g:GR} (b:VG g):lV g mH:=by
 have e:=b.n24;have f:=b.n1;have d:=b.len;have h:=sP b g.1.length (by omega);refine⟨by decide,acv,λx a=>?_,λx a c=>?_⟩
 .have a:x<3:=a
  match x,a with
  |0,_=>exact .inl Z
  |1,_=>exact .inl Z
  |2,_=>exact .inr (.inr Z)
 .have a:x<3:=a
  match x,a,c with
  |0,_,_=>rw[aff,aeT];omega
  |1,_,_=>rw[abt,aeU];omega
  |2,_,c=>exact absurd c (by decide)
theorem SN (g:GR):∀{k v:Nat},v<k->at' g.1 (v:Int)<=eO g k
 |0,v,h=>absurd h (Nat.not_lt_zero v)
 |k+1,v,h=>by
  simp only[eO];by_cases e:v=k
  .subst e;omega
  .have:=SN g (k:=k) (v:=v) (by omega);omega
theorem Tw {x:Int} (a : -1073741824<=x) (b:x<=1073741824):NE (wI .i64 x)=x:=by
 rw[wr (by omega) (by omega)];unfold NE;omega
theorem Vo {a n:Int} (c:0<=a) (d:a<=300) (b:0<=n) (e:n<=24):0<=a*n/\a*n<=7200:=
 ⟨Int.mul_nonneg c b,Int.mul_le_mul d e b (by omega)⟩
theorem Vn {a b n:Int} (h:a<b) (c:0<=n):a*n+n<=b*n:=by
 have:=Int.mul_le_mul_of_nonneg_right (show a+1<=b by omega) c;rw[Int.add_mul,Int.one_mul]at this;exact this
theorem Xl {a b:Int} (c:0<=a) (d:a<=1073741824) (g:0<b):Tm a b=a / b:=by
 unfold Tm;have e:0<=a / b:=Int.ediv_nonneg c (by omega);have f:a / b<=a:=Int.ediv_le_self b c;rw[if_neg (by omega),zA8 (show¬a<0 by omega),zA8 (show¬b<0 by omega),if_neg (by simp),Int.tdiv_eq_ediv_of_nonneg c,wr (by omega) (by omega)]
theorem ahH {a b:Int} (c:0<=a) (d:a<=1073741824) (e:0<b):biD 31 a b=a / b:=by
 show NE (Tm a b)=_;have f:0<=a / b:=Int.ediv_nonneg c (by omega);have g:a / b<=a:=Int.ediv_le_self b c;rw[Xl c d e];unfold NE;omega
theorem aii {a b:Int} (e:0<=a) (c:a<=1073741824) (d:0<b) (f:b<=1000):biD 32 a b=a%b:=by
 show(if b=0 then 0 else NE (wI .i64 (a - wI .i64 (b*Tm a b))))=_;have g:=Int.emod_nonneg a (show b≠0 by omega);have h:=zBb a d;have i:=Int.emod_def a b;rw[if_neg (by omega),Xl e c d,wr (x:=b*(a / b)) (by omega) (by omega),Tw (by omega) (by omega)];omega
theorem Ql {a d n:Int} (b:0<=d) (c:d<n):(a*n+d) / n=a:=by
 rw[Int.add_comm,Int.add_mul_ediv_right _ _ (by omega),Int.ediv_eq_zero_of_lt b c];omega
theorem WV {a d n:Int} (b:0<=d) (c:d<n):(a*n+d)%n=d:=by
 have h:=Int.emod_def (a*n+d) n;rw[Ql b c,Int.mul_comm n a]at h;omega
theorem akf (l:aW) (h:l.length=3) (x y z:Int):at' (((l.set 0 x).set 1 y).set 2 z) 0=x/\at' (((l.set 0 x).set 1 y).set 2 z) 1=y/\at' (((l.set 0 x).set 1 y).set 2 z) 2=z:=by
 match l,h with
 | [a,b,c],_=>exact⟨rfl,rfl,rfl⟩
def Zd (g:GR) (c:bE) (v i:Nat):Int:=Rc g c v i 0*(g.1.length:Int)+Rc g c v i 1
def Sq (g:GR) (c:bE) (v i:Nat):Int:=if Rc g c v i 1+1<(g.1.length:Int)then Zd g c v i else(eO g g.2.length+1)*(g.1.length:Int)
def mL (g:GR) (c:bE) (v:Nat):Int:=vE ((List.range (row g v).length).map (Sq g c v))
def yN (g:GR) (v:Nat):Int:=at' g.1 (v:Int)
def TL (g:GR) (c:bE) (v:Nat):Int×Int×Int:=
 if yN g v*(g.1.length:Int)<=mL g c v then(yN g v,0,-1)
 else(mL g c v / (g.1.length:Int),mL g c v%(g.1.length:Int)+1,jP ((List.range (row g v).length).map λi=>xG (decide (Zd g c v i=mL g c v))))
def IsT (c:bE) (v:Nat) (t:Int×Int×Int):Prop:=Fe c v 0=t.1/\Fe c v 1=t.2.1/\Fe c v 2=t.2.2
section
variable {p:tC} {g:GR} {c:V6 (V6 Int)} {v:Nat} (hV:VG g) (hc:CM g c mH) (hv:v<g.2.length)
 include hV hc
theorem Sw {u:Nat} (e:u<g.2.length):(0<=Fe c u 0/\Fe c u 0<=eO g g.2.length)/\(0<=Fe c u 1/\Fe c u 1<=(g.2.length:Int) - 1)/\(-1<=Fe c u 2/\Fe c u 2<=((row g u).length:Int) - 1):=by
 have a:=hc.ok u e 0 (by decide);have b:=hc.ok u e 1 (by decide);have d:=hc.ok u e 2 (by decide);rw[aff,aeT,hV.len]at a;rw[abt,aeU]at b;rw[aid,ahW]at d;exact⟨a,b,d⟩
 include hv
 omit hc in
theorem YF {i:Nat} (d:i<(row g v).length):∃u:Nat,u<g.2.length/\(iU (row g v) i).1=(u:Int)/\KE g v u/\Rc g c v i 0=Fe c u 0/\Rc g c v i 1=Fe c u 1:=by
  obtain⟨u,e,a,b⟩:=hV.port hv d;exact⟨u,e,a,b,abK a,abK a⟩
theorem abp {i:Nat} (f:i<(row g v).length):ldK.den (KL (aV p g,c,(v:Int),[])) (row g v).length (i:Int)=Zd g c v i:=by
 have e:=hV.n24;have d:=hV.len;obtain⟨u,h,_,_,j,l⟩:=YF (c:=c) hV hv f;obtain⟨a,b,_⟩:=Sw hV hc h;have m:=sP hV g.2.length (by omega);have k:=Vo (a:=Rc g c v i 0) (n:=(g.1.length:Int)) (by omega) (by omega) (by omega) (by omega);show NE (wI .i64 (NE (wI .i64 (Rc g c v i 0*(g.1.length:Int)))+Rc g c v i 1))=Zd g c v i;rw[Tw (x:=Rc g c v i 0*(g.1.length:Int)) (by omega) (by omega),Tw (by omega) (by omega)];rfl
theorem ME (q:Int):Ze.den (KL (aV p g,c,(v:Int),[])) (row g v).length q=mL g c v:=by
 have f:=hV.n24;have e:=hV.len;have r:=sP hV g.2.length (by omega);refine congrArg vE (zBg λi d=>?_);have d:=zAi.1 d;obtain⟨u,l,_,_,m,o⟩:=YF (c:=c) hV hv d;obtain⟨a,b,_⟩:=Sw hV hc l;have j:=abp (p:=p) hV hc hv d;have k:=Vo (a:=eO g g.2.length+1) (n:=(g.1.length:Int)) (by omega) (by omega) (by omega) (by omega);show(if xG (decide (NE (wI .i64 (Rc g c v i 1+1))<(g.1.length:Int)))≠0 then ldK.den (KL (aV p g,c,(v:Int),[])) (row g v).length (i:Int)else NE (wI .i64 (NE (wI .i64 (eO g g.2.length+1))*(g.1.length:Int))))=Sq g c v i;rw[Tw (x:=Rc g c v i 1+1) (by omega) (by omega),Tw (x:=eO g g.2.length+1) (by omega) (by omega),Tw (by omega) (by omega),j];unfold Sq;by_cases h:Rc g c v i 1+1<(g.1.length:Int)
 .rw[if_pos h,if_pos (by rw[LX];exact zAd h)]
 .rw[if_neg h,if_neg (by rw[LX];simpa using h)]
theorem ajo {i:Nat} (f:i<(row g v).length):0<=Sq g c v i:=by
 have e:=hV.n24;have d:=hV.len;have m:=sP hV g.2.length (by omega);obtain⟨u,h,_,_,j,l⟩:=YF (c:=c) hV hv f;obtain⟨a,b,_⟩:=Sw hV hc h;have k:=Vo (a:=eO g g.2.length+1) (n:=(g.1.length:Int)) (by omega) (by omega) (by omega) (by omega);have o:=Vo (a:=Rc g c v i 0) (n:=(g.1.length:Int)) (by omega) (by omega) (by omega) (by omega);unfold Sq Zd;split<;>omega
theorem Xa:(0<=mL g c v/\mL g c v<=1073741824)/\(∀i,i<(row g v).length->mL g c v<=Sq g c v i)/\(mL g c v=1073741824\/∃i,i<(row g v).length/\mL g c v=Sq g c v i):=by
 have h:∀i,i<(row g v).length->mL g c v<=Sq g c v i:=λi f=>BU (zAs.2 ⟨i,zAi.2 f,rfl⟩);have l:=hV.n24;have j:=hV.len;have s:=sP hV g.2.length (by omega);have d:mL g c v=1073741824\/∃i,i<(row g v).length/\mL g c v=Sq g c v i:=by
  rcases Cr ((List.range (row g v).length).map (Sq g c v))with e|e
  .exact .inl e
  .obtain⟨i,f,m⟩:=zAs.1 e;exact .inr ⟨i,zAi.1 f,m.symm⟩
 refine⟨?_,h,d⟩
 rcases d with e|⟨i,f,e⟩
 .omega
 .have:=ajo hV hc hv f;obtain⟨u,o,_,_,q,r⟩:=YF (c:=c) hV hv f;obtain⟨a,b,_⟩:=Sw hV hc o;have k:=Vo (a:=eO g g.2.length+1) (n:=(g.1.length:Int)) (by omega) (by omega) (by omega) (by omega);have t:=Vo (a:=Rc g c v i 0) (n:=(g.1.length:Int)) (by omega) (by omega) (by omega) (by omega);rw[e];refine⟨this,?_⟩
  unfold Sq Zd;split<;>omega
 omit hc in
theorem Mz:(0<=yN g v/\yN g v<=eO g g.2.length)/\(0<=yN g v*(g.1.length:Int)/\yN g v*(g.1.length:Int)<=7200):=by
  have b:=hV.n24;have a:=hV.len;have i:=sP hV g.2.length (by omega);have h:=(hV.node v hv).id;have d:=SN g (k:=g.2.length) hv;have e:yN g v=abh g v:=rfl;have f:at' g.1 (v:Int)=yN g v:=rfl;refine⟨by omega,Vo (by omega) (by omega) (by omega) (by omega)⟩
 omit hc in
theorem abo (q:Int):ldI.den (KL (aV p g,c,(v:Int),[])) (row g v).length q=yN g v*(g.1.length:Int):=by
  obtain⟨_,k⟩:=Mz hV hv;show NE (wI .i64 (yN g v*(g.1.length:Int)))=_;rw[Tw (by omega) (by omega)]
theorem Vi:fV (aV p g) c v ldQ=mL g c v / (g.1.length:Int):=by
 have b:=hV.n1;have a:=hV.len;obtain⟨k,_⟩:=Xa hV hc hv;show biD 31 (Ze.den (KL (aV p g,c,(v:Int),[])) (row g v).length (-1)) (g.1.length:Int)=_;rw[show Ze.den (KL (aV p g,c,(v:Int),[])) (row g v).length (-1)=_ from ME hV hc hv _];exact ahH k.1 k.2 (by omega)
theorem Vg:fV (aV p g) c v ldD=mL g c v%(g.1.length:Int)+1:=by
 have f:=hV.n1;have e:=hV.n24;have d:=hV.len;obtain⟨k,_⟩:=Xa hV hc hv;have a:=Int.emod_nonneg (mL g c v) (show(g.1.length:Int)≠0 by omega);have b:=zBb (mL g c v) (show 0<(g.1.length:Int) by omega);show NE (wI .i64 (biD 32 (Ze.den (KL (aV p g,c,(v:Int),[])) (row g v).length (-1)) (g.1.length:Int)+1))=_;rw[ME hV hc hv,aii k.1 k.2 (by omega) (by omega),Tw (by omega) (by omega)]
theorem Vh:fV (aV p g) c v ldP=jP ((List.range (row g v).length).map λi=>xG (decide (Zd g c v i=mL g c v))):=by
 refine congrArg jP (zBg λi a=>?_);have a:=zAi.1 a;show xG (decide (ldK.den (KL (aV p g,c,(v:Int),[])) (row g v).length (i:Int)=Ze.den (KL (aV p g,c,(v:Int),[])) (row g v).length (i:Int)))=_;rw[abp hV hc hv a,ME hV hc hv]
theorem Qf:fV (aV p g) c v guO≠0↔yN g v*(g.1.length:Int)<=mL g c v/\((Fe c v 0≠yN g v\/Fe c v 1≠0)\/Fe c v 2 ≠ -1):=by
 unfold fV guO;rw[WI,PS,PS,Jq,Jq,Jq];refine and_congr ?_ Iff.rfl;show xG (decide (ldI.den (KL (aV p g,c,(v:Int),[])) (row g v).length (-1)<=Ze.den (KL (aV p g,c,(v:Int),[])) (row g v).length (-1)))≠0↔_;rw[LX,zA1,abo hV hv,ME hV hc hv]
theorem Qe:fV (aV p g) c v guJ≠0↔mL g c v<yN g v*(g.1.length:Int)/\((Fe c v 0≠fV (aV p g) c v ldQ\/Fe c v 1≠fV (aV p g) c v ldD)\/Fe c v 2≠fV (aV p g) c v ldP):=by
 unfold fV guJ;rw[WI,PS,PS,Jq,Jq,Jq];refine and_congr ?_ Iff.rfl;show xG (decide (Ze.den (KL (aV p g,c,(v:Int),[])) (row g v).length (-1)<ldI.den (KL (aV p g,c,(v:Int),[])) (row g v).length (-1)))≠0↔_;rw[LX,zA1,abo hV hv,ME hV hc hv]
theorem ack (h:0<=jH (aV p g) RE c v):(jH (aV p g) RE c v=0/\yN g v*(g.1.length:Int)<=mL g c v)\/(jH (aV p g) RE c v=1/\mL g c v<yN g v*(g.1.length:Int)):=by
 obtain⟨i,b,a,d⟩:=(Cu (aV p g) RE c v).resolve_left (λe=>by omega);have a:i<2:=a
 match i,a with
 |0,_=>exact .inl ⟨b,((Qf hV hc hv).1 d).1⟩
 |1,_=>exact .inr ⟨b,((Qe hV hc hv).1 d).1⟩
theorem YM (h:¬0<=jH (aV p g) RE c v):IsT c v (TL g c v):=by
 have e:jH (aV p g) RE c v = -1:=by
  rcases Cu (aV p g) RE c v with e|⟨i,f,_⟩
  .exact e
  .omega
 have a:¬fV (aV p g) c v guO≠0:=λq=>q (Nb.1 e 0 (by decide));have b:¬fV (aV p g) c v guJ≠0:=λq=>q (Nb.1 e 1 (by decide));rw[Qf hV hc hv]at a;rw[Qe hV hc hv,Vi hV hc hv,Vg hV hc hv,Vh hV hc hv]at b;unfold IsT TL;by_cases h:yN g v*(g.1.length:Int)<=mL g c v
 .rw[if_pos h];exact⟨zAw.1 λq=>a ⟨h,.inl (.inl q)⟩,zAw.1 λq=>a ⟨h,.inl (.inr q)⟩,zAw.1 λq=>a ⟨h,.inr q⟩⟩
 .rw[if_neg h];have d:mL g c v<yN g v*(g.1.length:Int):=by omega
  exact⟨zAw.1 λq=>b ⟨d,.inl (.inl q)⟩,zAw.1 λq=>b ⟨d,.inl (.inr q)⟩,zAw.1 λq=>b ⟨d,.inr q⟩⟩
theorem agq (h:mL g c v<yN g v*(g.1.length:Int)):∃i u:Nat,i<(row g v).length/\u<g.2.length/\KE g v u/\Fe c u 1+1<(g.1.length:Int)/\mL g c v=Fe c u 0*(g.1.length:Int)+Fe c u 1/\mL g c v / (g.1.length:Int)=Fe c u 0/\mL g c v%(g.1.length:Int)=Fe c u 1:=by
 obtain⟨s,t⟩:=Mz hV hv;obtain⟨_,_,e|⟨i,j,e⟩⟩:=Xa hV hc hv
 .omega
 obtain⟨u,k,r,o,l,m⟩:=YF (c:=c) hV hv j;obtain⟨w,x,_⟩:=Sw hV hc k;have f:Rc g c v i 1+1<(g.1.length:Int):=by
  refine zAw.1 λq=>?_;unfold Sq at e;rw[if_neg q]at e;have:=Vn (a:=yN g v) (b:=eO g g.2.length+1) (n:=(g.1.length:Int)) (by omega) (by omega);omega
 have d:mL g c v=Fe c u 0*(g.1.length:Int)+Fe c u 1:=by
  rw[e];unfold Sq Zd;rw[if_pos f,l,m]
 refine⟨i,u,j,k,o,by omega,d,?_,?_⟩
 .rw[d];exact Ql (by omega) (by omega)
 .rw[d];exact WV (by omega) (by omega)
theorem ajV (h:0<=jH (aV p g) RE c v):at' (zM (aV p g) mH RE c v (jH (aV p g) RE c v)) 0=(TL g c v).1/\at' (zM (aV p g) mH RE c v (jH (aV p g) RE c v)) 1=(TL g c v).2.1/\at' (zM (aV p g) mH RE c v (jH (aV p g) RE c v)) 2=(TL g c v).2.2:=by
 have A:=hV.n1;have b:=hV.len;have m:(at' c (v:Int)).length=3:=hc.row v hv;have j:pT g mH v 0=(0,eO g g.2.length):=by unfold pT;rw[aff,aeT,b]
 have k:pT g mH v 1=(0,(g.2.length:Int) - 1):=by unfold pT;rw[abt,aeU]
 have l:pT g mH v 2=(-1,((row g v).length:Int) - 1):=by unfold pT;rw[aid,ahW]
 obtain⟨q,r⟩:=Mz hV hv;rcases ack hV hc hv h with⟨e,a⟩|⟨e,a⟩
 .have d:zM (aV p g) mH RE c v 0=(((at' c (v:Int)).set 0 (qR 1 (pT g mH v 0) (yN g v))).set 1 (qR 1 (pT g mH v 1) 0)).set 2 (qR 3 (pT g mH v 2) (-1)):=rfl;have f:TL g c v=(yN g v,0,-1):=by unfold TL;rw[if_pos a]
  rw[f,e,d,j,k,l,DN (by omega) (by omega),DN (by omega) (by omega),DN (by omega) (by omega)];exact akf _ m _ _ _
 .have d:zM (aV p g) mH RE c v 1=(((at' c (v:Int)).set 0 (qR 1 (pT g mH v 0) (fV (aV p g) c v ldQ))).set 1 (qR 1 (pT g mH v 1) (fV (aV p g) c v ldD))).set 2 (qR 3 (pT g mH v 2) (fV (aV p g) c v ldP)):=rfl;have f:TL g c v=(mL g c v / (g.1.length:Int),mL g c v%(g.1.length:Int)+1,jP ((List.range (row g v).length).map λi=>xG (decide (Zd g c v i=mL g c v)))):=by unfold TL;rw[if_neg (by omega)]
  obtain⟨i,u,C,o,B,s,t,w,x⟩:=agq hV hc hv a;obtain⟨y,z,_⟩:=Sw hV hc o;have n:=Yk ((List.range (row g v).length).map λi=>xG (decide (Zd g c v i=mL g c v)));rw[List.length_map,List.length_range]at n;rw[f,e,d,j,k,l,Vi hV hc hv,Vg hV hc hv,Vh hV hc hv,DN (by omega) (by omega),DN (by omega) (by omega),DN (by omega) (by omega)];exact akf _ m _ _ _
end
structure Elc (g:GR) (s:Nat) (d:aW):Prop where
 slt:s<g.2.length
 dist:BH g s d
 nn:∀v,v<g.2.length->0<=D d v
 lt:∀v,v<g.2.length->D d v<(g.2.length:Int)
 least:∀u,u<g.2.length->u≠s->yN g s<yN g u
def pwD (g:GR) (d:aW) (v:Nat):Int:=jP ((List.range (row g v).length).map λi=>xG (decide (D d (iU (row g v) i).1.toNat=D d v - 1)))
def LwE (g:GR) (s:Nat) (d:aW) (c:bE) (v:Nat):Prop:=yN g s*(g.1.length:Int)+D d v<=Fe c v 0*(g.1.length:Int)+Fe c v 1
def RtE (g:GR) (s:Nat) (d:aW) (c:bE) (v:Nat):Prop:=IsT c v (yN g s,D d v,pwD g d v)
def GL (g:GR) (s:Nat) (d:aW) (k:Nat) (c:bE):Prop:=(∀v,v<g.2.length->(k:Int)<=Fe c v 1\/LwE g s d c v)/\∀v,v<g.2.length->(g.2.length:Int)+D d v<=(k:Int)->RtE g s d c v
section
variable {g:GR} {s:Nat} {d:V6 Int} {c c':V6 (V6 Int)} (hV:VG g) (E:Elc g s d)
 include hV E
theorem Zm (b:CM g c mH):GL g s d 0 c:=by
 refine⟨λv a=>.inl ?_,λv a h=>?_⟩
 .have:=(Sw hV b a).2.1;omega
 .have:=E.nn v a;have:=hV.n1;omega
theorem Pj (H:CM g c mH) (R:∀v,v<g.2.length->IsT c' v (TL g c v)) {k:Nat} (hG:GL g s d k c):GL g s d (k+1) c':=by
 obtain⟨F,Q⟩:=hG;have U:=hV.len;have h1:=hV.n1;have aa:=hV.n24;have hm:=sP hV g.2.length (by omega);have y:∀v,v<g.2.length->v≠s->yN g s*(g.1.length:Int)+(g.1.length:Int)<=yN g v*(g.1.length:Int):=λv b e=>Vn (E.least v b e) (by omega);have ae:yN g s*(g.1.length:Int)+(g.1.length:Int)<=(eO g g.2.length+1)*(g.1.length:Int):=Vn (by have:=(Mz hV E.slt).1;omega) (by omega);have ag:=(Mz hV E.slt).2;refine⟨λv b=>?_,λv b hk=>?_⟩
 .obtain⟨m,f,o⟩:=R v b;by_cases h:yN g v*(g.1.length:Int)<=mL g c v
  .right;unfold TL at m f;rw[if_pos h]at m f;unfold LwE;rw[m,f];by_cases e:v=s
   .have:=(E.dist.zero v b).2 e;rw[this,e];exact Int.le_refl _
   .have:=y v b e;have:=E.lt v b;dsimp only;omega
  .obtain⟨i,u,n,a,G,b1,b2,b3,b4⟩:=agq hV H b (by omega);unfold TL at m f;rw[if_neg h]at m f;dsimp only at m f;rw[b3]at m;rw[b4]at f;have hn:=(E.dist.next u a (E.nn u a) v b (hV.back b G)).2;rcases F u a with q|q
   .left;rw[f];omega
   .right;unfold LwE at q ⊢;rw[m,f];omega
 .have af:=E.nn v b;obtain⟨m1,m2,V⟩:=Xa hV H b;obtain⟨m,f,o⟩:=R v b;have w:∀i,i<(row g v).length->∃u:Nat,u<g.2.length/\(iU (row g v) i).1=(u:Int)/\Zd g c v i=Fe c u 0*(g.1.length:Int)+Fe c u 1/\Rc g c v i 1=Fe c u 1/\D d v<=D d u+1:=λi n=>by
   obtain⟨u,a,l,G,e0,P⟩:=YF (c:=c) hV b n;exact⟨u,a,l,by unfold Zd;rw[e0,P],P,(E.dist.next u a (E.nn u a) v b (hV.back b G)).2⟩
  by_cases e:v=s
  .have hD:=(E.dist.zero v b).2 e;have z:yN g v*(g.1.length:Int)<=mL g c v:=by
    rcases V with q|⟨i,n,q⟩
    .rw[q,e];omega
    .obtain⟨u,a,l,r,B,N⟩:=w i n;have:=E.nn u a;have ev:yN g v*(g.1.length:Int)=yN g s*(g.1.length:Int):=by rw[e]
     rw[q];unfold Sq;rw[B];rcases F u a with t|t
     .rw[if_neg (by omega)];omega
     .unfold LwE at t;split
      .rw[r];omega
      .omega
   unfold TL at m f o;rw[if_pos z]at m f o;refine⟨by rw[m,e],by rw[f,hD],?_⟩
   rw[o];have:pwD g d v = -1:=by
    unfold pwD;refine Bc λj J=>?_;rw[List.length_map,List.length_range]at J;rw[wV _ J];obtain⟨u,a,l,_⟩:=w j J;have:=E.nn u a;rw[l,zAf,zA8 (by omega)];rfl
   exact this.symm
  .have A:0<D d v:=by
    have:D d v≠0:=λq=>e ((E.dist.zero v b).1 q);omega
   have C:∀u,u<g.2.length->LwE g s d c u:=λu a=>(F u a).resolve_left (λq=>by have:=(Sw hV H a).2.1;omega);obtain⟨X,L,⟨M,x,T⟩,I⟩:=E.dist.near v b A;obtain⟨W,O,_⟩:=Q X L (by omega);dsimp only at W O;have ad:=E.lt v b;have S:Sq g c v M=yN g s*(g.1.length:Int)+(D d v - 1):=by
    obtain⟨u,a,l,r,B,N⟩:=w M x;obtain rfl:u=X:=by omega
    unfold Sq;rw[B,O,if_pos (by omega),r,W,O,I]
   have ac:=m2 M x;have ab:yN g s*(g.1.length:Int)+(D d v - 1)<=mL g c v:=by
    rcases V with q|⟨i,n,q⟩
    .omega
    .obtain⟨u,a,l,r,B,N⟩:=w i n;have t:=C u a;unfold LwE at t;rw[q];unfold Sq;split
     .rw[r];omega
     .omega
   have p:mL g c v=yN g s*(g.1.length:Int)+(D d v - 1):=by omega
   have K:¬yN g v*(g.1.length:Int)<=mL g c v:=by have:=y v b e;omega
   unfold TL at m f o;rw[if_neg K]at m f o;dsimp only at m f o;rw[p,Ql (by omega) (by omega)]at m;rw[p,WV (by omega) (by omega)]at f;refine⟨m,by rw[f];dsimp only;omega,?_⟩
   rw[o];show _=pwD g d v;unfold pwD;refine congrArg jP (zBg λi n=>?_);have n:=zAi.1 n;obtain⟨u,a,l,r,B,N⟩:=w i n;have t:=C u a;unfold LwE at t;refine congrArg xG (decide_eq_decide.2 ?_);rw[r,p,l,zAf];constructor
   .intro q;omega
   .intro q;obtain⟨Y,x1,_⟩:=Q u a (by omega);dsimp only at Y x1;rw[Y,x1,q]
end
abbrev pE (z:V6 pP):tC:=(ByteArray.mk #[108,101,97,100,101,114],mH,z)
theorem WW {p:tC} {g:GR} (f:VG g) {c:List (List Int)} (d:CM g c mH) {v:Nat} (a:v<g.2.length):IsT (jR (aV p g) mH RE c (KI (aV p g) RE c)) v (TL g c v):=by
 have e:=d.len;have b:at' (jR (aV p g) mH RE c (KI (aV p g) RE c)) (v:Int)=if(KI (aV p g) RE c).testBit v=true then zM (aV p g) mH RE c v (jH (aV p g) RE c v)else at' c (v:Int):=FK (by rw[e];exact a);have i:(KI (aV p g) RE c).testBit v=true↔0<=jH (aV p g) RE c v:=by
  rw[Gt,zAd (show v<(aV p g).2.1.2.length from a),zB9,zA1]
 unfold IsT Fe;rw[b];by_cases h:(KI (aV p g) RE c).testBit v=true
 .rw[if_pos h];exact ajV f d a (i.1 h)
 .rw[if_neg h];exact YM (p:=p) f d a λq=>h (i.2 q)
def PY (g:GR) (a:List xF) (F:Int->Int->Int) (L:Int) (k v:Nat) (s:aW):Prop:=GW g a v s=true/\min (at' s 0) ((k:Int)*L)=min (vV g F v) ((k:Int)*L)/\(1<=k->vV g F v<(k:Int)*L->at' s 1=ptE g F v)
section
variable {p:tC} {g:GR} {vars:V6 xF} {eX eY:E} {F:Int->Int->Int} {L N:Int} {c:V6 (V6 Int)} {v k:Nat}
theorem aij (L:Int) (k:Nat):((k+1:Nat):Int)*L=(k:Int)*L+L:=by push_cast;rw[Int.add_mul,Int.one_mul]
theorem aac (S:Ue g vars eX eY F L N) (f:VG g) (d:CM g c vars) (e:Nv g F (Bt c) ((k:Int)*L)):Nv g F (λv=>(TY p g c v eX eY).1) (((k+1:Nat):Int)*L):=
 Mb S.grow e (N:=N) (λv a=>(Mi S d a).1) (by unfold TY;rw[if_pos Z]) S.cap λv a b=>agp S f d a b
theorem nxY (S:Ue g vars eX eY F L N) (d:VG g) (a:CM g c vars) (b:v<g.2.length):S_ (aV p g) vars (RY eX eY) c v=[(TY p g c v eX eY).1,(TY p g c v eX eY).2]:=by
 rw[<-MQ (S:=aV p g) b a.len];exact Xe S d a b
theorem ZE (a:c.length=g.2.length) (h:∀x,x<g.2.length->PY g vars F L k x (at' c (x:Int))):CM g c vars/\Nv g F (Bt c) ((k:Int)*L):=⟨MZ a λx b=>(h x b).1,λx b=>(h x b).2.1⟩
theorem ajn (S:Ue g vars eX eY F L N) (j:VG g) (m:p.2.1=vars) (w:oP vars.length (RY eX eY)=true):HW g vars (S_ (aV p g) vars (RY eX eY)) (PY g vars F L):=by
 have A:=S.grow.L1;subst m;refine⟨λv s e h=>⟨h,?_,λq=>absurd q (by omega)⟩,λk v s e h=>h.1,λk v s e ⟨a,b,d⟩=>⟨a,?_,λy z=>d (by omega) ?_⟩,λk c i t v e=>?_⟩
 .have a:=((z_.1 h).2 0 (by rw[S.len];omega)).1;have u:lo g (at' p.2.1 ((0:Nat):Int)) v<=at' s 0:=a;rw[S.lo0]at u;have b:=Co S.grow e;rw[show((0:Nat):Int)=0 from rfl,Int.zero_mul];omega
 .rw[aij]at b;omega
 .rw[aij];omega
 .obtain⟨l,o⟩:=ZE i t;have f:=aac (p:=p) S j l o;refine⟨Qx (R:=RY eX eY) S.ok w c i (λx n=>(t x n).1) v e,?_⟩
  rw[nxY S j l e];exact⟨f v e,λ_ r=>JL S j l o e r (f.eq e (.inr r))⟩
theorem PY.fin (S:Ue g vars eX eY F L N) (j:c.length=g.2.length) (o:1<=k) (l:∀v,v<g.2.length->vV g F v<(k:Int)*L) (h:∀x,x<g.2.length->PY g vars F L k x (at' c (x:Int))):c=cE g F:=by
 refine List.ext_getElem (by rw[j,PO]) λi m n=>?_;have f:i<g.2.length:=by omega
 obtain⟨a,b,d⟩:=h i f;obtain⟨x,y,e⟩:=aiv (at' c (i:Int)) (by rw[(z_.1 a).1];exact S.len);rw[e]at b d;have b:min x ((k:Int)*L)=min (vV g F i) ((k:Int)*L):=b;have d:y=ptE g F i:=d o (l i f);have:=l i f;rw[<-gK m,<-gK n,aaq f,e,d,show x=vV g F i by omega]
theorem PY.quiet (S:Ue g vars eX eY F L N) (j:VG g) (e:c.length=g.2.length) (q:1<=k) (f:∀v,v<g.2.length->vV g F v<(k:Int)*L) (h:∀x,x<g.2.length->PY g vars F L k x (at' c (x:Int))):∀v,v<g.2.length->¬0<=jH (aV p g) (RY eX eY) c v:=by
 intro v a;obtain⟨l,d⟩:=ZE e h;have r:=S.grow.L1;have b:vV g F v<((k+1:Nat):Int)*L:=by have:=f v a;rw[aij];omega
 have i:=(aac (p:=p) S j l d).eq a (.inr b);have m:=JL (p:=p) S j l d a b i;have n:Bt c v=vV g F v:=d.eq a (.inr (f v a));have o:Ti c v=ptE g F v:=(h v a).2.2 q (f v a);rw[agw,if_pos ⟨n.trans i.symm,o.trans m.symm⟩];decide
end
def PE (g:GR) (s:Nat) (d:List Int) (k v:Nat) (a:List Int):Prop:=GW g mH v a=true/\((k:Int)<=at' a 1\/yN g s*(g.1.length:Int)+D d v<=at' a 0*(g.1.length:Int)+at' a 1)/\((g.2.length:Int)+D d v<=(k:Int)->at' a 0=yN g s/\at' a 1=D d v/\at' a 2=pwD g d v)
section
variable {g:GR} {s:Nat} {d:V6 Int} {c:V6 (V6 Int)} {k:Nat}
theorem PE.gl (a:c.length=g.2.length) (h:∀x,x<g.2.length->PE g s d k x (at' c (x:Int))):CM g c mH/\GL g s d k c:=⟨MZ a λx e=>(h x e).1,λv b=>(h v b).2.1,λv b=>(h v b).2.2⟩
theorem aip {p:tC} (f:VG g) (j:CM g c mH) {v:Nat} (l:v<g.2.length) (h:IsT c v (TL g c v)):¬0<=jH (aV p g) RE c v:=by
 intro t;obtain⟨i,u,q,r⟩:=(Cu (aV p g) RE c v).resolve_left (λe=>by omega);have q:i<2:=q;obtain⟨m,n,o⟩:=h;unfold TL at m n o
 match i,q with
 |0,_=>
  obtain⟨a,b⟩:=(Qf f j l).1 r;rw[if_pos a]at m n o;rcases b with(b|b)|b
  .exact b m
  .exact b n
  .exact b o
 |1,_=>
  obtain⟨a,b⟩:=(Qe f j l).1 r;rw[if_neg (by omega)]at m n o;rw[Vi f j l,Vg f j l,Vh f j l]at b;rcases b with(b|b)|b
  .exact b m
  .exact b n
  .exact b o
theorem ajm (z:List pP) (l:VG g) (E:Elc g s d):HW g mH (S_ (aV (pE z) g) mH RE) (PE g s d):=by
 refine⟨λv n f h=>⟨h,.inl ?_,λq=>?_⟩,λk v n f h=>h.1,λk v n f ⟨a,b,e⟩=>⟨a,?_,λq=>e (by omega)⟩,λk c i t v f=>?_⟩
 .have a:lo g (at' mH ((1:Nat):Int)) v<=at' n 1:=((z_.1 h).2 1 (by decide)).1;rw[abt]at a;exact a
 .have:=E.nn v f;have:=l.n1;omega
 .rcases b with b|b
  .left;omega
  .exact .inr b
 .obtain⟨r,u⟩:=PE.gl i t;have o:=Pj l E r (λv f=>WW (p:=pE z) l r f) u;have j:=MQ (S:=aV (pE z) g) (vars:=mH) (R:=RE) (c:=c) f i;refine⟨Qx (p:=pE z) (R:=RE) (adf l) QD c i (λx m=>(t x m).1) v f,?_,λq=>?_⟩
  .have:=o.1 v f;unfold LwE Fe at this;rw[j]at this;exact this
  .have:=o.2 v f q;unfold RtE IsT Fe at this;rw[j]at this;exact this
theorem PE.fin (f:VG g) (E:Elc g s d) (a:c.length=g.2.length) (e:∀v,v<g.2.length->(g.2.length:Int)+D d v<=(k:Int)) (h:∀x,x<g.2.length->PE g s d k x (at' c (x:Int))):CM g c mH/\∀v,v<g.2.length->RtE g s d c v:=⟨(PE.gl a h).1,λv b=>(PE.gl a h).2.2 v b (e v b)⟩
theorem PE.quiet (z:List pP) (b:VG g) (E:Elc g s d) (f:c.length=g.2.length) (j:∀v,v<g.2.length->(g.2.length:Int)+D d v<=(k:Int)) (h:∀x,x<g.2.length->PE g s d k x (at' c (x:Int))):∀v,v<g.2.length->¬0<=jH (aV (pE z) g) RE c v:=by
 intro v a;obtain⟨e,i⟩:=PE.gl f h;have t:=Pj b E e (λv a=>WW (p:=pE z) b e a) i;obtain⟨l,m,n⟩:=i.2 v a (j v a);obtain⟨o,q,r⟩:=t.2 v a (by have:=j v a;omega);obtain⟨u,w,y⟩:=WW (p:=pE z) b e a;exact aip b e a ⟨by rw[l,<-o];exact u,by rw[m,<-q];exact w,by rw[n,<-r];exact y⟩
end
end Go.Proofs.YtgciopekomcbfaaGreatDoor
namespace Go.Proofs.YtgciopekomcbfaaGreatDoor
open Go.Sx
def vM (c:IZ) (b:KC->Option Ao) (a:(List (Int×Int×Int))):Option Ao:=
 b ((wI .i64 (c.1+(1:Int))),a)
def vN (b:IZ) (a:KC->Option Ao) (c:(List (Int×Int×Int))):Option Ao:=
 a ((wI .i64 (b.1+(1:Int))),c)
def rI (f g:Int) (e b:IZ) (c:KC->Option Ao) (a:IZ) (d:KC->Option Ao):Option Ao:=
 if a.1<g then(ck ((a.2.length:Int)+(List.length ([(f,e.1,b.1)]):Int)<=1099511627) (d ((wI .i64 (a.1+(1:Int))),(a.2++([(f,e.1,b.1)])))))else(vN b c (a.2))
def l_ (U:Nat) (e f:Int) (g:dM) (c:IZ) (d:KC->Option Ao) (a:IZ) (b:KC->Option Ao):Option Ao:=
 if a.1<((at' g.2 c.1).length:Int)then(bN (rI e f c a b) U ((0:Int),a.2))else(vM c d (a.2))
def jK (U:Nat) (d e:Int) (c:dM) (a:IZ) (b:KC->Option Ao):Option Ao:=
 if a.1<(c.2.length:Int)then(ck (0<=a.1/\a.1<(c.2.length:Int)) (bN (l_ U d e c a b) U ((0:Int),a.2)))else(some (a.2))
def jG (U:Nat) (a b:Int) (c:dM) (d:Af):Option Ao:=
 bN (jK U a b c) U ((0:Int),d)
theorem UE:aU prog 71:=call71
theorem BB (U:Nat) {g i:Int} {d:dM} {F:Af} (k:Nat) (u m:V0) (z:mS) (b:Nat) (H:V0) (r:(List (Int×Int×Int))) (h:jG U g i d F=some r):
  Bp prog 71 #[vI (g),vI (i),vP k,vP b] [bH b [H] 52,Ar gG H F] [bH k [u,m] 28,Sl aL u d.1,S2 aY m z d.2] (λx:V0=>Value.tuple #[]) (λx l=>bH b [x] 52::Ar gG x r::l):=by
 refine Bp.of (vs:=[vI (g),vI (i),vP k,vP b]) func71 Z ntmps71 Z λc=>?_;unfold jG at h;refine aP<|bT Z<|aB (eQ Z (dH Z) Z Z Z) Z<|aB (fN Z (DU Z) Z) Z<|aA Z<|aM<|aS<|pN (B:=V0) (jK U g i d) (λf y=>[(0,vI (g)),(1,vI (i)),(3,vP b),(10,m),(11,vI (d.2.length:Int)),(12,vI (f.1))]) (λf y=>[bH b [y] 52,Ar gG y f.2]) (λf y=>[bH k [u,m] 28,Sl aL u d.1,S2 aY m z d.2]) ((0:Int),F) (H) h SF (aX.refl _) (aF.refl _ _) ?_;intro D f y h;refine aP<|dD Z<|aM<|aK ?_;refine eI h Z (λh=>?_) λh=>?_
 .refine cQ<|aK<|lT (B:=V0) (λn=>vM f (bN (jK U g i d) D) n=some r) (λn q=>[(0,vI (g)),(1,vI (i)),(3,vP b),(10,m),(11,vI (d.2.length:Int)),(12,vI (f.1))]) (λn q=>[bH b [q] 52,Ar gG q n]) (λn q=>[bH k [u,m] 28,Sl aL u d.1,S2 aY m z d.2]) ?_ ?_
  .refine aS<|aP<|aA Z<|dV h λv h=>aB (cA Z Z (DU Z) Z Z v) Z<|aB (cW Z (DU Z) Z Z v) Z<|aC Z<|aC Z<|aM<|aP<|aA Z<|aB (iN Z (zBm (DU Z) v.1 v.2) Z) Z<|aA Z<|aM<|aS<|pN (B:=V0) (l_ U g i d f (bN (jK U g i d) D)) (λa p=>[(0,vI (g)),(1,vI (i)),(3,vP b),(6,vI (f.1)),(10,m),(11,vI (d.2.length:Int)),(12,vI (f.1)),(18,vI ((at' d.2 f.1).length:Int)),(19,vI (a.1))]) (λa p=>[bH b [p] 52,Ar gG p a.2]) (λa p=>[bH k [u,m] 28,Sl aL u d.1,S2 aY m z d.2]) ((0:Int),f.2) (y) h SF (aX.refl _) (aF.refl _ _) ?_;intro C a p h;refine aP<|dD Z<|aM<|aK ?_;refine eI h Z (λh=>?_) λh=>?_
   .refine cQ<|aK<|lT (B:=V0) (λo=>vN a (bN (l_ U g i d f (bN (jK U g i d) D)) C) o=some r) (λo s=>[(0,vI (g)),(1,vI (i)),(3,vP b),(6,vI (f.1)),(10,m),(11,vI (d.2.length:Int)),(12,vI (f.1)),(18,vI ((at' d.2 f.1).length:Int)),(19,vI (a.1))]) (λo s=>[bH b [s] 52,Ar gG s o]) (λo s=>[bH k [u,m] 28,Sl aL u d.1,S2 aY m z d.2]) ?_ ?_
    .refine aS<|aP<|aA Z<|aC Z<|aM<|aP<|aA Z<|aA Z<|aM<|aS<|pN (B:=V0) (rI g i f a (bN (l_ U g i d f (bN (jK U g i d) D)) C)) (λj t=>[(0,vI (g)),(1,vI (i)),(3,vP b),(6,vI (f.1)),(8,vI (a.1)),(10,m),(11,vI (d.2.length:Int)),(12,vI (f.1)),(18,vI ((at' d.2 f.1).length:Int)),(19,vI (a.1)),(22,vI (i)),(23,vI (j.1))]) (λj t=>[bH b [t] 52,Ar gG t j.2]) (λj t=>[bH k [u,m] 28,Sl aL u d.1,S2 aY m z d.2]) ((0:Int),a.2) (p) h SF (aX.refl _) (aF.refl _ _) ?_;intro I j t h;refine aP<|dD Z<|aM<|aK ?_;refine eI h Z (λh=>?_) λh=>?_
     .refine cQ<|aK<|aS<|aR<|dO 0 Z<|aA Z<|aA Z<|aA Z ?_;refine aB (LR (r:=Value.agg #[vI (g),vI (f.1),vI (a.1)]) Z Z Z (by intro w;simp[Instr.build,Instr.fill,cY,cI,cD,cZ,c_,cJ,dU])) Z ?_;refine aI (b_ (e:=gG) ([((g,f.1,a.1))]) [(0,Value.agg #[vI (g),vI (f.1),vI (a.1)])] Z Z Z Z (Su (vI (g)) (vI (f.1)) (vI (a.1))) Z Z Z) Z λJ=>dV h λE h=>aI (fU 2 pM Z Z Z (bP (aG.res 0 Z) pM) Z Z Z Z E Z) Z λG=>bG (Know.one ((bP (aG.res 2 Z) pM))) λA=>fS 1 Z Z A Z Z Z<|eW<|m_<|aR<|cU Z<|aA Z<|aM ?_;exact iH ((wI .i64 (j.1+(1:Int))),(j.2++([(g,f.1,a.1)]))) (G) h SF (aX.ix [1,2] Z Z) (aF.refl _ _)
     refine tB<|fT<|fT<|Aj<|m_ ?_;exact j_ (j.2) (t) h SF Z
    intro o s h;unfold vN at h;refine aR<|cU Z<|aA Z<|aM ?_;exact BD ((wI .i64 (a.1+(1:Int))),o) (s) h SF Z
   refine tB<|fT<|fT<|Aj<|m_ ?_;exact j_ (a.2) (p) h SF Z
  intro n q h;unfold vM at h;refine aR<|cU Z<|aA Z<|aM ?_;exact BD ((wI .i64 (f.1+(1:Int))),n) (q) h SF Z
 refine tB<|fT<|fT<|Aj ?_;cases h;exact HZ (y) Z Z .normal (.inr Z) (aX.refl _) aF.nil
def zS (U:Nat) (a:dM) (e:Int) (b:(List (Int×Int×Int))):Option Ao:=
 Option.bind (jG U (2:Int) (1:Int) ((a.1,a.2)) b) λc=>(Option.bind (jG U (3:Int) e ((a.1,a.2)) c) λd=>(some (d)))
def uN (U:Nat) (c:dM) (d:Int) (a:IZ) (b:KC->Option Ao):Option Ao:=
 if a.1<(c.2.length:Int)then(ck ((a.2.length:Int)+(List.length ([((1:Int),a.1,(0:Int))]):Int)<=1099511627) (b ((wI .i64 (a.1+(1:Int))),(a.2++([((1:Int),a.1,(0:Int))])))))else(zS U c d (a.2))
def uM (U:Nat) (a:dM) (b:Int) (c:Bool):Option Ao:=
 if c=true then(some ([]:Af))else(Option.bind (jG U (3:Int) b ((a.1,a.2)) ([]:Af)) λd=>(bN (uN U a b) U ((0:Int),d)))
def wP (U:Nat) (a:dM) (b:Int):Option Ao:=
 Option.bind (h_ U ((a.1,a.2))) λc=>(if(!c)=true then(uM U a b (true))else(if b<(1:Int)then(uM U a b (true))else(uM U a b (decide ((8:Int)<b)))))
theorem aha:aU prog 12:=call12
theorem NJ (U:Nat) {o:dM} {n:Int} (i j:V0) (u:mS) (r:(List (Int×Int×Int))) (h:wP U o n=some r):
  a_ prog 12 #[Value.agg #[i,j],vI (n)] [Sl aL i o.1,S2 aY j u o.2] (λx:V0=>x) (λx l=>Ar gG x r::l) (λ_ l=>l):=by
 refine a_.of func12 Z ntmps12 Z λc=>?_;refine aP<|aI (aN.box (cs:=[i,j]) Z Z) Z λb=>aC Z<|aM<|aK<|aK<|iA (λq=>uM U o n q=some r) (λq G=>[(1,vI (n)),(2,vP b),(18,vB (q))]) (λq G=>[bH b [i,j] 28]) ?_ ?_
 .refine aR<|dL 0 Z<|fP h λz E h=>aI (zBk PL (AX U i j u z E) Z (jS [0,1] Z)) Z λL=>aB (sI Z) Z<|aA Z ?_;refine Ef (by exact rfl) (by exact rfl) (λm=>?_) (λm=>?_)
  .have h:=SE m h;refine aQ Z<|aQ Z<|gE Z<|aA Z<|aQ Z<|aQ Z<|gE Z<|aM ?_;exact j_ (true) () h SF Z
  have h:=Qh m h;refine iP Z<|bA Z (Ft Z Z) Z<|jD Z<|aA Z ?_;refine GN h Z (λ_ h=>?_) λ_ h=>?_
  .refine aQ Z<|aQ Z<|gE Z<|aM ?_;exact j_ (true) () h SF Z
  refine iP Z<|bA Z (wM Z Z) Z<|jD Z<|aM ?_;exact j_ (decide ((8:Int)<n)) () h SF Z
 intro q G h;refine Ca h Z (λ_ h=>?_) λ_ h=>?_
 .refine aP<|aC Z<|aM<|aT<|aJ<|cF (fK gG) ?_;cases h;exact fD (eV) Z Z (RV.tmp Z) (aX.ix [0] Z Z) aF.nil
 refine cQ<|aP<|aI (aN.alloc (cs:=[eV]) Z Z) Z λd=>aM<|aP<|aB (uB (cs:=[.tmp 2,.tmp 5]) (vs:=[vP b,vP d]) Z) Z<|aC Z<|aM<|aP<|aA Z<|aA Z<|cF (fK gG)<|fP h λH K h=>aI (Fj (vs:=[vI (3:Int),vI (n)]) (cs:=[vP b,vP d]) (Min:=[bH d [eV] 52,Ar gG (eV) ([]:Af)]) (Mr:=[bH b [i,j] 28]) UE Z (BB U b i j u d (eV) H K) Z (aX.ix [1,0,2] Z Z) (aF.cons (aG.res 0 Z) (jS [0,1] Z)) (λ_ _=>rfl)) Z λM=>aM<|aK<|Ez (B:=V0) (λg=>zS U o n g=some r) (λg f=>[(1,vI (n)),(5,vP d),(6,Value.func (.func 71) #[] #[vP b,vP d])]) (λg f=>[bH d [f] 52,Ar gG f g,bH b [i,j] 28]) ?_ ?_
 .refine aP<|bT Z<|dO 2 Z<|aB (fN Z (yQ Z) Z) Z<|aA Z<|aM<|aS<|gC (B:=V0) (uN U o n) (λa k=>[(1,vI (n)),(5,vP d),(6,Value.func (.func 71) #[] #[vP b,vP d]),(25,vI (o.2.length:Int)),(26,vI (a.1))]) (λa k=>[bH d [k] 52,Ar gG k a.2,bH b [i,j] 28]) ((0:Int),H) (M) h SF (aX.refl _) ?_;intro I a k h;refine aP<|dD Z<|aM<|aK ?_;refine eI h Z (λh=>?_) λh=>?_
  .refine cQ<|aK<|aS<|aP<|aA Z<|aC Z<|aM<|aR<|dO 0 Z<|aA Z ?_;refine aB (El (r:=Value.agg #[vI (1:Int),vI (a.1),vI (0:Int)]) Z Z (by intro w;simp[Instr.build,Instr.fill,cY,cI,cD,cZ,c_,cJ,dU])) Z ?_;refine aI (b_ (e:=gG) ([(((1:Int),a.1,(0:Int)))]) [(0,Value.agg #[vI (1:Int),vI (a.1),vI (0:Int)])] Z Z Z Z (Su (vI (1:Int)) (vI (a.1)) (vI (0:Int))) Z Z Z) Z λJ=>dV h λv h=>aI (fU 2 pM Z Z Z (bP (aG.res 0 Z) pM) Z Z Z Z v Z) Z λA=>bG (Know.one ((bP (aG.res 2 Z) pM))) λs=>fS 1 Z Z s Z Z Z<|eW<|m_<|aR<|cU Z<|aA Z<|aM ?_;exact iH ((wI .i64 (a.1+(1:Int))),(a.2++([((1:Int),a.1,(0:Int))]))) (A) h SF (aX.ix [1,2,3] Z Z) (aF.refl _ _)
  refine fO ?_;exact j_ (a.2) (k) h SF Z
 intro g f h;refine aP<|aA Z<|fP h λt C h=>aI (Fj (vs:=[vI (2:Int),vI (1:Int)]) (cs:=[vP b,vP d]) (Min:=[bH d [f] 52,Ar gG f g]) (Mr:=[bH b [i,j] 28]) UE Z (BB U b i j u d f t C) Z (aX.refl _) (aF.cons (aG.res 0 Z) (jS [0,1] Z)) (λ_ _=>rfl)) Z λp=>aM<|aP<|aA Z<|aA Z<|fP h λy D h=>aI (Fj (vs:=[vI (3:Int),vI (n)]) (cs:=[vP b,vP d]) (Min:=[bH d [p] 52,Ar gG p t]) (Mr:=[bH b [i,j] 28]) UE Z (BB U b i j u d p y D) Z (aX.refl _) (aF.cons (aG.res 0 Z) (jS [0,1] Z)) (λ_ _=>rfl)) Z λF=>aM<|aP<|dO 0 Z<|aC Z<|aM<|aT ?_;cases h;exact fD (F) Z Z (RV.tmp Z) (aX.ix [1] Z Z) aF.nil
end Go.Proofs.YtgciopekomcbfaaGreatDoor
namespace Go.Proofs.YtgciopekomcbfaaGreatDoor
open Go Go.Sx
theorem QM {g:GR} {a:List xF} {c:bE} (h:CM g c a) {v:Nat} (b:v<g.2.length):GW g a v (at' c (v:Int))=true:=z_.2 ⟨h.row v b,λx d=>h.ok v b x d⟩
def Cfg (g:GR) (a:List xF):Prop:=∀b,OK (λc=>CM g c a) (fC 1000 g a b)
def evy (g:GR) (a:Int) (t:Nat):Af:=(List.range g.2.length).flatMap fun(v:Nat)=>(List.range (row g v).length).flatMap fun(i:Nat)=>(List.range t).flatMap λ_=>[(a,(v:Int),(i:Int))]
def acZ (g:GR):Af:=(List.range g.2.length).flatMap fun(v:Nat)=>[((1:Int),(v:Int),(0:Int))]
theorem JX (g:GR) (a:Nat):AG g a=evy g 3 a++(acZ g++(evy g 2 1++evy g 3 a)):=by
 unfold AG JW Az Wd F_ evy acZ;simp only[List.map_append,List.map_flatMap,zBd,List.map_nil,List.range_one,List.flatMap_cons,List.flatMap_nil,List.append_nil];rfl
theorem Bd {c:Type} {f:Nat->List c} {M:Nat}:∀{n:Nat},(∀k,k<n->(f k).length<=M)->((List.range n).flatMap f).length<=n*M
 |0,_=>by simp
 |n+1,h=>by
  have a:=Bd (n:=n) (f:=f) (M:=M) λk d=>h k (by omega);have b:=h n (by omega);rw[List.range_succ,List.flatMap_append,List.flatMap_singleton,zA5,Nat.succ_mul];omega
theorem Yl {a:Type} (f:Nat->List a) (n:Nat):(List.range (n+1)).flatMap f=(List.range n).flatMap f++f n:=by rw[List.range_succ,List.flatMap_append,List.flatMap_singleton]
theorem Gz {g B:Type} {f:Nat->List g} {n M:Nat} (c:List g) {step:Int×List g->(Int×List g->Option B)->Option B} {K:List g->Option B} (l:∀k,k<n->(f k).length<=M) (p:∀(k:Nat) d e,k<n->d.length<=c.length+n*M->step ((k:Int),d) e=e (((k+1:Nat):Int),d++f k)) (m:∀d e,d.length<=c.length+n*M->step ((n:Int),d) e=K d) (o:n<1000):bN step 1000 ((0:Int),c)=K (c++(List.range n).flatMap f):=by
 have i:∀k,k<=n->(c++(List.range k).flatMap f).length<=c.length+n*M:=λk h=>by
  have a:=Bd (n:=k) (f:=f) (M:=M) λj q=>l j (by omega);have b:=zB0 M h;rw[zA5];omega
 have:=dZ (step:=step) (K:=K (c++(List.range n).flatMap f)) n (λk=>((k:Int),c++(List.range k).flatMap f)) (λk e h=>by rw[p k _ e h (i k (by omega)),Yl,zB6]) (λe=>m _ e (i n (zAg _))) 1000 o;simpa using this
theorem YS {g:GR} (l:VG g) (cap:Nat):∀e∈AG g cap,Ug g e=true:=by
 have d:∀(b:Int) (t:Nat),1<=b->b<=4->∀e∈evy g b t,Ug g e=true:=λb t h j e a=>by
  obtain⟨v,c,a⟩:=List.mem_flatMap.1 a;obtain⟨i,f,a⟩:=List.mem_flatMap.1 a;obtain⟨k,m,a⟩:=List.mem_flatMap.1 a;have c:=zAi.1 c;have f:(i:Nat)<(at' g.2 (v:Int)).length:=zAi.1 f;rw[zBe.1 a];exact PV ⟨h,j⟩ (by omega) (.inr (by omega))
 intro e a;rw[JX]at a;rcases zBa.1 a with a|a
 .exact d 3 cap (by omega) (by omega) e a
 rcases zBa.1 a with a|a
 .obtain⟨v,c,a⟩:=List.mem_flatMap.1 a;have c:=zAi.1 c;rw[zBe.1 a];exact PV ⟨by decide,by decide⟩ (by omega) (.inl Z)
 rcases zBa.1 a with a|a
 .exact d 2 1 (by omega) (by omega) e a
 .exact d 3 cap (by omega) (by omega) e a
section
variable {g:GR} {cap:Nat}
theorem PW (b:VG g) (a:Int) (t:Nat):(evy g a t).length<=g.2.length*((g.2.length - 1)*t):=by
 unfold evy;refine Bd λv c=>?_;have d:=(b.node v c).deg;refine zB4 (Bd (M:=t) λi e=>?_) (zB0 _ (by omega));have:=Bd (f:=λ_=>[(a,(v:Int),(i:Int))]) (n:=t) (M:=1) λk h=>zAg _;omega
theorem Wb (g:GR):(acZ g).length<=g.2.length:=by
 have:=Bd (f:=fun(v:Nat)=>[((1:Int),(v:Int),(0:Int))]) (n:=g.2.length) (M:=1) λk a=>zAg _;unfold acZ;omega
theorem VD (d:VG g) (cap:Nat):(AG g cap).length<=g.2.length*((g.2.length - 1)*(2*cap+1))+g.2.length:=by
 have a:=PW d 3 cap;have b:=PW d 2 1;have c:=Wb g;rw[JX];simp only[zA5];have:g.2.length*((g.2.length - 1)*(2*cap+1))=2*(g.2.length*((g.2.length - 1)*cap))+g.2.length*((g.2.length - 1)*1):=by
  rw[Nat.mul_add,Nat.mul_add,Nat.mul_left_comm (g.2.length - 1) 2 cap,Nat.mul_left_comm g.2.length 2]
 omega
theorem JV (p:VG g) (a:Int) {t:Nat} (D:t<=8) (d:List (Int×Int×Int)) (x:d.length<=100000):jG 1000 a (t:Int) g d=some (d++evy g a t):=by
 have z:=p.n24;have y:∀v i:Nat,((List.range t).flatMap λ_=>[(a,(v:Int),(i:Int))]).length<=8:=λv i=>by
  have:=Bd (f:=λ_=>[(a,(v:Int),(i:Int))]) (n:=t) (M:=1) λk w=>zAg _;omega
 have B:∀v:Nat,v<g.2.length->((List.range (row g v).length).flatMap fun(i:Nat)=>(List.range t).flatMap λ_=>[(a,(v:Int),(i:Int))]).length<=192:=λv s=>by
  have A:=(p.node v s).deg;have:=Bd (f:=fun(i:Nat)=>(List.range t).flatMap λ_=>[(a,(v:Int),((i:Nat):Int))]) (n:=(row g v).length) (M:=8) λk w=>y v k;omega
 unfold jG;refine Gz (M:=192) (step:=jK 1000 a (t:Int) g) (K:=λl=>some l) (f:=fun(v:Nat)=>(List.range (row g v).length).flatMap fun(i:Nat)=>(List.range t).flatMap λ_=>[(a,(v:Int),(i:Int))]) d B (λv c m s u=>?_) (λc m _=>?_) (by omega)
 .have A:=(p.node v s).deg;have e:at' g.2 (v:Int)=row g v:=rfl;unfold jK;dsimp only;rw[if_pos (by omega),cR (by omega)];refine Gz (M:=8) (step:=l_ 1000 a (t:Int) g ((v:Int),c) m) (K:=λl=>m (((v+1:Nat):Int),l)) (f:=fun(i:Nat)=>(List.range t).flatMap λ_=>[(a,(v:Int),(i:Int))]) c (λi _=>y v i) (λi b h C q=>?_) (λb h _=>?_) (by omega)
  .unfold l_;dsimp only;rw[e,if_pos (by omega)];refine Gz (M:=1) (step:=rI a (t:Int) ((v:Int),c) ((i:Int),b) h) (K:=λl=>h (((i+1:Nat):Int),l)) (f:=λ_=>[(a,(v:Int),(i:Int))]) b (λ_ _=>zAg _) (λk j o w r=>?_) (λj o _=>?_) (by omega)
   .unfold rI;dsimp only;rw[if_pos (by omega),cR (by simp;omega),dC (by omega)]
   .unfold rI vN;dsimp only;rw[if_neg (by omega),dC (by omega)]
  .unfold l_ vM;dsimp only;rw[e,if_neg (by omega),dC (by omega)]
 .unfold jK;dsimp only;rw[if_neg (by omega)]
theorem Om (f:VG g) (c:Int) {t:Nat} (h:t<=8):(evy g c t).length<=4608:=by
 have e:=f.n24;have a:=PW f c t;have b:(g.2.length - 1)*t<=24*8:=Nat.mul_le_mul (by omega) h;have d:g.2.length*((g.2.length - 1)*t)<=24*(24*8):=Nat.mul_le_mul e b;omega
theorem acz (a:VG g) (o:1<=cap) (d:cap<=8):wP 1000 g (cap:Int)=some (AG g cap):=by
 have j:=a.n24;have l:=Om a 3 d;have k:=Om a 2 (t:=1) (by omega);have m:=Wb g;have h:h_ 1000 (g.1,g.2)=some true:=(OY g).1 a;unfold wP;rw[bF h,if_neg (by decide),if_neg (by omega),zA8 (by omega)];unfold uM;rw[if_neg (by decide),bF (show jG 1000 3 (cap:Int) (g.1,g.2) []=_ from JV a 3 d [] (by simp)),List.nil_append,JX];refine(Gz (M:=1) (n:=g.2.length) (step:=uN 1000 g (cap:Int)) (K:=zS 1000 g (cap:Int)) (f:=fun(v:Nat)=>[((1:Int),(v:Int),(0:Int))]) (evy g 3 cap) (λ_ _=>zAg _) (λv b i h e=>?_) (λb i _=>?_) (by omega)).trans ?_
 .unfold uN;dsimp only;rw[if_pos (by omega),cR (by simp;omega),dC (by omega)]
 .unfold uN;dsimp only;rw[if_neg (by omega)]
 .have c:((List.range g.2.length).flatMap fun(v:Nat)=>[((1:Int),(v:Int),(0:Int))])=acZ g:=rfl;rw[c];unfold zS;rw[bF (show jG 1000 2 1 (g.1,g.2) _=_ from JV a 2 (t:=1) (by omega) _ (by simp;omega)),bF (show jG 1000 3 (cap:Int) (g.1,g.2) _=_ from JV a 3 d _ (by simp;omega))];simp only[zB6]
end
end Go.Proofs.YtgciopekomcbfaaGreatDoor
namespace Go.Proofs.YtgciopekomcbfaaGreatDoor
open Go.Sx
def sJ (a:Bool):Option Bool:=
 some (a)
def zF (U:Nat) (a:Int):Option Bool:=
 if(1:Int)<=a then(sJ (decide (a<=(4:Int))))else(sJ (false))
theorem adT:aU prog 125:=call125
theorem Nh (U:Nat) {b:Int} (r:Bool) (h:zF U b=some r):
  a_ prog 125 #[vI (b)] [] (λx:Unit=>vB (r)) (λx l=>l) (λ_ l=>l):=by
 refine a_.of func125 Z ntmps125 Z λc=>?_;refine aP<|aC Z<|aM<|aK<|iA (λa=>sJ a=some r) (λa d=>[(2,vB (a))]) (λa d=>[]) ?_ ?_
 .refine aR<|aA Z<|aB (CV Z Z) Z<|aA Z ?_;refine GN h Z (λ_ h=>?_) λ_ h=>?_
  .refine iP Z<|bA Z (EM Z Z) Z<|gE Z<|aC Z<|aM ?_;exact j_ (decide (b<=(4:Int))) () h SF Z
  refine aQ Z<|aQ Z<|jD Z<|aC Z<|aM ?_;exact j_ (false) () h SF Z
 intro a d h;unfold sJ at h;refine aT ?_;cases h;exact mA Z
def Bh (U:Nat) (a:nM) (b:dM) (d:Int) (e:bE) (f:Int):Option (Int):=
 Option.bind (kY U ((a.1,a.2.1,a.2.2)) ((b.1,b.2)) e) λc=>(if c≠(0:Int)then(some (c))else(Option.bind (zF U d) λg=>(if(!g)=true then(some (12:Int))else(if(4096:Int)<f then(some (3:Int))else(some (0:Int))))))
theorem ahn:aU prog 72:=call72
theorem TF (U:Nat) {a:nM} {g:dM} {j:Int} {k:bE} {m:Int} (b d e f:V0) (n:mS) (i:V0) (o:lI) (r:Int) (h:Bh U a g j k m=some r):
  a_ prog 72 #[Value.agg #[vS (a.1),b,d],Value.agg #[e,f],vI (j),i,vI (m)] [Sl aH b a.2.1,Sl aD d a.2.2,PF (Value.agg #[vS a.1,b,d]),Sl aL e g.1,S2 aY f n g.2,S2 aL i o k] (λx:Unit=>vI (r)) (λx l=>l) (λ_ l=>l):=by
 refine a_.of func72 Z ntmps72 Z λc=>?_;refine aP<|aI (aN.box (cs:=[vS (a.1),b,d]) Z Z) Z λu=>aI (aN.box (cs:=[e,f]) Z Z) Z λv=>aC Z<|aM<|aK<|aP<|dL 1 Z<|dL 0 Z<|aA Z<|fP h λp s h=>aI (zBk Wj (FU U b d e f n i o p s) Z (jS [0,1,2,3,4,5] Z)) Z λw=>aC Z<|aM<|aP<|aA Z<|oZ Z<|aM ?_;refine eI h Z (λh=>?_) λh=>?_
 .refine aP<|aA Z<|aC Z<|aM<|aT<|aJ ?_;cases h;exact xT Z
 refine cQ<|aK<|aP<|aA Z<|fP h λq t h=>aI (zBk adT (Nh U q t) Z .nil) Z λy=>aB (sI Z) Z<|aM ?_;refine Ca h Z (λ_ h=>?_) λ_ h=>?_
 .refine aP<|aC Z<|aM<|aT<|aJ ?_;cases h;exact xT Z
 refine cQ<|aK<|aP<|aA Z<|aB (wM Z Z) Z<|aM ?_;refine eI h Z (λh=>?_) λh=>?_
 .refine aP<|aC Z<|aM<|aT<|aJ ?_;cases h;exact xT Z
 refine cQ<|aP<|aC Z<|aM<|aT ?_;cases h;exact xT Z
def vD (U:Nat) (a:bE) (b:Int) (c:Ho):Option (Unit):=
 some (())
theorem aai:aU prog 74:=call74
theorem IU (U:Nat) {b:bE} {d:Int} {a:Ho} (e:V0) (f:lI) (r:Unit) (h:vD U b d a=some r):
  a_ prog 74 #[e,vU (d),Value.agg #[vI (a.1),vI (a.2.1),vI (a.2.2.1),vI (a.2.2.2.1),vU (a.2.2.2.2)]] [S2 aL e f b] (λx:Unit=>Value.tuple #[]) (λx l=>l) (λ_ l=>l):=by
 refine a_.of func74 Z ntmps74 Z λc=>?_;unfold vD at h;refine aR<|aI (aN.box (cs:=[vI (a.1),vI (a.2.1),vI (a.2.2.1),vI (a.2.2.2.1),vU (a.2.2.2.2)]) Z Z) Z λg=>eW ?_;cases h;exact HZ () Z Z .normal (.inr Z) .nil aF.nil
def xP (U:Nat) (a:Int):Option ((Int×Int×Int×Int×Int)):=
 some (((0:Int),(0:Int),(0:Int),(0:Int),(fF .u32 a (16777215:Int))))
theorem aeb:aU prog 175:=call175
theorem KM (U:Nat) {a:Int} (r:(Int×Int×Int×Int×Int)) (h:xP U a=some r):
  a_ prog 175 #[vU (a)] [] (λx:Unit=>Value.agg #[vI (r.1),vI (r.2.1),vI (r.2.2.1),vI (r.2.2.2.1),vU (r.2.2.2.2)]) (λx l=>l) (λ_ l=>l):=by
 refine a_.of func175 Z ntmps175 Z λc=>?_;unfold xP at h;refine aP<|aI (aN.alloc (cs:=vD1) Z Z) Z λb=>aM<|aP<|aA Z<|BG Z ?_;refine aB (Ps (r:=Value.agg #[vI (0:Int),vI (0:Int),vI (0:Int),vI (0:Int),vU (fF .u32 a (16777215:Int))]) Z (by intro w;simp[Instr.build,Instr.fill,cY,cI,cD,cZ,c_,cJ,dU])) Z ?_;refine bQ 0 (vs:=[vI (0:Int),vI (0:Int),vI (0:Int),vI (0:Int),vU (fF .u32 a (16777215:Int))]) Z Z Z Z Z Z<|aM<|aT ?_;cases h;exact fD () Z Z (RV.cell 0 Z Z Z Z) .nil aF.nil
def DC (a:acH):Option EJ:=
 some (((a.2.2.2.2.2.2.1,a.2.2.2.2.2.2.2.1,a.2.2.2.2.2.2.2.2,((a.1,a.2.1,a.2.2.1,a.2.2.2.1,a.2.2.2.2.1)))),a.2.2.2.2.2.1)
def AQ (a:aW×aW×bE×Int×Int×Int×Int×Int×Int):Option EJ:=
 DC (a.2.2.2.1,a.2.2.2.2.1,a.2.2.2.2.2.1,a.2.2.2.2.2.2.1,a.2.2.2.2.2.2.2.1,a.2.2.2.2.2.2.2.2,a.1,a.2.1,a.2.2.1)
def wX (a:aW×Int×Int×Int×Int×Int×bE×aW):Option EJ:=
 AQ (a.2.2.2.2.2.2.2,a.1,a.2.2.2.2.2.2.1,a.2.1,a.2.2.1,a.2.2.2.1,a.2.2.2.2.1,a.2.2.2.2.2.1,(0:Int))
def DD (U:Nat) (f:nM) (j:dM) (l:Int) (c:Int×aW×fY×Int×bE) (a:Int×aW×Int×Int×Int×Int×Int×Int×bE×aW) (h:(Int×aW×Int×Int×Int×Int×Int×Int×bE×aW)->Option EJ) (d:Int):Option EJ:=
 if¬(a.1≠(0:Int))then(wX (a.2.1,a.2.2.2.1,a.2.2.2.2.1,a.2.2.2.2.2.1,a.2.2.2.2.2.2.1,a.2.2.2.2.2.2.2.1,a.2.2.2.2.2.2.2.2.1,a.2.2.2.2.2.2.2.2.2))else(Option.bind (gU U c.2.1 l a.1 d) λi=>(if(!i)=true then(AQ (([]:aW),([]:aW),([]:bE),(0:Int),(0:Int),(0:Int),(0:Int),(0:Int),(11:Int)))else(Option.bind (kP U ((((f.1,f.2.1,f.2.2)),((((f.1,f.2.1,f.2.2)),((j.1,j.2)),c.2.2.2.1,c.2.2.2.2)),c.2.2.1)) a.2.2.2.2.2.2.2.2.1 d) λg=>(Option.bind (fL U ((((f.1,f.2.1,f.2.2)),((((f.1,f.2.1,f.2.2)),((j.1,j.2)),c.2.2.2.1,c.2.2.2.2)),c.2.2.1)) g) λe=>(Option.bind (jX U ((a.2.2.2.1,a.2.2.2.2.1,a.2.2.2.2.2.1,a.2.2.2.2.2.2.1,a.2.2.2.2.2.2.2.1)) d (fF .u32 e c.1)) λb=>(Option.bind (vD U g (fF .u32 e c.1) ((b.1.1,b.1.2.1,b.1.2.2.1,b.1.2.2.2.1,b.1.2.2.2.2))) λk=>(ck ((a.2.2.2.2.2.2.2.2.2.length:Int)+(List.length ([d]):Int)<=1099511627) (ck ((a.2.1.length:Int)+(List.length ([(fF .u32 e c.1)]):Int)<=1099511627) (h ((fF .u32 e c.1),(a.2.1++([(fF .u32 e c.1)])),(wI .i64 (a.2.2.1+(1:Int))),b.1.1,b.1.2.1,b.1.2.2.1,b.1.2.2.2.1,b.1.2.2.2.2,g,(a.2.2.2.2.2.2.2.2.2++[d])))))))))))
def wZ (U:Nat) (g:nM) (h:dM) (f:Int) (e:aW) (c:Int×aW×fY×Int×bE) (a:Int×aW×Int×Int×Int×Int×Int×Int×bE×aW) (b:(Int×aW×Int×Int×Int×Int×Int×Int×bE×aW)->Option EJ):Option EJ:=
 if a.2.2.1<(e.length:Int)then(ck (0<=a.2.2.1/\a.2.2.1<(e.length:Int)) (Option.bind (d_ U c.2.1 f a.1 (at' e a.2.2.1)) λd=>(DD U g h f c a b (d))))else(wX (a.2.1,a.2.2.2.1,a.2.2.2.2.1,a.2.2.2.2.2.1,a.2.2.2.2.2.2.1,a.2.2.2.2.2.2.2.1,a.2.2.2.2.2.2.2.2.1,a.2.2.2.2.2.2.2.2.2))
def Dz (U:Nat) (d:nM) (f:dM) (g:Int) (h:bE) (i:aW) (b:Int×aW×fY×Int×bE):Option EJ:=
 Option.bind (mF U h) λe=>(Option.bind (fL U ((((d.1,d.2.1,d.2.2)),((((d.1,d.2.1,d.2.2)),((f.1,f.2)),b.2.2.2.1,b.2.2.2.2)),b.2.2.1)) e) λc=>(Option.bind (xP U (fF .u32 c b.1)) λa=>(Option.bind (vD U e (fF .u32 c b.1) ((a.1,a.2.1,a.2.2.1,a.2.2.2.1,a.2.2.2.2))) λj=>(ck ((List.length ([]:aW):Int)+(List.length ([(fF .u32 c b.1)]):Int)<=1099511627) (bN (wZ U d f g i b) U ((fF .u32 c b.1),(([]:aW)++([(fF .u32 c b.1)])),(0:Int),a.1,a.2.1,a.2.2.1,a.2.2.2.1,a.2.2.2.2,e,([]:aW)))))))
def AR (U:Nat) (e:nM) (b:dM) (f:Int) (g:bE) (h:aW) (a:fY×Int×bE):Option EJ:=
 Option.bind (pF U ((b.1,b.2))) λc=>(Option.bind (Bg U ((b.1,b.2))) λd=>(Dz U e b f g h (d,c,a.1,a.2.1,a.2.2)))
def AS (U:Nat) (c:nM) (d:dM) (e:Int) (f:bE) (g:aW) (a:Dj):Option EJ:=
 Option.bind (gZ U ((c.1,c.2.1,c.2.2)) ((d.1,d.2))) λb=>(AR U c d e f g (b,a.1,a.2))
def wY (U:Nat) (b:nM) (c:dM) (d:Int) (e:bE) (f:aW) (a:Dj):Option EJ:=
 AS U b c d e f (a.1,a.2)
def AT (d:dM) (a:Int×Int×bE) (b:Hr->Option EJ) (c:bE):Option EJ:=
 b ((wI .i64 (a.1+(1:Int))),(max a.2.1 (at' d.1 a.1)),c)
def s_ (U:Nat) (f:dM) (a:Int×Int×bE) (d:Hr->Option EJ) (b:Dj) (e:(Int×bE)->Option EJ):Option EJ:=
 if b.1<((at' f.2 a.1).length:Int)then(ck (0<=b.1/\b.1<((at' f.2 a.1).length:Int)) (ck (0<=a.1/\a.1<(b.2.length:Int)) (Option.bind (jY U ((f.1,f.2)) ((at' (at' f.2 a.1) b.1).1) a.1) λc=>(ck (((at' b.2 a.1).length:Int)+(List.length ([c]):Int)<=1099511627) (ck (0<=a.1/\a.1<((List.set b.2 (Int.toNat a.1) ((at' b.2 a.1)++[c])).length:Int)) (e ((wI .i64 (b.1+(1:Int))),(List.set b.2 (Int.toNat a.1) ((at' b.2 a.1)++[c])))))))))else(AT f a d (b.2))
def nS (U:Nat) (d:nM) (c:dM) (e:Int) (f:bE) (g:aW) (a:Int×Int×bE) (b:Hr->Option EJ):Option EJ:=
 if a.1<(c.2.length:Int)then(ck (0<=a.1/\a.1<(c.2.length:Int)) (ck (0<=a.1/\a.1<(c.1.length:Int)) (bN (s_ U c a b) U ((0:Int),a.2.2))))else(wY U d c e f g (a.2.1,a.2.2))
def r_ (U:Nat) (b:nM) (a:dM) (c:Int) (d:bE) (e:aW):Option EJ:=
 Option.bind (Bh U ((b.1,b.2.1,b.2.2)) ((a.1,a.2)) c d (e.length:Int)) λf=>(if f≠(0:Int)then(some (((([]:aW),([]:aW),([]:bE),(((0:Int),(0:Int),(0:Int),(0:Int),(0:Int))))),f))else(ck (0<=(a.2.length:Int)/\(a.2.length:Int)<=1099511627) (bN (nS U b a c d e) U ((0:Int),(0:Int),(List.replicate (Int.toNat (a.2.length:Int)) ([]:aW))))))
theorem ahb:aU prog 13:=call13
theorem QS (U:Nat) {n:nM} {C:dM} {R:Int} {p3:bE} {p4:aW} (p q v t:V0) (z4:mS) (v5:V0) (z6:lI) (v7:V0) (r:(aW×aW×bE×(Int×Int×Int×Int×Int))×Int) (h:r_ U n C R p3 p4=some r):
  a_ prog 13 #[Value.agg #[vS (n.1),p,q],Value.agg #[v,t],vI (R),v5,v7] [Sl aH p n.2.1,Sl aD q n.2.2,PF (Value.agg #[vS n.1,p,q]),Sl aL v C.1,S2 aY t z4 C.2,S2 aL v5 z6 p3,Sl Eh v7 p4,Gb 0 (cellsOf Ff sS)] (λx:V0×V0×V0×List V0=>Value.tuple #[Value.agg #[x.1,x.2.1,x.2.2.1,vI (r.1.2.2.2.1),vI (r.1.2.2.2.2.1),vI (r.1.2.2.2.2.2.1),vI (r.1.2.2.2.2.2.2.1),vU (r.1.2.2.2.2.2.2.2)],vI (r.2)]) (λx l=>Ar qG x.1 r.1.1::Ar qG x.2.1 r.1.2.1::Ar bI.raw x.2.2.1 x.2.2.2::fE dW x.2.2.2 r.1.2.2.1::l) (λ_ l=>l):=by
 refine a_.of func13 Z ntmps13 Z λc=>?_;refine aP<|aI (aN.box (cs:=[vS (n.1),p,q]) Z Z) Z λb1=>aI (aN.box (cs:=[v,t]) Z Z) Z λb2=>aI (aN.alloc (cs:=KD) Z Z) Z λb3=>aC Z<|aM<|aK<|aP<|dL 2 Z<|dL 1 Z<|aA Z<|aA Z<|aA Z<|kG (JB Z) Z<|fP h λr4 w5 h=>aI (zBk ahn (TF U p q v t z4 v5 z6 r4 w5) Z (jS [0,1,2,3,4,5] Z)) Z λx6=>aC Z<|aM<|aP<|aA Z<|oZ Z<|aM ?_;refine eI h Z (λh=>?_) λh=>?_
 .refine aP ?_;refine aB (Dm (r:=Value.agg #[eV,eV,eV,vI (0:Int),vI (0:Int),vI (0:Int),vI (0:Int),vU (0:Int)]) (by intro w;simp[Instr.build,Instr.fill,cY,cI,cD,cZ,c_,cJ,dU])) Z ?_;refine aA Z<|bQ 0 (vs:=KD) Z Z Z Z Z Z<|aC Z<|aM<|aT<|aJ<|cF (fK qG)<|cF (fK qG)<|cF (fK bI.raw) (cF (kL dW) ?_);cases h;exact kU ((eV),(eV),(eV),([]:e_)) Z Z (RV.cell 4 Z Z Z Z) (RV.tmp Z) (aX.ix [2,3,1,0] Z Z) aF.nil
 refine cQ<|aP<|dL 2 Z<|dL 1 Z<|aA Z<|vY (A:=Int×aW×fY×Int×bE) (B:=Nat×V0×Nat×V0×List V0×V0×List V0) (vs:=[Value.agg #[vS (n.1),p,q],Value.agg #[v,t],vI (R),Value.func (.func 74) #[] #[]]) (λd=>Dz U n C R p3 p4 d=some r) (λd a=>Value.agg #[vP a.1,a.2.1,vI (R),vU (d.1),Value.func (.func 74) #[] #[]]) (λd a=>[Ar qG a.2.1 d.2.1,bH a.1 [vS (n.1),p,q,vP a.2.2.1,a.2.2.2.1] 180,Ar bI.raw a.2.2.2.1 a.2.2.2.2.1,fE bO a.2.2.2.2.1 d.2.2.1,bH a.2.2.1 [vS (n.1),p,q,v,t,vI (d.2.2.2.1),a.2.2.2.2.2.1] 225,Ar bI.raw a.2.2.2.2.2.1 a.2.2.2.2.2.2,fE dW a.2.2.2.2.2.2 d.2.2.2.2,bH b3 KD 59]) (λd a=>[Sl aH p n.2.1,Sl aD q n.2.2,PF (Value.agg #[vS n.1,p,q]),Sl aL v C.1,S2 aY t z4 C.2,S2 aL v5 z6 p3,Sl Eh v7 p4,Gb 0 (cellsOf Ff sS)]) (nY.fn (show aU prog 73 from call73) Z) func73 Z ntmps73 Z Z ?_ ?_
 .refine aP<|aI (aN.box (cs:=[vS (n.1),p,q]) Z Z) Z λW=>aI (aN.box (cs:=[v,t]) Z Z) Z λX=>aI (aN.alloc (cs:=vD2) Z Z) Z λaa=>aM<|aK ?_;refine yP [0,0,3,0,15,0,0,95,0,511,1023] 9 mixedOrders ?_;refine nP 2 Z<|nP 1 Z<|Gk (A:=fY×Int×bE) (B:=Nat×Nat×V0×List V0×V0×List V0) (vs:=[Value.agg #[vS (n.1),p,q],Value.agg #[v,t]]) (λI=>AR U n C R p3 p4 I=some r) (λI m=>vP m.1) (λI m=>[bH m.1 [vS (n.1),p,q,vP m.2.1,m.2.2.1] 180,Ar bI.raw m.2.2.1 m.2.2.2.1,fE bO m.2.2.2.1 I.1,bH m.2.1 [vS (n.1),p,q,v,t,vI (I.2.1),m.2.2.2.2.1] 225,Ar bI.raw m.2.2.2.2.1 m.2.2.2.2.2,fE dW m.2.2.2.2.2 I.2.2,bH aa vD2 91,bH X [v,t] 28,bH W [vS (n.1),p,q] 33,bH b3 KD 59]) (λI m=>[Sl aH p n.2.1,Sl aD q n.2.2,PF (Value.agg #[vS n.1,p,q]),Sl aL v C.1,S2 aY t z4 C.2,S2 aL v5 z6 p3,Sl Eh v7 p4,Gb 0 (cellsOf Ff sS)]) Z Z Z (nY.fn (show aU prog 116 from call116) Z) func116 Z ntmps116 Z Z (λ_ _=>(pB [] Z)) ?_ ?_
  .refine aP<|aI (aN.box (cs:=[vS (n.1),p,q]) Z Z) Z λae=>aI (aN.box (cs:=[v,t]) Z Z) Z λaf=>aC Z<|aM<|aK ?_;refine yP [0,0,0,6,0,0,62,127,255,511] 7 mixedOrders ?_;refine nP 1 Z<|nP 1 Z<|nP 0 Z<|Gk (A:=Dj) (B:=Nat×V0×List V0) (vs:=[Value.agg #[vS (n.1),p,q],Value.agg #[v,t]]) (λM=>AS U n C R p3 p4 M=some r) (λM y=>vP y.1) (λM y=>[bH y.1 [vS (n.1),p,q,v,t,vI (M.1),y.2.1] 225,Ar bI.raw y.2.1 y.2.2,fE dW y.2.2 M.2,bH af [v,t] 28,bH ae [vS (n.1),p,q] 33,bH aa vD2 91,bH X [v,t] 28,bH W [vS (n.1),p,q] 33,bH b3 KD 59]) (λM y=>[Sl aH p n.2.1,Sl aD q n.2.2,PF (Value.agg #[vS n.1,p,q]),Sl aL v C.1,S2 aY t z4 C.2,S2 aL v5 z6 p3,Sl Eh v7 p4,Gb 0 (cellsOf Ff sS)]) Z Z Z (nY.fn (show aU prog 169 from call169) Z) func169 Z ntmps169 Z Z (λ_ _=>(pB [([4],[])] Z)) ?_ ?_
   .refine aP<|aI (aN.box (cs:=[vS (n.1),p,q]) Z Z) Z λcn=>aI (aN.box (cs:=[v,t]) Z Z) Z λab=>aC Z<|aM<|aK ?_;refine yP [0,0,0,4,12,28,63,127,255] 6 mixedOrders ?_;refine nP 1 Z<|nP 0 Z<|cN Z<|gW 0 Z<|bK Z .nil (nD 4 Z) (fN Z (dH Z) Z) aO.z<|dV h λbw h=>zBn (yJ dW (Int.toNat (C.2.length:Int)))<|zBl Z Z Z (tZ (e:=bI.raw) (eV) Z Z Z Z bw Z Z Z) Z (λF=>(pB [([2],[]),([3],[])] Z)) λF=>bU 6 Z Z<|bG (AA (cC (i:=0) (j:=1) Z Z fG)) λbg=>?_;refine aB (LR (r:=Value.agg #[vS (n.1),p,q,v,t,vI (0:Int),F]) Z Z Z (by intro w;simp[Instr.build,Instr.fill,cY,cI,cD,cZ,c_,cJ,dU,f_ bg])) Z ?_;refine aI (aN.box (cs:=[vS (n.1),p,q,v,t,vI (0:Int),F]) Z Z) Z λN=>aC Z<|aM<|aK<|Ez (B:=e_) (λO=>wY U n C R p3 p4 O=some r) (λO ag=>[(5,vP N)]) (λO ag=>[bH N [vS (n.1),p,q,v,t,vI (O.1),F] 225,Ar bI.raw F ag,fE dW ag O.2,bH af [v,t] 28,bH ae [vS (n.1),p,q] 33,bH aa vD2 91,bH X [v,t] 28,bH W [vS (n.1),p,q] 33,bH b3 KD 59]) ?_ ?_
    .refine aP<|bT Z<|dO 3 Z<|aB (fN Z (CN Z) Z) Z<|aA Z<|aM<|aS<|gC (B:=e_) (nS U n C R p3 p4) (λf ac=>[(3,vP ab),(5,vP N),(19,t),(20,vI (C.2.length:Int)),(21,vI (f.1))]) (λf ac=>[bH N [vS (n.1),p,q,v,t,vI (f.2.1),F] 225,Ar bI.raw F ac,fE dW ac f.2.2,bH ab [v,t] 28,bH af [v,t] 28,bH ae [vS (n.1),p,q] 33,bH aa vD2 91,bH X [v,t] 28,bH W [vS (n.1),p,q] 33,bH b3 KD 59]) ((0:Int),(0:Int),(List.replicate (Int.toNat (C.2.length:Int)) ([]:aW))) (List.replicate (Int.toNat (C.2.length:Int)) (eV)) h SF (aX.ix [0,1,2,3,5,6,7,8,9,10] Z Z) ?_;intro a0 f ac h;refine aP<|dD Z<|aM<|aK ?_;refine eI h Z (λh=>?_) λh=>?_
     .refine cQ<|aK<|Ez (B:=e_) (λV=>AT C f (bN (nS U n C R p3 p4) a0) V=some r) (λV ah=>[(3,vP ab),(5,vP N),(19,t),(20,vI (C.2.length:Int)),(21,vI (f.1))]) (λV ah=>[bH N [vS (n.1),p,q,v,t,vI (max f.2.1 (at' C.1 f.1)),F] 225,Ar bI.raw F ah,fE dW ah V,bH ab [v,t] 28,bH af [v,t] 28,bH ae [vS (n.1),p,q] 33,bH aa vD2 91,bH X [v,t] 28,bH W [vS (n.1),p,q] 33,bH b3 KD 59]) ?_ ?_
      .refine aS<|aP<|aA Z<|dV h λP h=>aB (cA Z Z (CN Z) Z Z P) Z<|aB (cW Z (CN Z) Z Z P) Z<|aC Z<|aC Z<|aM<|aK ?_;refine yP [0,0,2,6,14,0,32,0,224,480,1022,2047,4095,8191] 11 mixedOrders ?_;refine bD Z<|bD Z<|jL Z (bL Z)<|cN Z<|gW 0 Z<|cN Z<|gW 3 Z<|bD Z<|dV h λaQ h=>bK Z .nil (nD 3 Z) (bR Z Z (dH Z) Z Z aQ) aO.z<|bK Z .nil (nD 3 Z) (cK Z (dH Z) Z Z Z gF aQ) aO.z<|jL Z (LU Z Z)<|bU 11 Z Z<|aB (bL Z) Z<|bT Z<|fS 0 Z Z Z Z Z Z<|aM<|aP<|aA Z<|aB (iN Z (zBm (CN Z) P.1 P.2) Z) Z<|aA Z<|aM<|aS<|gC (B:=e_) (s_ U C f (bN (nS U n C R p3 p4) a0)) (λE ad=>[(3,vP ab),(5,vP N),(6,vI (f.1)),(19,t),(20,vI (C.2.length:Int)),(21,vI (f.1)),(39,(at' z4 f.1).1),(40,vI ((at' C.2 f.1).length:Int)),(41,vI (E.1))]) (λE ad=>[bH N [vS (n.1),p,q,v,t,vI (max f.2.1 (at' C.1 f.1)),F] 225,Ar bI.raw F ad,fE dW ad E.2,bH ab [v,t] 28,bH af [v,t] 28,bH ae [vS (n.1),p,q] 33,bH aa vD2 91,bH X [v,t] 28,bH W [vS (n.1),p,q] 33,bH b3 KD 59]) ((0:Int),f.2.2) (ac) h SF (aX.refl _) ?_;intro cp E ad h;refine aP<|dD Z<|aM<|aK ?_;refine eI h Z (λh=>?_) λh=>?_
       .refine cQ<|aK<|aS<|aP<|dV h λaV h=>aB (bR Z Z (zBm (CN Z) P.1 P.2) Z Z aV) Z<|aB (gT (cs:=[vI ((at' (at' C.2 f.1) E.1).1),vI ((at' (at' C.2 f.1) E.1).2)]) Z (zBm (CN Z) P.1 P.2) bX Z Z Z Z aV) Z<|aI (aN.alloc (cs:=Uj) Z Z) Z λco=>bQ 0 (vs:=[vI ((at' (at' C.2 f.1) E.1).1),vI ((at' (at' C.2 f.1) E.1).2)]) Z Z Z Z Z Z<|aM ?_;refine yP [0,1,3,7,0,0,32,96,224,0,992,2016,0,0,8192,0,61440,126976,262112,524287,1048575] 19 mixedOrders ?_;refine bD Z<|jL Z (bL Z)<|cN Z<|gW 1 Z<|bD Z<|bD Z<|jL Z (bL Z)<|cN Z<|gW 1 Z<|bD Z<|dV h λao h=>bJ (dQ 3 Z) λa6=>?_;refine bK Z (aX.cons 2 Z .nil) .nil (sH 0 Z Z Z Z Z ao.1 (by have q1:=ao.2;have q2:=a6;(try simp only[zA2]at q1);(try simp only[zA2]at q2);(try simp only[zA2]);omega)) aO.z ?_;refine bJ (dQ 3 Z) λa7=>bK Z (aX.cons 2 Z .nil) .nil (jT 0 Z Z a7 Z Z ao) aO.z<|nP 4 Z<|cN Z<|gW 0 Z<|bD Z<|fP h λai b9 h=>zBl Z Z Z (zBk PG (CF U v t z4 ai b9) Z (jS [3,4] Z)) Z (λcd=>(pB [([2],[]),([2],[]),([1],[]),([1],[])] Z)) λcd=>zBl Z Z Z (b_ (e:=dW) ([ai]) [(0,vI (ai))] Z Z Z Z (gY (vI (ai)) Z) Z Z Z) Z (λbM=>(pB [([3],[]),([3],[]),([2],[]),([2],[])] Z)) λbM=>dV h λbx h=>zBl Z Z Z (pA 4 fG Z Z Z (bP (aG.res 0 Z) fG) Z Z Z Z ao bx Z) Z (λa4=>(pB [([2],[])] Z)) λa4=>bU 19 Z Z<|dV h λQ h=>bG (dQ 4 Z) λa8=>?_;refine aB (sH 3 Z Z Z Z Z Q.1 (by have q1:=Q.2;have q2:=a8;(try simp only[zA2]at q1);(try simp only[zA2]at q2);(try simp only[zA2]);omega)) Z ?_;refine bG (Fh 4 (k:=f.1) Z ⟨Q.1,by first|exact Q.2|simpa using Q.2⟩) λbh=>?_;refine tU 3 4 ⟨Q.1,by first|exact Q.2|simpa using Q.2⟩ Z Z Z Z Z (by simp) bh Z ?_;refine eW<|m_<|aR<|cU Z<|aA Z<|aM ?_;exact iH ((wI .i64 (E.1+(1:Int))),(List.set E.2 (Int.toNat f.1) ((at' E.2 f.1)++[ai]))) (List.set ad (Int.toNat f.1) a4) h SF (aX.ix [2,3,4,5,6,7,8,9,10,11] Z Z) (aF.refl _ _)
       refine tB<|fT<|fT<|Aj<|m_ ?_;exact j_ (E.2) (ad) h SF Z
      intro V ah h;unfold AT at h;refine aR<|cU Z<|aA Z<|aM ?_;exact BD ((wI .i64 (f.1+(1:Int))),(max f.2.1 (at' C.1 f.1)),V) (ah) h SF Z
     refine fO ?_;exact cT (f.2.1,f.2.2) (ac) h SF (aX.ix [0,1,2,4,5,6,7,8,9] Z Z) (aF.refl _ _)
    intro O ag h;unfold wY at h;refine aP<|aA Z<|aC Z<|aM<|aT ?_;exact jN (O.1,O.2) (N,F,ag) h (.inl Z) (CO.r1 Z (RV.tmp Z)) Z (aX.refl _) (aF.refl _ _)
   intro M y h;unfold AS at h;refine bK Z (aX.cons 4 Z .nil) .nil (fZ 0 Z Z Z Z) (aO.h (aX.ix [1] Z Z) .nil aO.z)<|bK Z (aX.cons 3 Z .nil) .nil (fZ 0 Z Z Z Z) (aO.h (aX.ix [0] Z Z) .nil aO.z)<|fP h λa3 b8 h=>zBl Z Z Z (zBk Lc (Ad U p q v t z4 a3 b8) Z (jS [0,1,2,3,4] Z)) Z (λaj=>(pB [([6],[])] Z)) λaj=>bU 7 Z Z<|bG (AA (cC (i:=0) (j:=1) Z Z bX)) λbf=>?_;refine aB (LR (r:=Value.agg #[vS (n.1),p,q,Value.pointer (some ⟨y.1,0,none⟩),aj.1]) Z Z Z (by intro w;simp[Instr.build,Instr.fill,cY,cI,cD,cZ,c_,cJ,dU,f_ bf])) Z ?_;refine aI (aN.box (cs:=[vS (n.1),p,q,vP y.1,aj.1]) Z Z) Z λbi=>aC Z<|aM<|aT ?_;exact jN (a3,M.1,M.2) (bi,y.1,aj.1,aj.2,y.2.1,y.2.2) h (.inl Z) (CO.r1 Z (RV.tmp Z)) Z (aX.ix [0,1,2,3,4,5,8,9,10,11] Z Z) (aF.refl _ _)
  intro I m h;unfold AR at h;refine bK Z (aX.cons 7 Z .nil) .nil (fZ 0 Z Z Z Z) (aO.h (aX.ix [1] Z Z) .nil aO.z)<|fP h λa2 b6 h=>zBl Z Z Z (zBk adU (KO U v t z4 a2 b6) Z (jS [3,4] Z)) Z (λar=>(pB [] Z)) λar=>jL Z (iO Z)<|bK Z (aX.cons 8 Z .nil) .nil (fZ 0 Z Z Z Z) (aO.h (aX.ix [7] Z Z) .nil (aO.h (aX.ix [1] Z Z) .nil aO.z))<|fP h λaq b7 h=>zBl Z Z Z (zBk adV (TE U v t z4 aq b7) Z (jS [3,4] Z)) Z (λcc=>(pB [] Z)) λcc=>jL Z (iO Z)<|bU 9 Z Z<|bG (Know.one ((bP (aG.res 0 Z) tK))) λbd=>?_;refine aB (Y.bld5 (r:=Value.agg #[Value.pointer (some ⟨m.1,0,none⟩),ar,vI (R),vU (aq),Value.func (.func 74) #[] #[]]) Z Z Z Z Z (by intro w;simp[Instr.build,Instr.fill,cY,cI,cD,cZ,c_,cJ,dU,f_ bd])) Z ?_;refine bG (Know.one ((bP (aG.res 0 Z) tK))) λbe=>bQ 7 (vs:=[vP m.1,ar,vI (R),vU (aq),Value.func (.func 74) #[] #[]]) Z Z (eJ Z (eJ be (eJ Z (eJ Z (eJ Z Z))))) Z Z Z<|aM<|aT ?_;exact jN (aq,a2,I.1,I.2.1,I.2.2) (m.1,ar,m.2.1,m.2.2.1,m.2.2.2.1,m.2.2.2.2.1,m.2.2.2.2.2) h (.inl Z) (CO.r1 Z (RV.cell 7 Z Z Z Z)) Z (aX.ix [0,1,2,3,4,5,6,10] Z Z) (aF.refl _ _)
 intro d a h;refine aA Z<|aA Z<|vY (A:=acH) (B:=V0×V0×V0×List V0) (vs:=[Value.agg #[vP a.1,a.2.1,vI (R),vU (d.1),Value.func (.func 74) #[] #[]],v5,v7]) (λD=>DC D=some r) (λD G=>Value.tuple #[Value.agg #[G.1,G.2.1,G.2.2.1,vI (D.1),vI (D.2.1),vI (D.2.2.1),vI (D.2.2.2.1),vU (D.2.2.2.2.1)],vI (D.2.2.2.2.2.1)]) (λD G=>[bH b3 KD 59,Ar qG G.1 D.2.2.2.2.2.2.1,Ar qG G.2.1 D.2.2.2.2.2.2.2.1,Ar bI.raw G.2.2.1 G.2.2.2,fE dW G.2.2.2 D.2.2.2.2.2.2.2.2]) (λD G=>[Sl aH p n.2.1,Sl aD q n.2.2,PF (Value.agg #[vS n.1,p,q]),Sl aL v C.1,S2 aY t z4 C.2,S2 aL v5 z6 p3,Sl Eh v7 p4,Gb 0 (cellsOf Ff sS)]) (nY.fn (show aU prog 75 from call75) Z) func75 Z ntmps75 Z Z ?_ ?_
 .refine aP<|aI (aN.box (cs:=[vP a.1,a.2.1,vI (R),vU (d.1),Value.func (.func 74) #[] #[]]) Z Z) Z λak=>bG (Know.one ((JB Z))) λbm=>?_;refine aI (aN.box (cs:=[v7]) Z (by rw[f_ bm])) Z λal=>?_;refine aI (aN.alloc (cs:=KD) Z Z) Z λay=>aC Z<|aM<|aP<|dL 2 Z<|aA Z<|dO 1 Z<|kG (JB Z) Z<|aB (uB (cs:=[.tmp 3,.tmp 5]) (vs:=[vP ak,vP al]) Z) Z<|vY (A:=aW×aW×bE×Int×Int×Int×Int×Int×Int) (B:=V0×V0×V0×List V0) (vs:=[Value.agg #[vP a.1,a.2.1,vI (R),vU (d.1),Value.func (.func 74) #[] #[]],v5,vI (p4.length:Int),Value.func (.func 129) #[] #[vP ak,vP al]]) (λs=>AQ s=some r) (λs H=>Value.tuple #[Value.agg #[H.1,H.2.1,H.2.2.1,vI (s.2.2.2.1),vI (s.2.2.2.2.1),vI (s.2.2.2.2.2.1),vI (s.2.2.2.2.2.2.1),vU (s.2.2.2.2.2.2.2.1)],vI (s.2.2.2.2.2.2.2.2)]) (λs H=>[bH ay KD 59,bH b3 KD 59,Ar qG H.1 s.1,Ar qG H.2.1 s.2.1,Ar bI.raw H.2.2.1 H.2.2.2,fE dW H.2.2.2 s.2.2.1]) (λs H=>[Sl aH p n.2.1,Sl aD q n.2.2,PF (Value.agg #[vS n.1,p,q]),Sl aL v C.1,S2 aY t z4 C.2,S2 aL v5 z6 p3,Sl Eh v7 p4,Gb 0 (cellsOf Ff sS)]) (nY.fn (show aU prog 128 from call128) Z) func128 Z ntmps128 Z Z ?_ ?_
  .refine aP<|aI (aN.box (cs:=[vP a.1,a.2.1,vI (R),vU (d.1),Value.func (.func 74) #[] #[]]) Z Z) Z λa5=>aI (aN.alloc (cs:=KD) Z Z) Z λav=>aC Z<|aM<|aP<|aI (aN.alloc (cs:=KD) Z Z) Z λaw=>aM<|aP<|aA Z<|fP h λaz ch h=>aI (zBk Ij (xC U v5 z6 az ch) Z (jS [5] Z)) Z λan=>aC Z<|aM<|aK ?_;refine yP [0,1,0,7,0,16,63,127] 6 mixedOrders ?_;refine cN Z<|gW 4 Z<|bD Z<|fP h λam ci h=>zBl Z Z Z (zBk Wr (yT U a.1 p q a.2.2.1 p q v t z4 a.2.2.2.2.2.1 (List.zip a.2.2.2.2.2.2 d.2.2.2.2) a.2.2.2.1 (List.zip a.2.2.2.2.1 d.2.2.1) an.1 (List.zip an.2 az) am ci) Z (aF.cons (aG.res 9 Z) (aF.cons (dH Z) (aF.cons (yQ Z) (aF.cons (aG.res 12 Z) (aF.cons (dH Z) (aF.cons (yQ Z) (aF.cons (Dw Z) (aF.cons (CN Z) (aF.cons (cC (i:=13) (j:=14) Z Z fG) (aF.cons (cC (i:=10) (j:=11) Z Z bX) (aF.cons (cC (i:=0) (j:=1) Z Z fG) .nil)))))))))))) Z (λcl=>(pB [] Z)) λcl=>jL Z (cV Z Z Z Z Z)<|bK Z (aX.cons 4 Z .nil) .nil (eB 0 Z Z Z Z Z) (aO.h (aX.ix [4] Z Z) .nil aO.z)<|bU 6 Z Z<|BG Z<|aC Z<|aM<|aP<|aA Z<|fP h λK cj h=>aI (zBk aeb (KM U K cj) Z .nil) Z λcx=>aI (aN.alloc (cs:=vD1) Z Z) Z λax=>bQ 0 (vs:=[vI (K.1),vI (K.2.1),vI (K.2.2.1),vI (K.2.2.2.1),vU (K.2.2.2.2)]) Z Z Z Z Z Z<|aM<|aP<|bT Z<|dO 5 Z<|aA Z<|aA Z<|dL 0 Z<|fP h λcf ck h=>aI (nN (vs:=[an.1,vU (fF .u32 am d.1),Value.agg #[vI (K.1),vI (K.2.1),vI (K.2.2.1),vI (K.2.2.2.1),vU (K.2.2.2.2)]]) (cs:=[]) aai Z (IU U an.1 (List.zip an.2 az) cf ck) Z (aF.cons (cC (i:=1) (j:=2) Z Z fG) .nil) (λ_ _=>rfl)) Z λcy=>aM<|aP<|bT Z<|dO 3 Z<|aA Z<|aI (b_ (e:=qG) ([(fF .u32 am d.1)]) [(0,vU (fF .u32 am d.1))] Z Z Z Z (gY (vU (fF .u32 am d.1)) Z) Z Z Z) Z λcw=>cF (fK qG)<|dV h λce h=>aI (fU 0 tK Z Z Z (bP (aG.res 1 Z) tK) Z Z Z Z ce Z) Z λcg=>bT Z<|bG (Know.one ((bP (aG.res 0 Z) tK))) λbq=>fS 5 Z Z bq Z Z Z<|aM<|aK<|Ez (B:=V0×List V0×V0×V0) (λo=>wX o=some r) (λo J=>[(1,J.1),(8,vP av),(10,vP aw),(12,vP ax)]) (λo J=>[Ar qG J.2.2.2 o.1,bH ax [vI (o.2.1),vI (o.2.2.1),vI (o.2.2.2.1),vI (o.2.2.2.2.1),vU (o.2.2.2.2.2.1)] 57,Ar bI.raw J.1 J.2.1,fE dW J.2.1 o.2.2.2.2.2.2.1,bH aw [J.2.2.1,J.2.2.2,eV,vI (0:Int),vI (0:Int),vI (0:Int),vI (0:Int),vU (0:Int)] 59,bH av KD 59,bH ay KD 59,bH b3 KD 59,Ar qG J.2.2.1 o.2.2.2.2.2.2.2]) ?_ ?_
   .refine aP<|aA Z<|aA Z<|aM<|aS<|cF (fK qG)<|gC (B:=V0×List V0×V0×V0) (wZ U n C R p4 d) (λb g=>[(1,g.1),(3,Value.func (.func 129) #[] #[vP ak,vP al]),(4,vP a5),(8,vP av),(10,vP aw),(11,vU (b.1)),(12,vP ax),(39,vI (p4.length:Int)),(40,vI (b.2.2.1))]) (λb g=>[Ar qG g.2.2.2 b.2.1,bH ax [vI (b.2.2.2.1),vI (b.2.2.2.2.1),vI (b.2.2.2.2.2.1),vI (b.2.2.2.2.2.2.1),vU (b.2.2.2.2.2.2.2.1)] 57,Ar bI.raw g.1 g.2.1,fE dW g.2.1 b.2.2.2.2.2.2.2.2.1,bH aw [g.2.2.1,g.2.2.2,eV,vI (0:Int),vI (0:Int),vI (0:Int),vI (0:Int),vU (0:Int)] 59,bH av KD 59,bH a5 [vP a.1,a.2.1,vI (R),vU (d.1),Value.func (.func 74) #[] #[]] 91,bH ay KD 59,bH al [v7] 54,bH ak [vP a.1,a.2.1,vI (R),vU (d.1),Value.func (.func 74) #[] #[]] 91,Ar qG a.2.1 d.2.1,bH a.1 [vS (n.1),p,q,vP a.2.2.1,a.2.2.2.1] 180,Ar bI.raw a.2.2.2.1 a.2.2.2.2.1,fE bO a.2.2.2.2.1 d.2.2.1,bH a.2.2.1 [vS (n.1),p,q,v,t,vI (d.2.2.2.1),a.2.2.2.2.2.1] 225,Ar bI.raw a.2.2.2.2.2.1 a.2.2.2.2.2.2,fE dW a.2.2.2.2.2.2 d.2.2.2.2,bH b3 KD 59,Ar qG g.2.2.1 b.2.2.2.2.2.2.2.2.2]) ((fF .u32 am d.1),(([]:aW)++([(fF .u32 am d.1)])),(0:Int),K.1,K.2.1,K.2.2.1,K.2.2.2.1,K.2.2.2.2,az,([]:aW)) (an.1,an.2,(eV),cg) h SF (aX.ix [1,3,4,5,6,7,8,9,10,11,12,13,14,15,16,17,18,19,0] Z Z) ?_;intro bz b g h;refine aP<|dD Z<|aM<|aK ?_;refine eI h Z (λh=>?_) λh=>?_
    .refine cQ<|aK<|aS<|aP<|aA Z<|aC Z<|aM<|aP<|aA Z<|aA Z<|aA Z<|vY (A:=Int) (B:=Unit) (vs:=[vI (b.2.2.1),vU (b.1),vP ak,vP al]) (λL=>DD U n C R d b (bN (wZ U n C R p4 d) bz) L=some r) (λL au=>Value.tuple #[vU (L),vB (decide (b.1≠(0:Int)))]) (λL au=>[Ar qG g.2.2.2 b.2.1,bH ax [vI (b.2.2.2.1),vI (b.2.2.2.2.1),vI (b.2.2.2.2.2.1),vI (b.2.2.2.2.2.2.1),vU (b.2.2.2.2.2.2.2.1)] 57,Ar bI.raw g.1 g.2.1,fE dW g.2.1 b.2.2.2.2.2.2.2.2.1,bH aw [g.2.2.1,g.2.2.2,eV,vI (0:Int),vI (0:Int),vI (0:Int),vI (0:Int),vU (0:Int)] 59,bH av KD 59,bH a5 [vP a.1,a.2.1,vI (R),vU (d.1),Value.func (.func 74) #[] #[]] 91,bH ay KD 59,bH al [v7] 54,bH ak [vP a.1,a.2.1,vI (R),vU (d.1),Value.func (.func 74) #[] #[]] 91,Ar qG a.2.1 d.2.1,bH a.1 [vS (n.1),p,q,vP a.2.2.1,a.2.2.2.1] 180,Ar bI.raw a.2.2.2.1 a.2.2.2.2.1,fE bO a.2.2.2.2.1 d.2.2.1,bH a.2.2.1 [vS (n.1),p,q,v,t,vI (d.2.2.2.1),a.2.2.2.2.2.1] 225,Ar bI.raw a.2.2.2.2.2.1 a.2.2.2.2.2.2,fE dW a.2.2.2.2.2.2 d.2.2.2.2,bH b3 KD 59,Ar qG g.2.2.1 b.2.2.2.2.2.2.2.2.2]) (λL au=>[Sl aH p n.2.1,Sl aD q n.2.2,PF (Value.agg #[vS n.1,p,q]),Sl aL v C.1,S2 aY t z4 C.2,S2 aL v5 z6 p3,Sl Eh v7 p4,Gb 0 (cellsOf Ff sS)]) (NQ (us:=[vI (b.2.2.1),vU (b.1)]) (cs:=[vP ak,vP al]) (show aU prog 129 from call129) Z Z Z) func129 Z ntmps129 Z Z ?_ ?_
     .refine aP<|aC Z<|aC Z<|aM<|aK ?_;refine yP [0,1,0,4,0,0,0,96,224,511,0,1024,1023,8191] 13 mixedOrders ?_;refine cN Z<|gW 9 Z<|cN Z<|gW 9 Z<|bD Z<|gW 8 Z<|bD Z<|dV h λaE h=>bK Z .nil (nD 6 Z) (bR Z Z (dH Z) Z Z aE) aO.z<|bK Z .nil (nD 6 Z) (cK Z (dH Z) Z Z Z Jo aE) aO.z<|fP h λa1 b5 h=>zBl Z Z Z (zBk Wk (Ab U a.2.1 a1 b5) Z (aF.cons (bP (aG.res 10 Z) tK) (jS [7] Z))) Z (λcb=>(pB [] Z)) λcb=>jL Z (iO Z)<|jL Z (Kl Z Z)<|jL Z (Cg Z)<|bU 13 Z Z<|aC Z<|aM<|aT ?_;exact jN (a1) () h (.inl Z) (CO.r2 Z (RV.tmp Z) (RV.tmp Z)) Z (aX.refl _) (aF.refl _ _)
     intro L au h;refine aA Z<|kF Z<|kF Z<|aC Z<|aC Z<|aM<|aK<|aP<|aA Z<|aB (agS Z) Z<|aM ?_;refine eI h Z (λh=>?_) λh=>?_
     .refine tB<|fT<|adu Z<|fT<|fT<|Aj<|CU ?_;exact cT (b.2.1,b.2.2.2.1,b.2.2.2.2.1,b.2.2.2.2.2.1,b.2.2.2.2.2.2.1,b.2.2.2.2.2.2.2.1,b.2.2.2.2.2.2.2.2.1,b.2.2.2.2.2.2.2.2.2) (g.1,g.2.1,g.2.2.1,g.2.2.2) h SF (aX.ix [0,1,2,3,4,5,7,17,18] Z Z) (aF.refl _ _)
     refine cQ<|aK<|aP<|bT Z<|dO 6 Z<|bT Z<|dO 6 Z<|aA Z<|aA Z<|fP h λbA bS h=>aI (zBk Ws (Aa U a.2.1 bA bS) Z (aF.cons (bP (aG.res 10 Z) tK) (jS [7] Z))) Z λct=>aB (sI Z) Z<|aM ?_;refine Ca h Z (λ_ h=>?_) λ_ h=>?_
     .refine aP ?_;refine aB (Dm (r:=Value.agg #[eV,eV,eV,vI (0:Int),vI (0:Int),vI (0:Int),vI (0:Int),vU (0:Int)]) (by intro w;simp[Instr.build,Instr.fill,cY,cI,cD,cZ,c_,cJ,dU])) Z ?_;refine bQ 5 (vs:=KD) Z Z Z Z Z Z<|aC Z<|aM<|aT<|aJ<|bW<|aJ<|aJ<|bW<|aJ<|cF (fK qG)<|cF (fK qG)<|cF (fK bI.raw) (cF (kL dW) ?_);exact jN (([]:aW),([]:aW),([]:bE),(0:Int),(0:Int),(0:Int),(0:Int),(0:Int),(11:Int)) ((eV),(eV),(eV),([]:e_)) h (.inl Z) (CO.r2 Z (RV.cell 9 Z Z Z Z) (RV.tmp Z)) Z (aX.ix [11,21,2,3,1,0] Z Z) (aF.refl _ _)
     refine cQ<|aP<|bT Z<|dO 6 Z<|aA Z<|aA Z<|fP h λap bV h=>aI (zBk aec (FP U a.1 p q a.2.2.1 p q v t z4 a.2.2.2.2.2.1 (List.zip a.2.2.2.2.2.2 d.2.2.2.2) a.2.2.2.1 (List.zip a.2.2.2.2.1 d.2.2.1) g.1 (List.zip g.2.1 b.2.2.2.2.2.2.2.2.1) ap bV) Z (aF.cons (aG.res 11 Z) (aF.cons (dH Z) (aF.cons (yQ Z) (aF.cons (aG.res 14 Z) (aF.cons (dH Z) (aF.cons (yQ Z) (aF.cons (Dw Z) (aF.cons (CN Z) (aF.cons (cC (i:=15) (j:=16) Z Z fG) (aF.cons (cC (i:=12) (j:=13) Z Z bX) (aF.cons (cC (i:=2) (j:=3) Z Z fG) .nil)))))))))))) Z λT=>aC Z<|aM<|aK ?_;refine yP [0,1,0,7,0,16,63,127] 6 mixedOrders ?_;refine cN Z<|gW 8 Z<|bD Z<|fP h λS bY h=>zBl Z Z Z (zBk Wr (yT U a.1 p q a.2.2.1 p q v t z4 a.2.2.2.2.2.1 (List.zip a.2.2.2.2.2.2 d.2.2.2.2) a.2.2.2.1 (List.zip a.2.2.2.2.1 d.2.2.1) T.1 (List.zip T.2 ap) S bY) Z (aF.cons (aG.res 13 Z) (aF.cons (dH Z) (aF.cons (yQ Z) (aF.cons (aG.res 16 Z) (aF.cons (dH Z) (aF.cons (yQ Z) (aF.cons (Dw Z) (aF.cons (CN Z) (aF.cons (cC (i:=17) (j:=18) Z Z fG) (aF.cons (cC (i:=14) (j:=15) Z Z bX) (aF.cons (cC (i:=0) (j:=1) Z Z fG) .nil)))))))))))) Z (λca=>(pB [] Z)) λca=>jL Z (cV Z Z Z Z Z)<|bK Z (aX.cons 8 Z .nil) .nil (eB 0 Z Z Z Z Z) (aO.h (aX.ix [8] Z Z) .nil aO.z)<|bU 6 Z Z<|BG Z<|aC Z<|aM<|aP<|dL 3 Z<|aA Z<|aA Z<|fP h λu b0 h=>aI (zBk aed (NF U u b0) Z .nil) Z λcu=>aA Z<|kF Z<|kF Z<|bQ 3 (vs:=[vI (u.1.1),vI (u.1.2.1),vI (u.1.2.2.1),vI (u.1.2.2.2.1),vU (u.1.2.2.2.2)]) Z Z Z Z Z Z<|aM<|aP<|bT Z<|dO 8 Z<|aA Z<|aA Z<|dL 3 Z<|fP h λbB b4 h=>aI (nN (vs:=[T.1,vU (fF .u32 S d.1),Value.agg #[vI (u.1.1),vI (u.1.2.1),vI (u.1.2.2.1),vI (u.1.2.2.2.1),vU (u.1.2.2.2.2)]]) (cs:=[]) aai Z (IU U T.1 (List.zip T.2 ap) bB b4) Z (aF.cons (cC (i:=0) (j:=1) Z Z fG) .nil) (λ_ _=>rfl)) Z λcv=>aM<|aP<|bT Z<|dO 6 Z<|aA Z<|aI (b_ (e:=qG) ([L]) [(0,vU (L))] Z Z Z Z (gY (vU (L)) Z) Z Z Z) Z λcq=>dV h λbt h=>aI (fU 21 tK Z Z Z (bP (aG.res 0 Z) tK) Z Z Z Z bt Z) Z λbC=>bT Z<|bG (Know.one ((bP (aG.res 21 Z) tK))) λbb=>fS 7 Z Z bb Z Z Z<|aM<|aR<|bT Z<|dO 7 Z<|aA Z<|aI (b_ (e:=qG) ([(fF .u32 S d.1)]) [(0,vU (fF .u32 S d.1))] Z Z Z Z (gY (vU (fF .u32 S d.1)) Z) Z Z Z) Z λcr=>dV h λbu h=>aI (fU 4 tK Z Z Z (bP (aG.res 0 Z) tK) Z Z Z Z bu Z) Z λbF=>bT Z<|bG (Know.one ((bP (aG.res 4 Z) tK))) λbc=>fS 8 Z Z bc Z Z Z<|eW<|m_<|aR<|cU Z<|aA Z<|aM ?_;exact iH ((fF .u32 S d.1),(b.2.1++([(fF .u32 S d.1)])),(wI .i64 (b.2.2.1+(1:Int))),u.1.1,u.1.2.1,u.1.2.2.1,u.1.2.2.2.1,u.1.2.2.2.2,ap,(b.2.2.2.2.2.2.2.2.2++[L])) (T.1,T.2,bC,bF) h SF (aX.ix [4,5,2,3,8,9,10,11,12,13,14,15,16,17,18,19,20,21,22] Z Z) (aF.refl _ _)
    refine fO ?_;exact cT (b.2.1,b.2.2.2.1,b.2.2.2.2.1,b.2.2.2.2.2.1,b.2.2.2.2.2.2.1,b.2.2.2.2.2.2.2.1,b.2.2.2.2.2.2.2.2.1,b.2.2.2.2.2.2.2.2.2) (g.1,g.2.1,g.2.2.1,g.2.2.2) h SF (aX.ix [0,1,2,3,4,5,7,17,18] Z Z) (aF.refl _ _)
   intro o J h;unfold wX at h;refine aK ?_;refine yP [0,0,1,5,15,31] 4 mixedOrders ?_;refine bD Z<|nP 1 Z<|cN Z<|bJ (AA (cC (i:=2) (j:=3) Z Z fG)) λbr=>Ce Z Z Z (Rx 4 Z Z br Z Z Z) (λcm=>(pB [([1],[])] Z)) λcm=>bU 4 Z Z<|bT Z<|CS (LK 4 (us:=[vI (o.2.1),vI (o.2.2.1),vI (o.2.2.2.1),vI (o.2.2.2.2.1),vU (o.2.2.2.2.2.1)]) Z Z Z Z Z Z Z Z Z) λcz=>aM<|aP<|dL 4 Z<|bG (Know.one ((bP (aG.res 8 Z) tK))) λbs=>bG (Know.one ((bP (aG.res 0 Z) tK))) λa9=>bG (AA (cC (i:=2) (j:=3) Z Z fG)) λba=>bQ 5 (vs:=[J.2.2.1,J.2.2.2,J.1,vI (o.2.1),vI (o.2.2.1),vI (o.2.2.2.1),vI (o.2.2.2.2.1),vU (o.2.2.2.2.2.1)]) Z Z (eJ bs (eJ a9 (eJ ba (eJ Z (eJ Z (eJ Z (eJ Z (eJ Z Z)))))))) Z Z Z<|aC Z<|aM<|aT ?_;exact jN (o.2.2.2.2.2.2.2,o.1,o.2.2.2.2.2.2.1,o.2.1,o.2.2.1,o.2.2.2.1,o.2.2.2.2.1,o.2.2.2.2.2.1,(0:Int)) (J.2.2.1,J.2.2.2,J.1,J.2.1) h (.inl Z) (CO.r2 Z (RV.cell 5 Z Z Z Z) (RV.tmp Z)) Z (aX.ix [6,7,8,0,2,3] Z Z) (aF.refl _ _)
  intro s H h;unfold AQ at h;refine kF Z<|kF Z<|bG (Know.one ((bP (aG.res 2 Z) tK))) λbn=>bG (Know.one ((bP (aG.res 3 Z) tK))) λbo=>bG (AA (cC (i:=4) (j:=5) Z Z fG)) λbp=>bQ 0 (vs:=[H.1,H.2.1,H.2.2.1,vI (s.2.2.2.1),vI (s.2.2.2.2.1),vI (s.2.2.2.2.2.1),vI (s.2.2.2.2.2.2.1),vU (s.2.2.2.2.2.2.2.1)]) Z Z (eJ bn (eJ bo (eJ bp (eJ Z (eJ Z (eJ Z (eJ Z (eJ Z Z)))))))) Z Z Z<|aC Z<|aM<|aT ?_;exact jN (s.2.2.2.1,s.2.2.2.2.1,s.2.2.2.2.2.1,s.2.2.2.2.2.2.1,s.2.2.2.2.2.2.2.1,s.2.2.2.2.2.2.2.2,s.1,s.2.1,s.2.2.1) (H.1,H.2.1,H.2.2.1,H.2.2.2) h (.inl Z) (CO.r2 Z (RV.cell 0 Z Z Z Z) (RV.tmp Z)) Z (aX.ix [1,2,3,4,5] Z Z) (aF.refl _ _)
 intro D G h;unfold DC at h;refine kF Z<|kF Z<|bG (Know.one ((bP (aG.res 1 Z) tK))) λbj=>bG (Know.one ((bP (aG.res 2 Z) tK))) λbk=>bG (AA (cC (i:=3) (j:=4) Z Z fG)) λbl=>bQ 0 (vs:=[G.1,G.2.1,G.2.2.1,vI (D.1),vI (D.2.1),vI (D.2.2.1),vI (D.2.2.2.1),vU (D.2.2.2.2.1)]) Z Z (eJ bj (eJ bk (eJ bl (eJ Z (eJ Z (eJ Z (eJ Z (eJ Z Z)))))))) Z Z Z<|aC Z<|aM<|aT ?_;cases h;exact kU (G.1,G.2.1,G.2.2.1,G.2.2.2) Z Z (RV.cell 0 Z Z Z Z) (RV.tmp Z) (aX.ix [1,2,3,4] Z Z) aF.nil
end Go.Proofs.YtgciopekomcbfaaGreatDoor
namespace Go.Proofs.YtgciopekomcbfaaGreatDoor
open Go Go.Sx
theorem YQ {g:GR} (e:VG g) (p:tC) (b:Int) (c:bE) (o:aW):
  bN (nS 1000 p g b c o) 1000 ((0:Int),(0:Int),(List.replicate (Int.toNat (g.2.length:Int)) ([]:aW)))=wY 1000 p g b c o (eO g g.2.length,fH g):=by
 have z:=e.n24;have s:=e.len;let f:Nat->aW:=λv=>(List.range (row g v).length).map (Ma g v);let Q:Nat->bE:=λk=>(List.range k).map f++List.replicate (g.2.length - k) [];have q:∀k,k<=g.2.length->(Q k).length=g.2.length:=λk i=>by simp[Q];omega
 rw[show List.replicate (Int.toNat (g.2.length:Int)) ([]:aW)=Q 0 by simp[Q]];refine dZ (step:=nS 1000 p g b c o) g.2.length (λk=>((k:Int),eO g k,Q k)) (λk d i=>?_) (λd=>?_) 1000 (by omega)
 .have r:=(e.node k i).deg;have t:k<(Q k).length:=by rw[q k (by omega)];exact i
  unfold nS;dsimp only;rw[if_pos (by omega),cR (by omega),cR (by omega)];let a:Nat->aW:=λj=>(List.range j).map (Ma g k);have y:Q k=(Q k).set k (a 0):=by
   have:at' (Q k) (k:Int)=a 0:=by
    rw[gK t];simp[Q,a]
   rw[<-this];exact(Cv (Q k) (k:Int) (by simpa using t) (by omega)).symm
  rw[show(Q k)=(Q k).set k (a 0)from y];have h:∀A:bE,A.length=g.2.length->bN (s_ 1000 g ((k:Int),eO g k,(Q k).set k (a 0)) d) 1000 ((0:Int),A.set k (a 0))=d (((k+1:Nat):Int),eO g (k+1),A.set k (f k)):=by
   intro A D;refine dZ (step:=s_ 1000 g ((k:Int),eO g k,(Q k).set k (a 0)) d) (K:=d (((k+1:Nat):Int),eO g (k+1),A.set k (f k))) (row g k).length (λj=>((j:Int),A.set k (a j))) (λj m C=>?_) (λm=>?_) 1000 (by omega)
   .obtain⟨u,w,l⟩:=e.to i C;have B:=(e.node u w).deg;have x:at' (A.set k (a j)) (k:Int)=a j:=by rw[tE _ _ _ _ (by omega),if_pos Z]
    have n:(a j).length=j:=by simp[a]
    unfold s_;dsimp only;rw[if_pos (show(j:Int)<((row g k).length:Int) by omega),cR (show 0<=(j:Int)/\(j:Int)<((row g k).length:Int) by omega),cR (by simp only[zA2];omega),show at' (at' g.2 (k:Int)) (j:Int)=iU (row g k) j from rfl,l,bF (show jY 1000 _ (u:Int) (k:Int)=_ from JK g u (k:Int) w (by omega)),x,cR (by rw[n];simp;omega),cR (by simp only[zA2];omega),dC (by omega),zAf,List.set_set];have:a j++[AC (row g u) (k:Int)]=a (j+1):=by
     simp only[a];rw[List.range_succ,List.map_append,List.map_singleton,Ma,l,zAf]
    rw[this]
   .unfold s_ AT;dsimp only;rw[if_neg (show¬((row g k).length:Int)<((row g k).length:Int)from Int.lt_irrefl _),dC (by omega)];rfl
  have:=h (Q k) (q k (by omega));rw[wR f [] g.2.length k i]at this;exact this
 .unfold nS;dsimp only;rw[if_neg (by omega)];simp[Q,fH,f]
def oY (g:GR):Nat:=2^g.2.length - 1
theorem adI {g:GR} (b:VG g):oY g<4294967296:=by
 have a:=b.n24;have:(2:Nat)^g.2.length<=2^24:=Nat.pow_le_pow_right (by omega) a;unfold oY;omega
noncomputable def Qo (m:Nat):Nat:=open Classical in if h:∃k,KG m k then 2^Classical.choose h else 0
theorem KG.det {m k j:Nat} (h:KG m k) (a:KG m j):k=j:=by
 rcases zB7 k j with q|q|q
 .have:=a.low k q;rw[h.bit]at this;cases this
 .exact q
 .have:=h.low j q;rw[a.bit]at this;cases this
theorem Qp {m k:Nat} (h:KG m k):Qo m=2^k:=by
 unfold Qo;have e:∃k,KG m k:=⟨k,h⟩
 rw[dif_pos e,(Classical.choose_spec e).det h]
theorem JC:Qo 0=0:=by
 unfold Qo;rw[dif_neg];rintro⟨k,h⟩;have:=h.bit;simp at this
noncomputable def Je (g:GR) (W:Nat):Nat->Nat
 |0=>0
 |v+1=>open Classical in if W.testBit v=true/\∀u,(Je g W v).testBit u=true->¬KE g v u then Je g W v ||| 2^v else Je g W v
theorem Mu {g:GR} {W s:Nat}:∀{k:Nat},s<=k->(∀i,s<=i->i<k->W.testBit i=false)->Je g W k=Je g W s
 |0,h,_=>by rw[show s=0 by omega]
 |k+1,h,hb=>by
  by_cases e:s=k+1
  .rw[e]
  .rw[Je,if_neg (λq=>by have:=hb k (by omega) (by omega);rw[this]at q;exact absurd q.1 (by decide)),Mu (by omega) λi a b=>hb i a (by omega)]
theorem Qb {g:GR} {W:Nat}:∀{k i:Nat},(Je g W k).testBit i=true->W.testBit i=true/\i<k
 |0,i,h=>by simp[Je]at h
 | k + 1, i, h =>by
  rw[Je]at h;split at h
  .rename_i q;rw[Nat.testBit_or,zAz,zAx,zA1]at h;rcases h with h|rfl
   .obtain⟨a,b⟩:=Qb h;exact⟨a,by omega⟩
   .exact⟨q.1,by omega⟩
  .obtain⟨a,b⟩:=Qb h;exact⟨a,by omega⟩
theorem ahS {g:GR} {W k:Nat} (c:k<=32):Je g W k<4294967296:=by
 refine zAv (Nat.lt_pow_two_of_testBit (n:=32) _ λi b=>?_) (zAg _);cases a:(Je g W k).testBit i with
 |false=>rfl
 |true=>have:=(Qb a).2;omega
theorem aeQ {g:GR} (hV:VG g) {r:aW} (hN:LN g r) {W:Nat} (hW:Rk g W) (F:Nat):∀(d s fuel rest:Nat),s+d=32->rest<4294967296->(∀i,rest.testBit i=(decide (s<=i)&&W.testBit i))->d<fuel->
  bN (cP F r) fuel ((rest:Int),((Je g W s:Nat):Int))=some ((Je g W 32:Nat):Int):=by
 have h24:=hV.n24;intro d
 induction d using Nat.strongRecOn with
 | _ d ih =>
  intro s fuel rest hs hr hb hf;obtain⟨fuel,rfl⟩:∃f,fuel=f+1:=⟨fuel - 1,by omega⟩
  have hun:bN (cP F r) (fuel+1) ((rest:Int),((Je g W s:Nat):Int))=cP F r ((rest:Int),((Je g W s:Nat):Int)) (bN (cP F r) fuel):=rfl;rw[hun];unfold cP kM iQ;dsimp only;by_cases h0:rest=0
  .rw[if_neg (by omega),Mu (s:=s) (k:=32) (by omega) λi h1 _=>by
    have:=hb i;rw[h0,Nat.zero_testBit,zAd h1,zB9]at this;exact this.symm]
  obtain⟨k,hk⟩:=FD h0;have hkb:=hb k;rw[hk.bit]at hkb;have hks:s<=k:=by
   rcases zAr k s with q|q
   .rw[zA8 (by omega)]at hkb;cases hkb
   .exact q
  have hkW:W.testBit k=true:=by
   rw[zAd hks,zB9]at hkb;exact hkb.symm
  have hkn:=hW k hkW;have hk32:k<32:=by omega
  have hgk:Je g W k=Je g W s:=Mu hks λi h1 h2=>by
   have h3:=hk.low i h2;rw[hb i,zAd h1,zB9]at h3;exact h3
  have ht32:=ahS (g:=g) (W:=W) (k:=s) (by omega);obtain⟨m,hm,hm32,hbits⟩:=hN.at' k hkn;obtain⟨m',e1,e2,e3⟩:=PQ hr hk;have hb':∀i,m'.testBit i=(decide (k+1<=i)&&W.testBit i):=λi=>by
   rw[e3,hb];rcases zB7 i k with q|q|q
   .have h3:=hk.low i q;rw[hb]at h3;rw[h3,zA8 (show¬k+1<=i by omega)];simp
   .rw[q,zA8 (show¬k+1<=k by omega)];simp
   .rw[zAd (show s<=i by omega),zAd (show k+1<=i by omega),zAd (show i≠k by omega)];simp
  have hcond:m &&& Je g W s=0↔∀u,(Je g W k).testBit u=true->¬KE g k u:=by
   rw[hgk];constructor
   .intro hz u hu ha;have:=congrArg (λq=>q.testBit u) hz;simp only[Nat.testBit_and,Nat.zero_testBit,(hbits u).2 ha,hu]at this;cases this
   .intro h;refine zBj λi=>?_;rw[Nat.testBit_and,Nat.zero_testBit];cases h1:m.testBit i with
    |false=>rfl
    |true=>
     cases h2:(Je g W s).testBit i with
     |false=>rfl
     |true=>exact absurd ((hbits i).1 h1) (h i h2)
  rw[if_pos (by omega),bF (acK F hr hk),cR (by have:=hN.len;omega),hm,CW hm32 ht32,e1];by_cases hz:m &&& Je g W s=0
  .have hn:Je g W (k+1)=Je g W s ||| 2^k:=by rw[Je,if_pos ⟨hkW,hcond.1 hz⟩,hgk]
   rw[hz,if_pos (by rfl),cR (by omega),L_ ht32 hk32,<-hn];exact ih (32 - (k+1)) (by omega) (k+1) fuel m' (by omega) e2 hb' (by omega)
  .have hn:Je g W (k+1)=Je g W s:=by rw[Je,if_neg (λq=>hz (hcond.2 q.2)),hgk]
   rw[if_neg (by omega),<-hn];exact ih (32 - (k+1)) (by omega) (k+1) fuel m' (by omega) e2 hb' (by omega)
noncomputable def Jb (e w:Nat):Nat:=if w &&& e=0 then Qo e else w &&& e
noncomputable def ait (g:GR) (a:Int) (e W:Nat):Nat:=if a=1 then Qo W else if a=2 then Je g W 32 else if a=4 then e else W
noncomputable def M_ (g:GR) (a:Int) (e w:Nat):Nat:=ait g a e (Jb e w)
theorem ajQ {m:Nat} (hm:m<4294967296):fF .u32 (m:Int) (wI .u32 (0 - (m:Int)))=((Qo m:Nat):Int):=by
 by_cases h0:m=0
 .rw[h0,JC];rfl
 .obtain⟨k,hk⟩:=FD h0;rw[afh hm hk,Qp hk]
theorem abv {m i:Nat} (h:(Qo m).testBit i=true):m.testBit i=true:=by
 by_cases a:m=0
 .rw[a,JC]at h;simp at h
 .obtain⟨k,b⟩:=FD a;rw[Qp b,zAz,zA1]at h;rw[<-h];exact b.bit
theorem Y_ {e w i:Nat} (h:(Jb e w).testBit i=true):e.testBit i=true:=by
 unfold Jb at h;split at h
 .exact abv h
 .rw[Nat.testBit_and,zA4]at h;exact h.2
theorem afg {m:Nat} (c:m<4294967296):Qo m<4294967296:=by
 by_cases a:m=0
 .rw[a,JC];omega
 .obtain⟨k,b⟩:=FD a;rw[Qp b];exact ID (Hy c b.bit)
theorem adh {e w:Nat} (a:e<4294967296) (b:w<4294967296):Jb e w<4294967296:=by
 unfold Jb;split
 .exact afg a
 .exact Py b
theorem acg {g:GR} (hV:VG g) {r:aW} (hN:LN g r) (kind:Int) {e w:Nat} (he:Rk g e) (hw:w<4294967296):d_ 1000 r kind (e:Int) (w:Int)=some ((M_ g kind e w:Nat):Int):=by
 have he24:=he.lt hV;have hW32:=adh (e:=e) (w:=w) (by omega) hw;have hWG:Rk g (Jb e w):=λi hi=>he i (Y_ hi);have e1:d_ 1000 r kind (e:Int) (w:Int)=gJ 1000 r kind (e:Int) ((Jb e w:Nat):Int):=by
  unfold d_ Jb;rw[CW hw (by omega)];by_cases h0:w &&& e=0
  .rw[h0,if_pos (show((0:Nat):Int)=0 from rfl),if_pos Z,ajQ (by omega)]
  .rw[if_neg (by omega),if_neg h0]
 rw[e1];unfold M_;generalize Jb e w=W at hW32 hWG ⊢;unfold ait;unfold gJ mU;by_cases k1:kind=1
 .rw[if_pos k1,if_pos k1,ajQ hW32]
 rw[if_neg k1,if_neg k1];by_cases k2:kind=2
 .rw[if_pos k2,if_pos k2];exact aeQ hV hN hWG 1000 32 0 1000 W (by omega) hW32 (λi=>by simp) (by omega)
 rw[if_neg k2,if_neg k2];by_cases k4:kind=4
 .rw[if_pos k4,if_pos k4]
 .rw[if_neg k4,if_neg k4]
section
variable {p:tC} {g:GR} {R:V6 RL}
theorem UR (hV:VG g) (hp:lV g p.2.1) (hz:p.2.2.map tO=Dr R) (hR:oP p.2.1.length R=true) {kind:Int} (hk1:1<=kind) (hk4:kind<=4) {c0:List (List Int)} (hc0:CM g c0 p.2.1) {ws:List Int} (hws:ws.length<=900) (hw:∀k:Nat,k<ws.length->∃m:Nat,at' ws (k:Int)=(m:Int)/\m<4294967296)
  (P:Nat->List (List Int)->List Nat->CT->List Int->Prop) (h0:P 0 c0 [] (0,0,0,0,fF .u32 ((DG (aV p g) R (oY g) c0:Nat):Int) 16777215) [((DG (aV p g) R (oY g) c0:Nat):Int)])
  (hstep:∀k c ch cnt ens t cnt' err,k<ws.length->yI g p.2.1.length c->P k c ch cnt ens->DG (aV p g) R (oY g) c≠0->t≠0->(∀i,t.testBit i=true->(DG (aV p g) R (oY g) c).testBit i=true)->(kind<=2->∀v u,t.testBit v=true->t.testBit u=true->¬KE g v u)->(kind=4->t=DG (aV p g) R (oY g) c)->(∃net,pF 1000 g=some net/\d_ 1000 net kind ((DG (aV p g) R (oY g) c:Nat):Int) (at' ws (k:Int))=some (t:Int))->
   jX 1000 cnt (t:Int) ((DG (aV p g) R (oY g) (jR (aV p g) p.2.1 R c t):Nat):Int)=some (cnt',err)->P (k+1) (jR (aV p g) p.2.1 R c t) (ch++[t]) cnt' (ens++[((DG (aV p g) R (oY g) (jR (aV p g) p.2.1 R c t):Nat):Int)])):
  ∃k c ch cnt ens,r_ 1000 p g kind c0 ws=some ((SG ch,ens,c,cnt),0)/\P k c ch cnt ens/\yI g p.2.1.length c/\k<=ws.length/\ch.length=k/\ens.length=k+1/\at' ens (k:Int)=((DG (aV p g) R (oY g) c:Nat):Int)/\(k=ws.length\/DG (aV p g) R (oY g) c=0):=by
 have h24:=hV.n24;have hvl:=hp.len;let S:=aV p g;have hVS:VG S.2.1:=hV;obtain⟨net,hnet,hN⟩:=abH hV;have hcheck:Bh 1000 p g kind c0 (ws.length:Int)=some 0:=by
  unfold Bh;rw[bF (show kY 1000 _ _ c0=_ from aau hV hp hc0),if_neg (by decide)];have:zF 1000 kind=some true:=by
   unfold zF sJ;rw[if_pos hk1,zAd hk4]
  rw[bF this,if_neg (by decide),if_neg (by omega)]
 unfold r_;rw[bF (show Bh 1000 _ _ kind c0 _=_ from hcheck),if_neg (by decide),cR (by omega),YQ hV p kind c0 ws];unfold wY AS;rw[bF (show gZ 1000 _ _=_ from FZ hV hp)];unfold AR;rw[bF (show pF 1000 _=_ from hnet),bF (show Bg 1000 _=some ((oY g:Nat):Int)from agT hV)];have hen:∀c,yI g p.2.1.length c->fL 1000 (p,(p,g,eO g g.2.length,fH g),tP g p.2.1) c=some ((KI S R c:Nat):Int):=λc hc=>UO hV hc hz hR (by simp[tP]);have hand:∀c,fF .u32 ((KI S R c:Nat):Int) ((oY g:Nat):Int)=((DG S R (oY g) c:Nat):Int):=λc=>CW (ahI hVS R c) (adI hV);unfold Dz;dsimp only;rw[bF (Le c0 (by rw[hc0.len];omega) (λv hv=>by rw[hc0.row v (by rw[<-hc0.len];exact hv)];omega)),bF (show fL 1000 _ c0=_ from hen c0 hc0.shape),hand,bF (show xP 1000 _=some (0,0,0,0,fF .u32 ((DG S R (oY g) c0:Nat):Int) 16777215)from rfl),bF (show vD 1000 _ _ _=some ()from rfl),cR (by simp),List.nil_append];let A20:Int×List Int×(List (List (Int×Int)))×Int×List (List Int):=(((oY g:Nat):Int),net,tP g p.2.1,eO g g.2.length,fH g)
 have fin:∀k c ch cnt ens,P k c ch cnt ens->yI g p.2.1.length c->k<=ws.length->ch.length=k->ens.length=k+1->at' ens (k:Int)=((DG S R (oY g) c:Nat):Int)->(k=ws.length\/DG S R (oY g) c=0)->
   OK (λr:(List Int×List Int×List (List Int)×CT)×Int=>∃k c ch cnt ens,r=((SG ch,ens,c,cnt),0)/\P k c ch cnt ens/\yI g p.2.1.length c/\k<=ws.length/\ch.length=k/\ens.length=k+1/\at' ens (k:Int)=((DG S R (oY g) c:Nat):Int)/\(k=ws.length\/DG S R (oY g) c=0)) (wX (ens,cnt.1,cnt.2.1,cnt.2.2.1,cnt.2.2.2.1,cnt.2.2.2.2,c,SG ch)):=
  λk c ch cnt ens a1 a2 a3 a4 a5 a6 a7=>⟨_,rfl,k,c,ch,cnt,ens,rfl,a1,a2,a3,a4,a5,a6,a7⟩
 have key:=AM (step:=wZ 1000 p g kind ws A20) (Q:=λr:(List Int×List Int×List (List Int)×CT)×Int=>∃k c ch cnt ens,r=((SG ch,ens,c,cnt),0)/\P k c ch cnt ens/\yI g p.2.1.length c/\k<=ws.length/\ch.length=k/\ens.length=k+1/\at' ens (k:Int)=((DG S R (oY g) c:Nat):Int)/\(k=ws.length\/DG S R (oY g) c=0))
  (λx=>∃(k:Nat) (c:List (List Int)) (ch:List Nat) (cnt:CT) (ens:List Int),x=(((DG S R (oY g) c:Nat):Int),ens,(k:Int),cnt.1,cnt.2.1,cnt.2.2.1,cnt.2.2.2.1,cnt.2.2.2.2,c,SG ch)/\P k c ch cnt ens/\yI g p.2.1.length c/\k<=ws.length/\ch.length=k/\ens.length=k+1/\at' ens (k:Int)=((DG S R (oY g) c:Nat):Int)) (λx=>ws.length - x.2.2.1.toNat) (λx ag hI hrec=>by
  obtain⟨k,c,ch,cnt,ens,rfl,b1,b2,b3,b4,b5,b6⟩:=hI;unfold wZ;dsimp only;by_cases hlt:k<ws.length
  rotate_left
  .rw[if_neg (by omega)];exact fin k c ch cnt ens b1 b2 b3 b4 b5 b6 (.inl (by omega))
  obtain⟨w,hwe,hw32⟩:=hw k hlt;have hin:Rk g (DG S R (oY g) c):=UN S R (oY g) c;obtain⟨t,ht,hsub,hne⟩:=Vt hV hN hk1 hk4 hin hw32;rw[if_pos (by omega),cR (by omega),hwe,bF (show d_ 1000 net kind _ _=_ from ht)];unfold DD;dsimp only;by_cases he0:DG S R (oY g) c=0
  .rw[if_pos (by omega)];exact fin k c ch cnt ens b1 b2 b3 b4 b5 b6 (.inr he0)
  obtain⟨ht0,hperm,hk2,hk4'⟩:=hne he0;have ht32:t<4294967296:=by have:=Rk.lt hV (λi hi=>hin i (hsub i hi));omega
  rw[if_neg (by omega),bF (show gU 1000 net kind _ _=_ from hperm),if_neg (by decide)];have hst:kP 1000 (p,(p,g,eO g g.2.length,fH g),tP g p.2.1) c (t:Int)=some (jR S p.2.1 R c t):=afI (gr:=eO g g.2.length) hV hp b2 hz hR ht32 (λv hv=>((PU S R (oY g) c v).1 (hsub v hv)).2.1);have hsh:yI g p.2.1.length (jR S p.2.1 R c t):=b2.step;obtain⟨⟨cnt',err⟩,hadd⟩:=ZV cnt ht32 ((DG S R (oY g) (jR S p.2.1 R c t):Nat):Int);rw[bF (show kP 1000 _ c (t:Int)=_ from hst),bF (show fL 1000 _ _=_ from hen _ hsh),hand,bF (show jX 1000 _ (t:Int) _=_ from hadd),bF (show vD 1000 _ _ _=some ()from rfl),cR (by simp[SG];omega),cR (by simp;omega),dC (by omega)];refine hrec _ ⟨k+1,jR S p.2.1 R c t,ch++[t],cnt',ens++[((DG S R (oY g) (jR S p.2.1 R c t):Nat):Int)],by simp[SG],hstep k c ch cnt ens t cnt' err hlt b2 b1 he0 ht0 hsub hk2 hk4' ⟨net,hnet,by rw[hwe];exact ht⟩ hadd,hsh,by omega,by simp[b4],by simp[b5],?_⟩ (by dsimp only;omega);exact PC (pre:=ens) (rest:=[]) (by simp) b5) 1000 (((DG S R (oY g) c0:Nat):Int),[((DG S R (oY g) c0:Nat):Int)],(0:Int),0,0,0,0,fF .u32 ((DG S R (oY g) c0:Nat):Int) 16777215,c0,[])
  ⟨0,c0,[],(0,0,0,0,fF .u32 ((DG S R (oY g) c0:Nat):Int) 16777215),[((DG S R (oY g) c0:Nat):Int)],rfl,h0,hc0.shape,by omega,rfl,rfl,rfl⟩ (by dsimp only;omega)
 obtain⟨r,hr,k,c,ch,cnt,ens,rfl,hrest⟩:=key;exact⟨k,c,ch,cnt,ens,hr,hrest⟩
end
theorem UG:∀i,i<256->0<=at' Jd ((i:Nat):Int)/\at' Jd ((i:Nat):Int)<=8/\(i≠0->1<=at' Jd ((i:Nat):Int)):=by
 have h:((List.range 256).all λi=>decide (0<=at' Jd ((i:Nat):Int)/\at' Jd ((i:Nat):Int)<=8/\(i≠0->1<=at' Jd ((i:Nat):Int))))=true:=by decide +kernel
 intro i a;exact zB5 (zA7.1 h i (zAi.2 a))
theorem afo {t:Nat} (I:t<16777216) (F:t≠0):∃n:Nat,jB 1000 (t:Int)=some (n:Int)/\1<=n/\n<=24:=by
 have q:(Jd.length:Int)=256:=by decide +kernel
 have b:∀a:Nat,a<4294967296->fF .u32 (a:Int) 255=((a%256:Nat):Int):=λa p=>by
  rw[show(255:Int)=((255:Nat):Int)from rfl,CW p (by omega),show(255:Nat)=2^8 - 1 from rfl,Nat.and_two_pow_sub_one_eq_mod]
 have c:∀k:Nat,k<32->rW .u32 (t:Int) (k:Int)=((t / 2^k:Nat):Int):=λk r=>Lb r;have e:rW .u32 (t:Int) 24=((t / 2^24:Nat):Int):=c 24 (by omega);have d:rW .u32 (t:Int) 16=((t / 2^16:Nat):Int):=c 16 (by omega);have s:rW .u32 (t:Int) 8=((t / 2^8:Nat):Int):=c 8 (by omega);have g:t / 2^24=0:=Nat.div_eq_of_lt (by omega);unfold jB;rw[q,e,d,s,b _ (by omega),b _ (by omega),b _ (by omega),g,cR (by decide),cR (by omega),cR (by decide),cR (by omega),cR (by decide),cR (by omega),cR (by omega)];obtain⟨v,w,i⟩:=UG (t / 2^16%256) (by omega);obtain⟨y,z,j⟩:=UG (t / 2^8%256) (by omega);obtain⟨D,E,l⟩:=UG (t%256) (by omega);have u:at' Jd ((0:Nat):Int)=0:=rfl;have h:1<=at' Jd ((t / 2^16%256:Nat):Int)+at' Jd ((t / 2^8%256:Nat):Int)+at' Jd ((t%256:Nat):Int):=by
  by_cases m:t / 2^16%256=0
  .by_cases o:t / 2^8%256=0
   .have:=l (by omega);omega
   .have:=j o;omega
  .have:=i m;omega
 have f:∀x:Int,0<=x->x<=100->wI .u8 x=x:=λx G H=>by
  rw[EX];have:IntKind.u8.wrap x=x%256:=rfl;rw[this];omega
 generalize at' Jd ((t / 2^16%256:Nat):Int)=A at *
 generalize at' Jd ((t / 2^8%256:Nat):Int)=B at *
 generalize at' Jd ((t%256:Nat):Int)=C at *
 rw[u,f (0+A) (by omega) (by omega),f (0+A+B) (by omega) (by omega),f (0+A+B+C) (by omega) (by omega),wr (by omega) (by omega)];exact⟨(0+A+B+C).toNat,by congr 1;omega,by omega,by omega⟩
theorem FG (l:aW) (j:l.length<=900) (h:∀x∈l,∃a:Nat,x=(a:Int)/\a<16777216):jA 1000 l=some true:=by
 unfold jA;refine dZ (step:=jO l) (K:=some true) l.length (λk=>(k:Int)) (λk f d=>?_) (λf=>?_) 1000 (by omega)
 .obtain⟨a,g,b⟩:=h (at' l (k:Int)) (by rw[gK d];exact List.getElem_mem d);unfold jO;rw[if_pos (by omega),cR (by omega),g,dC (by omega)];have:xH .u32 (a:Int) (16777215:Int)=0:=(aab _ _).2 λi c=>by
   rw[AI (by omega)]at c;have e:RA 16777215=2^24 - 1:=AI (a:=16777215) (by omega);rw[e,Nat.testBit_two_pow_sub_one,zA1];by_cases h:i<24
   .exact h
   .have:=Nat.testBit_lt_two_pow (x:=a) (i:=i) (zAv b (Nat.pow_le_pow_right (n:=2) (by omega) (show 24<=i by omega)));rw[this]at c;cases c
  rw[this,if_neg (by simp)]
 .unfold jO nF;rw[if_neg (by omega)]
structure HV (k:Nat) (cnt:CT) (R B pe:Nat):Prop where
 steps:cnt.1=(k:Int)
 moves:(k:Int)<=cnt.2.1/\cnt.2.1<=24*(k:Int)
 rounds:cnt.2.2.1=(R:Int)
 begun:cnt.2.2.2.1=(B:Int)
 pend:cnt.2.2.2.2=(pe:Int)
 le:R<=B/\B<=k/\B<=R+1
 p24:pe<16777216
theorem HV.valid {k:Nat} {i:CT} {R B j:Nat} (h:HV k i R B j) (n:k<=1000):kB 1000 i=some true:=by
 obtain⟨a,b,c,d,e,f,g⟩:=h;have m:=FG [(j:Int)] (by simp) λx l=>by
  have l:x=(j:Int):=by simpa using l
  exact⟨j,l,g⟩
 unfold kB;rw[a,c,d,if_neg (by omega),if_neg (by omega),if_neg (by omega),if_neg (by omega),zA8 (by omega)];unfold jI lW;rw[a,c,d,e,if_neg (by decide),dC (by omega),if_neg (by omega),if_pos b.1,wr (by omega) (by omega),if_pos b.2,bF m]
theorem HV.add {k:Nat} {r:CT} {R B o:Nat} (h:HV k r R B o) (I:k<900) {t l:Nat} (A:t<16777216) (C:t≠0) (q:l<16777216) {m:CT} {u:Int} (j:jX 1000 r (t:Int) (l:Int)=some (m,u)):
  ∃p:Nat,(∀i,p.testBit i=(o.testBit i && !t.testBit i&&l.testBit i))/\((p=0/\HV (k+1) m (R+1) (R+1) l)\/(p≠0/\HV (k+1) m R (R+1) p)):=by
 have H:=h.valid (by omega);obtain⟨a,b,c,d,e,f,g⟩:=h;obtain⟨n,D,E,F⟩:=afo A C;have G:=FG [(t:Int),(l:Int)] (by simp) λx y=>by
  have y:x=(t:Int)\/x=(l:Int):=by simpa using y
  rcases y with rfl|rfl
  .exact⟨t,rfl,A⟩
  .exact⟨l,rfl,q⟩
 have v:Ch o t<4294967296:=Mk o t;have w:∀i,(Ch o t &&& l).testBit i=(o.testBit i && !t.testBit i&&l.testBit i):=λi=>by
  rw[Nat.testBit_and,Og (by omega) (by omega)]
 have s:Ch o t &&& l<16777216:=Nat.lt_of_le_of_lt Nat.and_le_right q;unfold jX at j;rw[bF (show kB 1000 _=some true from H),if_neg (by decide),if_neg (by omega),bF G]at j;unfold oA oB at j;dsimp only at j;rw[a,c,e,if_neg (by decide),if_neg (by omega),bF D,LZ,CW v (by omega),dC (by omega),dC (by omega),wr (by omega) (by omega)]at j;refine⟨Ch o t &&& l,w,?_⟩
 by_cases z:Ch o t &&& l=0
 .rw[if_pos (by rw[z];rfl)]at j;have:=Option.some.inj j;obtain⟨rfl,_⟩:=Prod.mk.inj this;exact .inl ⟨z,rfl,⟨by dsimp only;omega,by dsimp only;omega⟩,rfl,rfl,rfl,by omega,q⟩
 .rw[if_neg (by omega)]at j;have:=Option.some.inj j;obtain⟨rfl,_⟩:=Prod.mk.inj this;exact .inr ⟨z,rfl,⟨by dsimp only;omega,by dsimp only;omega⟩,rfl,rfl,rfl,by omega,s⟩
def guL:E:= .bi 41 (.lf 5 0) (.ag 21 (.lf 12 0))
def guE:E:= .bi 41 (.un 19 (.lf 5 0)) (.un 19 (.ag 21 (.lf 12 0)))
def RM:List RL:=[(guL,[(0,.lf 3 0)]),(guE,[(0,.lf 2 0)])]
def nbM (g:GR) (c:bE) (v:Nat):Prop:=∃i,i<(row g v).length/\wF g c v i≠0
section
variable {p:tC} {g:GR} {c:V6 (V6 Int)} {v:Nat}
theorem ahV:fV (aV p g) c v guL=xG (decide (Bt c v≠0)&&decide (xG (((List.range (row g v).length).map λq=>wF g c v q).any nz)≠0)):=rfl
theorem ahU:fV (aV p g) c v guE=xG (decide (xG (decide (Bt c v=0))≠0)&&decide (xG (decide (xG (((List.range (row g v).length).map λq=>wF g c v q).any nz)=0))≠0)):=rfl
theorem LY (b:Bool):xG b≠0↔b=true:=by cases b<;>simp[xG]
theorem ajc (b:Bool):xG b=0↔b=false:=by cases b<;>simp[xG]
theorem ZY:((List.range (row g v).length).map λq=>wF g c v q).any nz=true↔nbM g c v:=by
 unfold nbM;rw[List.any_eq_true];constructor
 .rintro⟨x,d,b⟩;obtain⟨i,a,rfl⟩:=zAs.1 d;exact⟨i,zAi.1 a,by simpa [nz]using b⟩
 .rintro⟨i,a,b⟩;exact⟨_,zAs.2 ⟨i,zAi.2 a,rfl⟩,by simpa [nz]using b⟩
theorem adK:((List.range (row g v).length).map λq=>wF g c v q).any nz=false↔¬nbM g c v:=by
 rw[<-ZY];simp
theorem aeS:fV (aV p g) c v guL≠0↔Bt c v≠0/\nbM g c v:=by
 rw[ahV,LY,zA4,zA1,zA1,LY,ZY]
theorem aeR:fV (aV p g) c v guE≠0↔Bt c v=0/\¬nbM g c v:=by
 rw[ahU,LY,zA4,zA1,zA1,LY,LY,zA1,zA1,ajc,adK]
theorem acl (h:0<=jH (aV p g) RM c v):(jH (aV p g) RM c v=0/\Bt c v≠0/\nbM g c v)\/(jH (aV p g) RM c v=1/\Bt c v=0/\¬nbM g c v):=by
 obtain⟨i,b,a,d⟩:=(Cu (aV p g) RM c v).resolve_left (λe=>by omega);have a:i<2:=a
 match i,a with
 |0,_=>exact .inl ⟨b,aeS.1 d⟩
 |1,_=>exact .inr ⟨b,aeR.1 d⟩
theorem ajT (a:(at' c (v:Int)).length=1):at' (zM (aV p g) KU RM c v 0) 0=0:=by
 have e:zM (aV p g) KU RM c v 0=(at' c (v:Int)).set 0 0:=rfl;rw[e];have:=tE (at' c (v:Int)) 0 0 (0:Int) (by omega);rw[if_pos Z]at this;exact this
theorem ajU (a:(at' c (v:Int)).length=1):at' (zM (aV p g) KU RM c v 1) 0=1:=by
 have e:zM (aV p g) KU RM c v 1=(at' c (v:Int)).set 0 1:=rfl;rw[e];have:=tE (at' c (v:Int)) 0 0 (1:Int) (by omega);rw[if_pos Z]at this;exact this
end
def StM (g:GR) (c:bE) (v:Nat):Prop:=Bt c v≠0/\¬nbM g c v
section
variable {p:tC} {g:GR} {c:V6 (V6 Int)} {lv t:Nat}
theorem YR (l:CM g c KU) (h:∀i,t.testBit i=true->(DG (aV p g) RM lv c).testBit i=true):
  (∀v,t.testBit v=true->v<g.2.length/\((Bt c v≠0/\nbM g c v/\Bt (jR (aV p g) KU RM c t) v=0)\/(Bt c v=0/\¬nbM g c v/\Bt (jR (aV p g) KU RM c t) v=1)))/\∀v,v<g.2.length->t.testBit v=false->Bt (jR (aV p g) KU RM c t) v=Bt c v:=by
 have k:=l.len;have f:∀v,v<g.2.length->at' (jR (aV p g) KU RM c t) (v:Int)=if t.testBit v=true then zM (aV p g) KU RM c v (jH (aV p g) RM c v)else at' c (v:Int):=λv d=>FK (by rw[k];exact d);refine⟨λv d=>?_,λv d n=>?_⟩
 .obtain⟨j,m,_⟩:=(PU (aV p g) RM lv c v).1 (h v d);refine⟨j,?_⟩
  unfold Bt;rw[f v j,if_pos d];rcases acl m with⟨e,a,b⟩|⟨e,a,b⟩
  .rw[e];exact .inl ⟨a,b,ajT (l.row v j)⟩
  .rw[e];exact .inr ⟨a,b,ajU (l.row v j)⟩
 .unfold Bt;rw[f v d,if_neg (by rw[n];decide)]
variable (hV:VG g) (hr:CM g c KU) (hsub:∀i,t.testBit i=true->(DG (aV p g) RM lv c).testBit i=true)
 include hV hr hsub
theorem enterM (b:∀v u,t.testBit v=true->t.testBit u=true->¬KE g v u) {v:Nat} (j:t.testBit v=true) (h:Bt c v=0):StM g (jR (aV p g) KU RM c t) v:=by
 obtain⟨n,m⟩:=YR hr hsub;obtain⟨w,q⟩:=n v j;rcases q with⟨q,_⟩|⟨_,o,e⟩
 .exact absurd h q
 .refine⟨by rw[e];decide,?_⟩
  rintro⟨i,l,k⟩;obtain⟨u,s,d,a⟩:=hV.port w l;have f:t.testBit u=false:=by
   cases r:t.testBit u with
   |false=>rfl
   |true=>exact absurd a (b v u j r)
  rw[Xc d,m u s f]at k;exact o ⟨i,l,by rw[Xc d];exact k⟩
end
theorem Ka {f h:Nat->Nat}:∀{n:Nat},(∀v,v<n->f v=h v)->YV f n=YV h n
 |0,_=>rfl
 |n+1,k=>by simp only[YV];rw[Ka λv a=>k v (by omega),k n (by omega)]
theorem Kb (f:Nat->Nat) (a:Nat):∀b,YV f (a+b)=YV f a+YV (λv=>f (a+v)) b
 |0=>rfl
 |b+1=>by show YV f (a+b)+f (a+b)=_;rw[Kb f a b];simp only[YV];omega
def BE (t n:Nat):Nat:=YV (λv=>if t.testBit v=true then 1 else 0) n
theorem Ii (t n:Nat):BE t n<=n:=acD λv _=>by split<;>omega
theorem UH:∀i,i<256->at' Jd ((i:Nat):Int)=((BE i 8:Nat):Int):=by
 have h:((List.range 256).all λi=>decide (at' Jd ((i:Nat):Int)=((BE i 8:Nat):Int)))=true:=by decide +kernel
 intro i hi;exact zB5 (zA7.1 h i (zAi.2 hi))
theorem UD (t:Nat):BE t 24=BE (t / 2^16%256) 8+BE (t / 2^8%256) 8+BE (t%256) 8:=by
 have c:∀x,BE (x%256) 8=BE x 8:=λx=>Ka λv e=>by
  rw[show(256:Nat)=2^8 from rfl,Nat.testBit_mod_two_pow,zAd e,zB9]
 have d:∀k,BE (t / 2^k) 8=YV (λv=>if t.testBit (k+v)=true then 1 else 0) 8:=λk=>Ka λv _=>by
  rw[Nat.testBit_div_two_pow,Nat.add_comm]
 rw[c,c,c,d,d];have a:=Kb (λv=>if t.testBit v=true then 1 else 0) 16 8;have b:=Kb (λv=>if t.testBit v=true then 1 else 0) 8 8;unfold BE;rw[show(24:Nat)=16+8 from rfl,a,show(16:Nat)=8+8 from rfl,b];omega
theorem afn {t:Nat} (ht:t<16777216):jB 1000 (t:Int)=some ((BE t 24:Nat):Int):=by
 have hb:(Jd.length:Int)=256:=by decide +kernel
 have h255:∀a:Nat,a<4294967296->fF .u32 (a:Int) 255=((a%256:Nat):Int):=λa ha=>by
  rw[show(255:Int)=((255:Nat):Int)from rfl,CW ha (by omega),show(255:Nat)=2^8 - 1 from rfl,Nat.and_two_pow_sub_one_eq_mod]
 have hs:∀k:Nat,k<32->rW .u32 (t:Int) (k:Int)=((t / 2^k:Nat):Int):=λk hk=>Lb hk;have s24:rW .u32 (t:Int) 24=((t / 2^24:Nat):Int):=hs 24 (by omega);have s16:rW .u32 (t:Int) 16=((t / 2^16:Nat):Int):=hs 16 (by omega);have s8:rW .u32 (t:Int) 8=((t / 2^8:Nat):Int):=hs 8 (by omega);have z24:t / 2^24=0:=Nat.div_eq_of_lt (by omega);unfold jB;rw[hb,s24,s16,s8,h255 _ (by omega),h255 _ (by omega),h255 _ (by omega),z24,cR (by decide),cR (by omega),cR (by decide),cR (by omega),cR (by decide),cR (by omega),cR (by omega)];have z0:at' Jd ((0:Nat):Int)=0:=rfl;have w8:∀x:Int,0<=x->x<=100->wI .u8 x=x:=λx h1 h2=>by
  rw[EX];have:IntKind.u8.wrap x=x%256:=rfl;rw[this];omega
 have la:=Ii (t / 2^16%256) 8;have lb:=Ii (t / 2^8%256) 8;have lc:=Ii (t%256) 8;rw[UD,UH _ (show t / 2^16%256<256 by omega),UH _ (show t / 2^8%256<256 by omega),UH _ (show t%256<256 by omega),z0];generalize BE (t / 2^16%256) 8=A at *
 generalize BE (t / 2^8%256) 8=B at *
 generalize BE (t%256) 8=C at *
 rw[w8 (0+(A:Int)) (by omega) (by omega),w8 (0+(A:Int)+B) (by omega) (by omega),w8 (0+(A:Int)+B+C) (by omega) (by omega),wr (by omega) (by omega)];congr 1;omega
def XS (cnt:CT) (t en:Nat):CT:=
 (cnt.1+1,cnt.2.1+((BE t 24:Nat):Int),(if Ch cnt.2.2.2.2.toNat t &&& en=0 then cnt.2.2.1+1 else cnt.2.2.1),cnt.2.2.1+1,(if Ch cnt.2.2.2.2.toNat t &&& en=0 then(en:Int)else((Ch cnt.2.2.2.2.toNat t &&& en:Nat):Int)))
theorem adG {k:Nat} {i:CT} {R B o:Nat} (h:HV k i R B o) (y:k<900) {t en:Nat} (r:t<16777216) (w:t≠0) (j:en<16777216):jX 1000 i (t:Int) (en:Int)=some (XS i t en,0)/\∃v u n,HV (k+1) (XS i t en) v u n:=by
 have D:=h.valid (by omega);have m:jX 1000 i (t:Int) (en:Int)=some (XS i t en,0):=by
  obtain⟨a,b,c,d,e,f,g⟩:=h;have z:=afn r;have A:=Ii t 24;have C:=FG [(t:Int),(en:Int)] (by simp) λx s=>by
   have s:x=(t:Int)\/x=(en:Int):=by simpa using s
   rcases s with rfl|rfl
   .exact⟨t,rfl,r⟩
   .exact⟨en,rfl,j⟩
  have p:Ch o t<4294967296:=Mk o t;unfold jX;rw[bF (show kB 1000 _=some true from D),if_neg (by decide),if_neg (by omega),bF C];unfold oA oB XS;dsimp only;rw[a,c,e,zAf,if_neg (by decide),if_neg (by omega),bF z,LZ,CW p (by omega),dC (by omega),dC (by omega),wr (by omega) (by omega)];by_cases l:Ch o t &&& en=0
  .rw[if_pos (by rw[l];rfl),if_pos l,if_pos l];rfl
  .rw[if_neg (by omega),if_neg l,if_neg l];rfl
 refine⟨m,?_⟩
 obtain⟨n,_,q|q⟩:=h.add y r w j m
 .exact⟨_,_,_,q.2⟩
 .exact⟨_,_,_,q.2⟩
section
variable {C:Type} (en:C->Nat) (st:C->Nat->C) (rs:Nat->Int->Nat) (ws:V6 Int) (c0:C)
def cX:Nat->C
 |0=>c0
 |k+1=>st (cX k) (rs (en (cX k)) (at' ws (k:Int)))
def enX (k:Nat):Nat:=en (cX en st rs ws c0 k)
def tX (k:Nat):Nat:=rs (enX en st rs ws c0 k) (at' ws (k:Int))
def Ye:Nat->CT
 |0=>(0,0,0,0,((en c0:Nat):Int))
 |k+1=>XS (Ye k) (tX en st rs ws c0 k) (enX en st rs ws c0 (k+1))
def ai_ (k:Nat):Prop:=k<=ws.length/\(k=ws.length\/enX en st rs ws c0 k=0)/\∀j,j<k->enX en st rs ws c0 j≠0
def acE (k:Nat):List Int×List Int×C×CT:=(SG ((List.range k).map (tX en st rs ws c0)),(List.range (k+1)).map (λj=>((enX en st rs ws c0 j:Nat):Int)),cX en st rs ws c0 k,Ye en st rs ws c0 k)
end
section
variable {p:tC} {g:GR} {R:V6 RL}
theorem US (hV:VG g) (hp:lV g p.2.1) (hz:p.2.2.map tO=Dr R) (hR:oP p.2.1.length R=true) {kind:Int} (hk1:1<=kind) (hk4:kind<=4) {c0:List (List Int)} (hc0:CM g c0 p.2.1) {ws:List Int} (hws:ws.length<=800) (hw:∀k:Nat,k<ws.length->∃m:Nat,at' ws (k:Int)=(m:Int)/\m<4294967296):
  ∃k,ai_ (DG (aV p g) R (oY g)) (jR (aV p g) p.2.1 R) (λe w=>M_ g kind e w.toNat) ws c0 k/\
   r_ 1000 p g kind c0 ws=some (acE (DG (aV p g) R (oY g)) (jR (aV p g) p.2.1 R) (λe w=>M_ g kind e w.toNat) ws c0 k,0):=by
 let en:=DG (aV p g) R (oY g);let st:=jR (aV p g) p.2.1 R;let rs:Nat->Int->Nat:=λe w=>M_ g kind e w.toNat;have en24:∀c,en c<16777216:=λc=>Rk.lt (g:=g) hV (UN (aV p g) R (oY g) c);obtain⟨net,hnet,hN⟩:=abH hV;obtain⟨k,c,ch,cnt,ens,h1,⟨h2,h3,h4,h5,h6,_⟩,h7,h8,h9,h10,h11,h12⟩:=UR hV hp hz hR hk1 hk4 hc0 (ws:=ws) (by omega) hw
  (λk c ch cnt ens=>c=cX en st rs ws c0 k/\ch=(List.range k).map (tX en st rs ws c0)/\cnt=Ye en st rs ws c0 k/\ens=(List.range (k+1)).map (λj=>((enX en st rs ws c0 j:Nat):Int))/\(∀j,j<k->enX en st rs ws c0 j≠0)/\∃R' B pe,HV k cnt R' B pe)
  (by
   have hpe:fF .u32 ((en c0:Nat):Int) 16777215=((en c0:Nat):Int):=by
    have:=en24 c0;rw[show(16777215:Int)=((16777215:Nat):Int)from rfl,CW (by omega) (by omega),show(16777215:Nat)=2^24 - 1 from rfl,Nat.and_two_pow_sub_one_eq_mod,Nat.mod_eq_of_lt (by omega)]
   refine⟨rfl,rfl,?_,rfl,λj hj=>by omega,0,0,en c0,?_⟩
   .show((0,0,0,0,fF .u32 ((en c0:Nat):Int) 16777215):CT)=_;rw[hpe];rfl
   .refine⟨rfl,by dsimp only;omega,rfl,rfl,hpe,by omega,en24 c0⟩)
  (λk c ch cnt ens t cnt' err hk hsh hI hne ht0 hsub hind _ hres hadd=>by
   obtain⟨rfl,rfl,rfl,rfl,a5,R',B,pe,hc⟩:=hI;obtain⟨net',hn',hr'⟩:=hres;obtain rfl:net=net':=Option.some.inj (hnet.symm.trans hn');obtain⟨w,hwe,hw32⟩:=hw k hk;have heG:Rk g (en (cX en st rs ws c0 k)):=UN (aV p g) R (oY g) _;have ht:t=tX en st rs ws c0 k:=by
    have hX:=acg hV hN kind heG hw32;rw[hwe]at hr';have:=Option.some.inj (hr'.symm.trans hX);have e2:tX en st rs ws c0 k=M_ g kind (en (cX en st rs ws c0 k)) w:=by
     show M_ g kind _ (at' ws (k:Int)).toNat=_;rw[hwe];rfl
    rw[e2];omega
   have htG:Rk g t:=λi hi=>heG i (hsub i hi);have ht24:=Rk.lt hV htG;have hc1:jR (aV p g) p.2.1 R (cX en st rs ws c0 k) t=cX en st rs ws c0 (k+1):=by rw[ht];rfl
   rw[hc1]at hadd ⊢;have hen1:DG (aV p g) R (oY g) (cX en st rs ws c0 (k+1))=enX en st rs ws c0 (k+1):=rfl;rw[hen1]at hadd ⊢;obtain⟨q1,q2⟩:=adG hc (by omega) ht24 ht0 (en24 _) (en:=enX en st rs ws c0 (k+1));have hcc:cnt'=Ye en st rs ws c0 (k+1):=by
    have:=Option.some.inj (hadd.symm.trans q1);rw[(Prod.mk.inj this).1,ht];rfl
   refine⟨rfl,?_,hcc,?_,λj hj=>?_,?_⟩
   .rw[ht,List.range_succ,List.map_append,List.map_singleton]
   .rw[List.range_succ (n:=k+1),List.map_append,List.map_singleton]
   .by_cases e:j<k
    .exact a5 j e
    .obtain rfl:j=k:=by omega
     exact hne
   .rw[hcc,show Ye en st rs ws c0 (k+1)=XS (Ye en st rs ws c0 k) t (enX en st rs ws c0 (k+1)) by rw[ht];rfl];exact q2)
 subst h2 h3 h4 h5;exact⟨k,⟨h8,h12,h6⟩,h1⟩
end
theorem VB {S:Bq} {a:List xF} {R:List RL} {c:bE}:jR S a R c 0=c:=by
 unfold jR;refine List.ext_getElem (by simp) λi d b=>?_;simp[gK b]
theorem aka (g:GR) (e w:Nat):M_ g 4 e w=e:=by
 unfold M_ ait;rw[if_neg (by decide),if_neg (by decide),if_pos Z]
section
variable {p:tC} {g:GR} {R:V6 RL}
theorem WJ (c:List (List Int)):DG (aV p g) R (oY g) c=KI (aV p g) R c:=by
 refine zBj λi=>?_;unfold DG oY;rw[Nat.testBit_and,Nat.testBit_two_pow_sub_one,Gt];show(decide (i<g.2.length)&&_&&_)=(decide (i<g.2.length)&&_)
 cases decide (i<g.2.length)<;>simp
theorem PP {b:List Int} {a:List (List Int)}:∀k,cX (DG (aV p g) R (oY g)) (jR (aV p g) p.2.1 R) (λe w=>M_ g 4 e w.toNat) b a k=cS p g p.2.1 R a k
 |0=>rfl
 |k+1=>by
  show jR (aV p g) p.2.1 R (cX _ _ _ b a k) (M_ g 4 (DG (aV p g) R (oY g) (cX _ _ _ b a k)) _)=jR (aV p g) p.2.1 R (cS p g p.2.1 R a k) _;rw[PP k,aka,WJ]
theorem Sy (hV:VG g) (hp:lV g p.2.1) (hz:p.2.2.map tO=Dr R) (hR:oP p.2.1.length R=true) {c0:List (List Int)} (hc0:CM g c0 p.2.1) {ws:List Int} (hws:ws.length<=800) (hw:∀k:Nat,k<ws.length->∃m:Nat,at' ws (k:Int)=(m:Int)/\m<4294967296):
  ∃(a b:List Int) (cnt:CT),r_ 1000 p g 4 c0 ws=some ((a,b,cS p g p.2.1 R c0 ws.length,cnt),0):=by
 obtain⟨k,⟨h1,h2,h3⟩,hrun⟩:=US hV hp hz hR (kind:=4) (by omega) (by omega) hc0 hws hw;unfold acE at hrun;rw[PP]at hrun;have e:cS p g p.2.1 R c0 k=cS p g p.2.1 R c0 ws.length:=by
  rcases h2 with q|q
  .rw[<-q]
  .unfold enX at q;rw[PP,WJ]at q;obtain⟨m,hm⟩:∃m,ws.length=k+m:=⟨ws.length - k,by omega⟩
   rw[hm];exact(WB (by rw[q,VB]) m).symm
 rw[e]at hrun;exact⟨_,_,_,hrun⟩
end
def ptn (g:GR) (a:aW) (v:Nat):Int:=if 0<=at' a (v:Int)then(at' (at' g.2 (v:Int)) (at' a (v:Int))).1 else -1
def go (g:GR) (a:aW):Nat->Nat->Nat
 |0,v=>v
 |k+1,v=>go g a k (ptn g a v).toNat
end Go.Proofs.YtgciopekomcbfaaGreatDoor
namespace Go.Proofs.YtgciopekomcbfaaGreatDoor
open Go Go.Sx
def Low (g:GR) (d:aW) (v i:Nat):Prop:=at' d (iU (row g v) i).1=D d v - 1
instance (g:GR) (d:aW) (v i:Nat):Decidable (Low g d v i):=inferInstanceAs (Decidable (_=_))
end Go.Proofs.YtgciopekomcbfaaGreatDoor
namespace Go.Proofs.YtgciopekomcbfaaGreatDoor
open Go Go.Sx
section
variable {g:GR}
theorem Yf (b:VG g) (a:LA g):gR 1000 (g.1,g.2)=some true:=(Eo b).1 a
end
end Go.Proofs.YtgciopekomcbfaaGreatDoor
namespace Go.Proofs.YtgciopekomcbfaaGreatDoor
open Go.Sx
def Bf (U:Nat) (a:dM):Option ((Int×Bool×Bool×Int×Int)):=
 Option.bind (JF U ((a.1,a.2))) λb=>(if(!b)=true then(some (((0:Int),false,false,(0:Int),(0:Int))))else(Option.bind (jC U ((a.1,a.2)) (0:Int)) λc=>(some (((3:Int),false,true,(wI .i64 (c+(1:Int))),(-1:Int))))))
theorem ahk:aU prog 52:=call52
theorem TC (U:Nat) {d:dM} (a b:V0) (f:mS) (r:TI) (h:Bf U d=some r):
  a_ prog 52 #[Value.agg #[a,b]] [Sl aL a d.1,S2 aY b f d.2] (λx:Unit=>Value.agg #[vI (r.1),vB (r.2.1),vB (r.2.2.1),vI (r.2.2.2.1),vI (r.2.2.2.2)]) (λx l=>l) (λ_ l=>l):=by
 refine a_.of func52 Z ntmps52 Z λc=>?_;refine aP<|aI (aN.box (cs:=[a,b]) Z Z) Z λk=>aI (aN.alloc (cs:=vD5) Z Z) Z λm=>aM<|aK<|aP<|dL 1 Z<|fP h λg i h=>aI (zBk ahr (YT U a b f g i) Z (jS [0,1] Z)) Z λn=>aB (sI Z) Z<|aM ?_;refine Ca h Z (λ_ h=>?_) λ_ h=>?_
 .refine aP ?_;refine aB (Dm (r:=Value.agg #[vI (0:Int),vB (false),vB (false),vI (0:Int),vI (0:Int)]) (by intro w;simp[Instr.build,Instr.fill,cY,cI,cD,cZ,c_,cJ,dU])) Z ?_;refine bQ 0 (vs:=vD5) Z Z Z Z Z Z<|aM<|aT<|aJ ?_;cases h;exact fD () Z Z (RV.cell 0 Z Z Z Z) .nil aF.nil
 refine cQ<|aP<|dL 1 Z<|fP h λe j h=>aI (zBk aan (Bl U a b f e j) Z (jS [0,1] Z)) Z λo=>cU Z ?_;refine aB (Pt (r:=Value.agg #[vI (3:Int),vB (false),vB (true),vI (wI .i64 (e+(1:Int))),vI (-1:Int)]) Z Z Z Z (by intro w;simp[Instr.build,Instr.fill,cY,cI,cD,cZ,c_,cJ,dU])) Z ?_;refine bQ 0 (vs:=[vI (3:Int),vB (false),vB (true),vI (wI .i64 (e+(1:Int))),vI (-1:Int)]) Z Z Z Z Z Z<|aM<|aT ?_;cases h;exact fD () Z Z (RV.cell 0 Z Z Z Z) .nil aF.nil
end Go.Proofs.YtgciopekomcbfaaGreatDoor
namespace Go.Proofs.YtgciopekomcbfaaGreatDoor
open Go Go.Sx
theorem ajl {g:GR} (f:VM g.1 g.2) (h:∀v:Nat,1<=v->v<g.2.length->∃u:Nat,u<v/\nZ g.2 u v):LA g:=by
 have p:VG g:=f.vg;have t:=f.n1;have j:∀v,v<g.2.length->∃k,wL g 0 k v:=by
  intro v
  induction v using Nat.strongRecOn with
  | _ v ih =>
   intro c;by_cases l:v=0
   .subst l;exact⟨0,rfl,c⟩
   .obtain⟨u,e,x,s,o⟩:=h v (by omega) c;obtain⟨k,r⟩:=ih u e (by omega);obtain⟨i,q,d⟩:=Gr s;refine⟨k+1,u,r,i,q,?_⟩
    show(at' (at' g.2 (u:Int)) (i:Int)).1=_;rw[d,o]
 intro u v e c;obtain⟨a,m⟩:=j u e;obtain⟨b,n⟩:=j v c;exact⟨a+b,(Ih p m).trans n⟩
theorem ahA {g:GR} (a:VG g) (c:LA g):∃K:Nat,1<=K/\K<=700/\(∀v,v<g.2.length->vV g fB v<(K:Int)*1)/\Bf 1000 g=some (3,false,true,(K:Int),-1):=by
 have k:=a.n24;have n:=a.n1;have S:=akj a c default default;obtain⟨r,l,d,_,e,h,w,j,b⟩:=EN a c (s:=0) (by omega);have i:∀v,v<g.2.length->0<=D d v:=λv f=>(Sm a (by omega) e).2 c v (by rw[e.len];exact f);have o:0<=r:=by rw[<-b];exact i w j
 have p:r<=(g.2.length:Int):=by rw[<-b];exact e.hi w j
 refine⟨(r+1).toNat,by omega,by omega,λv f=>?_,?_⟩
 .rw[abw a S.grow e i f];have:=h v f;omega
 .unfold Bf JF;rw[bF (show(Option.bind (gR 1000 (g.1,g.2)) λm=>some m)=some true by rw[bF (Yf a c)]),if_neg (by decide),bF (show jC 1000 (g.1,g.2) 0=some r from l),wr (by omega) (by omega),show(((r+1).toNat:Nat):Int)=r+1 by omega]
theorem UI {g:GR} (G:VG g) (d:List xF) (f:aW) (ht:d.length<=900) (W:∀x,x<d.length->DK (at' d (x:Int)) /\ -100000<=(at' d (x:Int)).2.2.1) (J:∀x v,x<d.length->lo g (at' d (x:Int)) v<=hi g (at' d (x:Int)) v):
  OK (λc=>CM g c d) (fC 1000 g d f):=by
 have S:=G.n24;have m:=G.len;have R:fC 1000 g d f=nC 1000 g d f (eO g g.2.length):=by
  unfold fC;refine dZ (F:=λk:Nat=>((eO g k,(k:Int)):gO)) g.2.length (λk D hk=>?_) (λD=>?_) 1000 (by omega)
  .unfold pK;simp only;rw[if_pos (by omega),cR (by omega),wr (by omega) (by omega)];rfl
  .unfold pK;simp only;rw[if_neg (by omega)]
 rw[R];obtain⟨N,m2⟩:=sP G g.2.length (by omega);unfold nC;have L:=Be (step:=hZ 1000 g d f (eO g g.2.length)) (K:=λx=>some x.1) g.2.length (λv x=>x.2=(v:Int)/\x.1.length=v/\∀w,w<v->(at' x.1 (w:Int)).length=d.length/\NW g d w (at' x.1 (w:Int))) (λv x D A t=>?_) (λx D t=>?_) 1000 (([]:bE),(0:Int)) ⟨rfl,rfl,λw X=>by omega⟩ (by omega)
 .obtain⟨⟨c,i⟩,⟨_,u,s⟩,I⟩:=L;exact⟨c,I,u,λv A=>(s v A).1,λv A x B=>(s v A).2 x (by rw[(s v A).1];exact B)⟩
 .obtain⟨c,i⟩:=x;obtain⟨rfl,u,s⟩:=t;simp only at u s;have M:(at' g.2 (v:Int)).length<g.2.length:=(G.node v A).deg;unfold hZ;simp only;rw[if_pos (by omega)];have E:=Be (step:=kE 1000 g d f (eO g g.2.length) (c,(v:Int)) D) (K:=λy=>D (c++[y.1],(v:Int)+1)) d.length (λx y=>y.2=(x:Int)/\y.1.length=x/\NW g d v y.1) (λx y p B t=>?_) (λy p t=>?_) 1000 (([]:aW),(0:Int)) ⟨rfl,rfl,λx B=>by simp at B⟩ (by omega)
  .obtain⟨⟨l,j⟩,⟨_,n,C⟩,I⟩:=E;refine⟨(c++[l],(v:Int)+1),⟨by simp,by simp[u],λw X=>?_⟩,I⟩
   simp only;rw[BY c l (by omega),u];by_cases e:w<v
   .rw[if_pos e];exact s w e
   .rw[if_neg e];have:w=v:=by omega
    subst this;exact⟨n,C⟩
  .obtain⟨l,j⟩:=y;obtain⟨rfl,n,C⟩:=t;simp only at n C;obtain⟨⟨s1,O,P⟩,s4⟩:=W x B;have Q:=J x v B;have q:∀a b:Int,a=lo g (at' d (x:Int)) v->b=hi g (at' d (x:Int)) v -> -100000<=a->a<=b+1->b<=100000000->(a<=b\/(a = -1/\b = -1))->∃H,(H.2=((x+1:Nat):Int)/\H.1.length=x+1/\NW g d v H.1)/\lJ 1000 d f (c,(v:Int)) (l,(x:Int)) p (a,b)=p H:=by
    intro a b T V q1 q2 q3 q4;have U:a<=b:=by omega
    unfold lJ;simp only;have w1:wI .i64 ((v:Int)*(d.length:Int))=(v:Int)*(d.length:Int):=by
     have p1:0<=(v:Int)*(d.length:Int):=Int.mul_nonneg (by omega) (by omega);have p2:(v:Int)*(d.length:Int)<=24*900:=Int.mul_le_mul (by omega) (by omega) (by omega) (by omega);exact wr (by omega) (by omega)
    have p1:0<=(v:Int)*(d.length:Int):=Int.mul_nonneg (by omega) (by omega);have p2:(v:Int)*(d.length:Int)<=24*900:=Int.mul_le_mul (by omega) (by omega) (by omega) (by omega);rw[w1,wr (x:=(v:Int)*(d.length:Int)+(x:Int)) (by omega) (by omega),Oa _ _ (by omega),bF Z,wr (x:=b - a) (by omega) (by omega),wr (x:=b - a+1) (by omega) (by omega),pJ _ _ (by omega) (by omega),bF Z];have r1:=Int.emod_nonneg (at' f ((v:Int)*(d.length:Int)+(x:Int))) (b:=b - a+1) (by omega);have r2:=zBb (at' f ((v:Int)*(d.length:Int)+(x:Int))) (b:=b - a+1) (by omega);generalize at' f ((v:Int)*(d.length:Int)+(x:Int))%(b - a+1)=r at r1 r2;rw[wr (x:=a+r) (by omega) (by omega),cR (by simp;omega),wr (by omega) (by omega)];refine⟨_,⟨by simp,by simp[n],λz Y=>?_⟩,rfl⟩
    simp only[zA5,zA9,zAm,n]at Y;simp only;rw[BY l _ (by omega),n];by_cases e:z<x
    .rw[if_pos e];exact C z (by omega)
    .rw[if_neg e];have:z=x:=by omega
     subst this;rw[<-T,<-V];omega
   unfold kE;simp only;rw[if_pos (by omega),cR (by omega),cR (by omega),cR (by omega),cR (by omega),cR (by omega)];by_cases h:(at' d (x:Int)).2.1=2
   .rw[if_pos h];exact q 0 1 (by unfold lo;rw[if_pos h]) (by unfold hi;rw[if_pos h]) (by omega) (by omega) (by omega) (by omega)
   .rw[if_neg h];by_cases o:(at' d (x:Int)).2.1=3
    .rw[if_pos o,cR (by omega),wr (by omega) (by omega)];exact q (-1) _ (by unfold lo;rw[if_neg h,if_pos o]) (by unfold hi;rw[if_neg h,if_pos o]) (by omega) (by omega) (by omega) (by omega)
    .rw[if_neg o];unfold lo hi at Q;rw[if_neg h,if_neg o,if_neg h,if_neg o,m]at Q;have q1:0<=(at' d (x:Int)).2.2.2.2.1*(g.2.length:Int):=Int.mul_nonneg O.1 (by omega);have q2:(at' d (x:Int)).2.2.2.2.1*(g.2.length:Int)<=100000*24:=Int.mul_le_mul O.2 (by omega) (by omega) (by omega);have q3:0<=(at' d (x:Int)).2.2.2.2.2*eO g g.2.length:=Int.mul_nonneg P.1 N;have q4:(at' d (x:Int)).2.2.2.2.2*eO g g.2.length<=100000*255:=Int.mul_le_mul P.2 m2 N (by omega);rw[wr (x:=(at' d (x:Int)).2.2.2.2.1*(g.2.length:Int)) (by omega) (by omega),wr (x:=(at' d (x:Int)).2.2.2.2.2*eO g g.2.length) (by omega) (by omega),wr (x:=(at' d (x:Int)).2.2.2.1+(at' d (x:Int)).2.2.2.2.1*(g.2.length:Int)) (by omega) (by omega),wr (by omega) (by omega)];exact q _ _ (by unfold lo;rw[if_neg h,if_neg o]) (by unfold hi;rw[if_neg h,if_neg o,m]) (by omega) (by omega) (by omega) (by omega)
  .obtain⟨l,j⟩:=y;obtain⟨rfl,n,C⟩:=t;simp only at n C;unfold kE xX;simp only;rw[if_neg (by omega),cR (by simp;omega),wr (by omega) (by omega)]
 .obtain⟨c,i⟩:=x;obtain⟨rfl,u,s⟩:=t;unfold hZ sT;simp only;rw[if_neg (by omega)]
theorem Sk {g:GR} (d:VG g) (b:aW):OK (λc=>CM g c mH) (fC 1000 g mH b):=UI d mH b (by decide) (λq a=>⟨acv q a,by
  have a:q<3:=a
  match q,a with
  |0,_=>decide
  |1,_=>decide
  |2,_=>decide⟩) (λq v a=>by
  have e:=d.len;have f:=d.n1;have h:=sP d g.1.length (by omega);have a:q<3:=a
  match q,a with
  |0,_=>rw[aff,aeT];omega
  |1,_=>rw[abt,aeU];omega
  |2,_=>rw[aid,ahW];omega)
end Go.Proofs.YtgciopekomcbfaaGreatDoor
namespace Go.Proofs.YtgciopekomcbfaaGreatDoor
open Go.Sx
def zH (U:Nat) (a:dM):Option Bool:=
 Option.bind (gR U ((a.1,a.2))) λb=>(some (b))
theorem adO:aU prog 100:=call100
theorem QO (U:Nat) {d:dM} (a b:V0) (e:mS) (r:Bool) (h:zH U d=some r):
  a_ prog 100 #[Value.agg #[a,b]] [Sl aL a d.1,S2 aY b e d.2] (λx:Unit=>vB (r)) (λx l=>l) (λ_ l=>l):=by
 refine a_.of func100 Z ntmps100 Z λc=>?_;refine aP<|aI (aN.box (cs:=[a,b]) Z Z) Z λi=>aC Z<|aM<|aP<|dL 0 Z<|fP h λf g h=>aI (zBk PH (Ae U a b e f g) Z (jS [0,1] Z)) Z λj=>aC Z<|aM<|aT ?_;cases h;exact xT Z
def AV (a:Int):Option (Int):=
 some (a)
def xA (c:aW) (a:gO) (b:jF->Option (Int)):Option (Int):=
 if a.2<(c.length:Int)then(ck (0<=a.2/\a.2<(c.length:Int)) (b ((min a.1 (at' c a.2)),(wI .i64 (a.2+(1:Int))))))else(AV (a.1))
def BQ (U:Nat) (a:aW):Option (Int):=
 if(a.length:Int)<(1:Int)then(none)else(ck (0<=(0:Int)/\(0:Int)<(a.length:Int)) (bN (xA a) U ((at' a (0:Int)),(1:Int))))
theorem adZ:aU prog 165:=call165
theorem QU (U:Nat) {f:aW} (g:V0) (r:Int) (h:BQ U f=some r):
  a_ prog 165 #[g] [Sl aL g f] (λx:Unit=>vI (r)) (λx l=>l) (λ_ l=>l):=by
 refine a_.of func165 Z ntmps165 Z λc=>?_;refine aP<|aC Z<|aM<|aK<|aP<|aA Z<|kG (dH Z) Z<|dD Z<|aM ?_;refine eI h Z (λh=>?_) λh=>?_
 .refine aR ?_;cases h
 refine cQ<|aP<|aA Z<|dV h λj h=>aB (bR Z Z (dH Z) Z Z j) Z<|aB (cK Z (dH Z) Z Z Z gF j) Z<|aC Z<|aM<|aK<|iA (λb=>AV b=some r) (λb i=>[(3,vI (b))]) (λb i=>[]) ?_ ?_
 .refine aP<|aC Z<|aM<|aS<|gC (xA f) (λa d=>[(0,g),(3,vI (a.1)),(4,vI (a.2))]) (λa d=>[]) ((at' f (0:Int)),(1:Int)) () h SF (aX.refl _) ?_;intro k a d h;refine aK<|aP<|aA Z<|aA Z<|kG (dH Z) Z<|dD Z<|aM ?_;refine eI h Z (λh=>?_) λh=>?_
  .refine cQ<|aK<|aS<|aR<|aA Z<|aA Z<|aA Z<|dV h λe h=>aB (bR Z Z (dH Z) Z Z e) Z<|aB (cK Z (dH Z) Z Z Z gF e) Z<|aB (ZO Z Z) Z<|aC Z<|eW<|m_<|aR<|aA Z<|cU Z<|aC Z<|aM ?_;exact BD ((min a.1 (at' f a.2)),(wI .i64 (a.2+(1:Int)))) () h SF Z
  refine fO ?_;exact j_ (a.1) () h SF Z
 intro b i h;unfold AV at h;refine aP<|aA Z<|aC Z<|aM<|aT ?_;cases h;exact mA Z
def qZ (U:Nat) (a:dM):Option (Int):=
 Option.bind (BQ U a.1) λb=>(Option.bind (k_ U a.1 b) λc=>(some (c)))
theorem adP:aU prog 101:=call101
theorem Nk (U:Nat) {b:dM} (a d:V0) (k:mS) (r:Int) (h:qZ U b=some r):
  a_ prog 101 #[Value.agg #[a,d]] [Sl aL a b.1,S2 aY d k b.2] (λx:Unit=>vI (r)) (λx l=>l) (λ_ l=>l):=by
 refine a_.of func101 Z ntmps101 Z λc=>?_;refine aP<|aI (aN.box (cs:=[a,d]) Z Z) Z λm=>aC Z<|aM<|aK ?_;refine yP [0,1,0,4,12,31,63] 5 mixedOrders ?_;refine cN Z<|gW 0 Z<|cN Z<|gW 0 Z<|fP h λe g h=>zBl Z Z Z (zBk adZ (QU U a e g) Z (jS [0] Z)) Z (λj=>(pB [([0],[])] Z)) λj=>bU 5 Z Z<|fP h λf i h=>aI (zBk Wo (FX U a f i) Z (jS [0] Z)) Z λn=>aC Z<|aM<|aT ?_;cases h;exact xT Z
def uF (U:Nat) (a:dM):Option ((Int×Bool×Bool×Int×Int)):=
 Option.bind (zH U ((a.1,a.2))) λc=>(if(!c)=true then(some (((0:Int),false,false,(0:Int),(0:Int))))else(Option.bind (qZ U ((a.1,a.2))) λd=>(Option.bind (jC U ((a.1,a.2)) d) λb=>(some (((3:Int),false,true,(wI .i64 ((a.1.length:Int)+b)),(-1:Int)))))))
theorem ahl:aU prog 55:=call55
theorem Nj (U:Nat) {e:dM} (b d:V0) (f:mS) (r:TI) (h:uF U e=some r):
  a_ prog 55 #[Value.agg #[b,d]] [Sl aL b e.1,S2 aY d f e.2] (λx:Unit=>Value.agg #[vI (r.1),vB (r.2.1),vB (r.2.2.1),vI (r.2.2.2.1),vI (r.2.2.2.2)]) (λx l=>l) (λ_ l=>l):=by
 refine a_.of func55 Z ntmps55 Z λc=>?_;refine aP<|aI (aN.box (cs:=[b,d]) Z Z) Z λp=>aI (aN.alloc (cs:=vD5) Z Z) Z λq=>aM<|aK<|aP<|dL 1 Z<|fP h λj m h=>aI (zBk adO (QO U b d f j m) Z (jS [0,1] Z)) Z λs=>aB (sI Z) Z<|aM ?_;refine Ca h Z (λ_ h=>?_) λ_ h=>?_
 .refine aP ?_;refine aB (Dm (r:=Value.agg #[vI (0:Int),vB (false),vB (false),vI (0:Int),vI (0:Int)]) (by intro w;simp[Instr.build,Instr.fill,cY,cI,cD,cZ,c_,cJ,dU])) Z ?_;refine bQ 0 (vs:=vD5) Z Z Z Z Z Z<|aM<|aT<|aJ ?_;cases h;exact fD () Z Z (RV.cell 0 Z Z Z Z) .nil aF.nil
 refine cQ<|aK ?_;refine yP [0,1,3,0,0,16,56,127,255] 7 mixedOrders ?_;refine cN Z<|gW 1 Z<|bK Z .nil (nD 0 Z) (iN Z (dH Z) Z) aO.z<|nP 1 Z<|nP 1 Z<|fP h λk n h=>zBl Z Z Z (zBk adP (Nk U b d f k n) Z (jS [0,1] Z)) Z (λo=>(pB [([1],[]),([],[0]),([1],[])] Z)) λo=>fP h λa g h=>zBl Z Z Z (zBk aan (Bl U b d f a g) Z (jS [0,1] Z)) Z (λi=>(pB [([],[0]),([1],[])] Z)) λi=>bU 7 Z Z<|cU Z<|aC Z<|aM<|aP<|aA Z ?_;refine aB (Pt (r:=Value.agg #[vI (3:Int),vB (false),vB (true),vI (wI .i64 ((e.1.length:Int)+a)),vI (-1:Int)]) Z Z Z Z (by intro w;simp[Instr.build,Instr.fill,cY,cI,cD,cZ,c_,cJ,dU])) Z ?_;refine bQ 0 (vs:=[vI (3:Int),vB (false),vB (true),vI (wI .i64 ((e.1.length:Int)+a)),vI (-1:Int)]) Z Z Z Z Z Z<|aM<|aT ?_;cases h;exact fD () Z Z (RV.cell 0 Z Z Z Z) .nil aF.nil
end Go.Proofs.YtgciopekomcbfaaGreatDoor
namespace Go.Proofs.YtgciopekomcbfaaGreatDoor
open Go Go.Sx
theorem ajE {g:GR} (a:VG g) {u v:Nat} (b:u<g.2.length) (c:v<g.2.length) (h:u≠v):yN g u≠yN g v:=by
 rcases zAr u v with q|q
 .exact(a.node v c).ids u q
 .exact λe=>(a.node u b).ids v (by omega) e.symm
theorem aib {g:GR} (d:VG g):∃s,s<g.2.length/\(∀u,u<g.2.length->u≠s->yN g s<yN g u)/\qZ 1000 g=some ((s:Nat):Int):=by
 have G:=d.n1;have D:=d.n24;have A:=d.len;have B:∀u,u<g.2.length->0<=yN g u:=λu b=>(d.node u b).id.1;obtain⟨m,_,⟨s,v,F⟩,n⟩:=least (p:=λm=>∃s,s<g.2.length/\yN g s=((m:Nat):Int)) (yN g 0).toNat ⟨0,by omega,by have:=B 0 (by omega);omega⟩;have l:∀u,u<g.2.length->yN g s<=yN g u:=λu b=>by
  have:=B u b;have h:=n (yN g u).toNat;by_cases e:(yN g u).toNat<m
  .exact absurd ⟨u,b,by omega⟩ (h e)
  .omega
 refine⟨s,v,λu b e=>?_,?_⟩
 .have:=l u b;have:=ajE d b v e;omega
 have C:BQ 1000 g.1=some (yN g s):=by
  unfold BQ;rw[if_neg (by omega),cR (by omega)];obtain⟨⟨a,i⟩,⟨f,⟨w,x,c⟩,j⟩,y⟩:=Be (step:=xA g.1) (K:=λz=>some z.1) (g.2.length - 1) (λk z=>z.2=((k+1:Nat):Int)/\(∃w,w<g.2.length/\z.1=yN g w)/\∀u:Nat,u<k+1->z.1<=yN g u) (λk z o E t=>by
   obtain⟨a,i⟩:=z;obtain⟨f,⟨w,x,c⟩,j⟩:=t;dsimp only at f c j;subst f c;have r:at' g.1 ((k+1:Nat):Int)=yN g (k+1):=rfl;refine⟨(min (yN g w) (yN g (k+1)),((k+1+1:Nat):Int)),⟨rfl,?_,λu b=>?_⟩,?_⟩
   .dsimp only;by_cases q:yN g w<=yN g (k+1)
    .exact⟨w,x,by omega⟩
    .exact⟨k+1,by omega,by omega⟩
   .dsimp only;by_cases q:u<k+1
    .have:=j u q;omega
    .obtain rfl:u=k+1:=by omega
     omega
   .unfold xA;dsimp only;rw[if_pos (by omega),cR (by omega),dC (by omega),r]) (λz o t=>by
   obtain⟨a,i⟩:=z;obtain⟨f,_⟩:=t;dsimp only at f;subst f;unfold xA AV;dsimp only;rw[if_neg (by omega)]) 1000 (at' g.1 (0:Int),(1:Int)) ⟨rfl,⟨0,by omega,rfl⟩,λu b=>by
    obtain rfl:u=0:=by omega
    exact Int.le_refl _⟩ (by omega)
  dsimp only at c j y;have H:=j s (by omega);have I:=l w x;rw[y,show a=yN g s by omega]
 have r:k_ 1000 g.1 (yN g s)=some ((s:Nat):Int):=by
  unfold k_;refine dZ (step:=g_ g.1 (yN g s)) (K:=some ((s:Nat):Int)) s (λk:Nat=>(k:Int)) (λk o E=>?_) (λo=>?_) 1000 (by omega)
  .unfold g_;rw[if_pos (by omega),cR (by omega),if_neg (show¬yN g s=at' g.1 (k:Int)from λe=>ajE d v (show k<g.2.length by omega) (by omega) e),dC (by omega)]
  .unfold g_;rw[if_pos (by omega),cR (by omega),if_pos (show yN g s=at' g.1 (s:Int)from rfl)]
 unfold qZ;rw[bF C,bF r]
end Go.Proofs.YtgciopekomcbfaaGreatDoor
namespace Go.Proofs.YtgciopekomcbfaaGreatDoor
open Go.Sx
def HF (U:Nat) : Option (ByteArray):=
 some (ByteArray.mk #[112,114,111,103,114,97,109,32,98,102,115,59,10,118,97,114,32,100,32,58,32,48,32,46,46,32,110,59,10,118,97,114,32,112,32,58,32,112,111,114,116,59,10,114,117,108,101,32,116,111,112,58,32,114,111,111,116,32,38,38,32,40,100,32,33,61,32,48,32,124,124,32,112,32,33,61,32,110,111,110,101,41,32,45,62,32,100,32,58,61,32,48,44,32,112,32,58,61,32,110,111,110,101,59,10,114,117,108,101,32,108,111,119,58,32,33,114,111,111,116,32,38,38,32,40,100,32,33,61,32,40,109,105,110,40,113,46,100,41,32,60,32,110,32,63,32,109,105,110,40,113,46,100,41,32,43,32,49,32,58,32,110,41,32,124,124,32,112,32,33,61,32,102,105,114,115,116,40,113,46,100,32,61,61,32,109,105,110,40,113,46,100,41,41,41,10,32,32,45,62,32,100,32,58,61,32,40,109,105,110,40,113,46,100,41,32,60,32,110,32,63,32,109,105,110,40,113,46,100,41,32,43,32,49,32,58,32,110,41,44,32,112,32,58,61,32,102,105,114,115,116,40,113,46,100,32,61,61,32,109,105,110,40,113,46,100,41,41,59,10])
theorem ahg:aU prog 21:=call21
theorem VE (U:Nat) (r:ByteArray) (h:HF U = some r):
  a_ prog 21 #[] [] (λx:Unit=>vS (r)) (λx l=>l) (λ_ l=>l):=by
 refine a_.of func21 Z ntmps21 Z λc=>?_;unfold HF at h;refine aP<|aC Z<|aM<|aP<|aC Z<|aM<|aT ?_;cases h;exact mA Z
def Dx (U:Nat) : Option (ByteArray):=
 some (ByteArray.mk #[112,114,111,103,114,97,109,32,108,101,97,100,101,114,59,10,118,97,114,32,108,101,97,100,32,58,32,48,32,46,46,32,105,100,115,59,10,118,97,114,32,100,32,58,32,48,32,46,46,32,110,32,45,32,49,59,10,118,97,114,32,112,32,58,32,112,111,114,116,59,10,114,117,108,101,32,111,119,110,58,32,105,100,32,42,32,110,32,60,61,32,109,105,110,40,113,46,100,32,43,32,49,32,60,32,110,32,63,32,113,46,108,101,97,100,32,42,32,110,32,43,32,113,46,100,32,58,32,40,105,100,115,32,43,32,49,41,32,42,32,110,41,32,38,38,32,40,108,101,97,100,32,33,61,32,105,100,32,124,124,32,100,32,33,61,32,48,32,124,124,32,112,32,33,61,32,110,111,110,101,41,32,45,62,32,108,101,97,100,32,58,61,32,105,100,44,32,100,32,58,61,32,48,44,32,112,32,58,61,32,110,111,110,101,59,10,114,117,108,101,32,106,111,105,110,58,32,105,100,32,42,32,110,32,62,32,109,105,110,40,113,46,100,32,43,32,49,32,60,32,110,32,63,32,113,46,108,101,97,100,32,42,32,110,32,43,32,113,46,100,32,58,32,40,105,100,115,32,43,32,49,41,32,42,32,110,41,32,38,38,32,40,108,101,97,100,32,33,61,32,109,105,110,40,113,46,100,32,43,32,49,32,60,32,110,32,63,32,113,46,108,101,97,100,32,42,32,110,32,43,32,113,46,100,32,58,32,40,105,100,115,32,43,32,49,41,32,42,32,110,41,32,47,32,110,32,124,124,32,100,32,33,61,32,109,105,110,40,113,46,100,32,43,32,49,32,60,32,110,32,63,32,113,46,108,101,97,100,32,42,32,110,32,43,32,113,46,100,32,58,32,40,105,100,115,32,43,32,49,41,32,42,32,110,41,32,37,32,110,32,43,32,49,32,124,124,32,112,32,33,61,32,102,105,114,115,116,40,113,46,108,101,97,100,32,42,32,110,32,43,32,113,46,100,32,61,61,32,109,105,110,40,113,46,100,32,43,32,49,32,60,32,110,32,63,32,113,46,108,101,97,100,32,42,32,110,32,43,32,113,46,100,32,58,32,40,105,100,115,32,43,32,49,41,32,42,32,110,41,41,41,10,32,32,45,62,32,108,101,97,100,32,58,61,32,109,105,110,40,113,46,100,32,43,32,49,32,60,32,110,32,63,32,113,46,108,101,97,100,32,42,32,110,32,43,32,113,46,100,32,58,32,40,105,100,115,32,43,32,49,41,32,42,32,110,41,32,47,32,110,44,32,100,32,58,61,32,109,105,110,40,113,46,100,32,43,32,49,32,60,32,110,32,63,32,113,46,108,101,97,100,32,42,32,110,32,43,32,113,46,100,32,58,32,40,105,100,115,32,43,32,49,41,32,42,32,110,41,32,37,32,110,32,43,32,49,44,32,112,32,58,61,32,102,105,114,115,116,40,113,46,108,101,97,100,32,42,32,110,32,43,32,113,46,100,32,61,61,32,109,105,110,40,113,46,100,32,43,32,49,32,60,32,110,32,63,32,113,46,108,101,97,100,32,42,32,110,32,43,32,113,46,100,32,58,32,40,105,100,115,32,43,32,49,41,32,42,32,110,41,41,59,10])
theorem ahh:aU prog 24:=call24
theorem NI (U:Nat) (r:ByteArray) (h:Dx U = some r):
  a_ prog 24 #[] [] (λx:Unit=>vS (r)) (λx l=>l) (λ_ l=>l):=by
 refine a_.of func24 Z ntmps24 Z λc=>?_;unfold Dx at h;refine aP<|aC Z<|aM<|aP<|aC Z<|aM<|aT ?_;cases h;exact mA Z
def BS (U:Nat) (a:Int):Option (ByteArray):=
 if a=(0:Int)then(Option.bind (HF U) λb=>(some (b)))else(if a=(1:Int)then(none)else(if a=(2:Int)then(none)else(if a=(3:Int)then(Option.bind (Dx U) λc=>(some (c)))else(if a=(4:Int)then(none)else(if a=(5:Int)then(none)else(if a=(6:Int)then(none)else(if a=(7:Int)then(none)else(if a=(8:Int)then(none)else(if a=(9:Int)then(none)else(if a=(10:Int)then(none)else(if a=(11:Int)then(none)else(if a=(12:Int)then(none)else(if a=(13:Int)then(none)else(none))))))))))))))
theorem aji:aU prog 7:=call7
theorem QX (U:Nat) {a:Int} (r:ByteArray) (h:BS U a=some r):
  a_ prog 7 #[vI (a)] [] (λx:Unit=>vS (r)) (λx l=>l) (λ_ l=>l):=by
 refine a_.of func7 Z ntmps7 Z λc=>?_;refine aP<|aC Z<|aM<|aK<|aP<|aA Z<|aM<|aS<|aP<|bZ Z<|aC Z<|aM ?_;refine eI h Z (λh=>?_) λh=>?_
 .refine aP<|fP h λb e h=>aI (zBk ahg (VE U b e) Z .nil) Z λi=>aC Z<|aM<|aT<|bW<|aJ ?_;cases h;exact mA Z
 refine aP<|bZ Z<|aC Z<|aM ?_;refine eI h Z (λh=>?_) λh=>?_
 .refine aP ?_;cases h
 refine aP<|bZ Z<|aC Z<|aM ?_;refine eI h Z (λh=>?_) λh=>?_
 .refine aP ?_;cases h
 refine aP<|bZ Z<|aC Z<|aM ?_;refine eI h Z (λh=>?_) λh=>?_
 .refine aP<|fP h λd f h=>aI (zBk ahh (NI U d f) Z .nil) Z λg=>aC Z<|aM<|aT<|bW<|aJ ?_;cases h;exact mA Z
 refine aP<|bZ Z<|aC Z<|aM ?_;refine eI h Z (λh=>?_) λh=>?_
 .refine aP ?_;cases h
 refine aP<|bZ Z<|aC Z<|aM ?_;refine eI h Z (λh=>?_) λh=>?_
 .refine aP ?_;cases h
 refine aP<|bZ Z<|aC Z<|aM ?_;refine eI h Z (λh=>?_) λh=>?_
 .refine aP ?_;cases h
 refine aP<|bZ Z<|aC Z<|aM ?_;refine eI h Z (λh=>?_) λh=>?_
 .refine aP ?_;cases h
 refine aP<|bZ Z<|aC Z<|aM ?_;refine eI h Z (λh=>?_) λh=>?_
 .refine aP ?_;cases h
 refine aP<|bZ Z<|aC Z<|aM ?_;refine eI h Z (λh=>?_) λh=>?_
 .refine aP ?_;cases h
 refine aP<|bZ Z<|aC Z<|aM ?_;refine eI h Z (λh=>?_) λh=>?_
 .refine aP ?_;cases h
 refine aP<|bZ Z<|aC Z<|aM ?_;refine eI h Z (λh=>?_) λh=>?_
 .refine aP ?_;cases h
 refine aP<|bZ Z<|aC Z<|aM ?_;refine eI h Z (λh=>?_) λh=>?_
 .refine aP ?_;cases h
 refine aP<|bZ Z<|aC Z<|aM ?_;refine eI h Z (λh=>?_) λh=>?_
 .refine aP ?_;cases h
 refine eP<|m_<|aP ?_;cases h
def Iz (U:Nat) : Option acI:=
 Option.bind (uH U (ByteArray.mk #[108,101,97,100]) (0:Int) (0:Int) (1:Int)) λa=>(Option.bind (uH U (ByteArray.mk #[100]) (-1:Int) (1:Int) (0:Int)) λb=>(Option.bind (xR U (ByteArray.mk #[112])) λc=>(some ([(a.1,a.2.1,a.2.2.1,a.2.2.2.1,a.2.2.2.2.1,a.2.2.2.2.2),(b.1,b.2.1,b.2.2.1,b.2.2.2.1,b.2.2.2.2.1,b.2.2.2.2.2),(c.1,c.2.1,c.2.2.1,c.2.2.2.1,c.2.2.2.2.1,c.2.2.2.2.2)]))))
theorem ahj:aU prog 40:=call40
theorem QR (U:Nat) (r:acJ) (h:Iz U = some r):
  a_ prog 40 #[] [] (λx:V0=>x) (λx l=>Ar lC x r::l) (λ_ l=>l):=by
 refine a_.of func40 Z ntmps40 Z λc=>?_;refine aP<|aC Z<|aM<|aP<|fP h λa g h=>aI (zBk UF (CG U a g) Z .nil) Z λk=>fP h λb i h=>aI (zBk UF (CG U b i) Z .nil) Z λm=>fP h λd j h=>aI (zBk aam (ER U d j) Z .nil) Z λn=>aI (b_ (e:=lC) ([((a.1,a.2.1,a.2.2.1,a.2.2.2.1,a.2.2.2.2.1,a.2.2.2.2.2)),((b.1,b.2.1,b.2.2.1,b.2.2.2.1,b.2.2.2.2.1,b.2.2.2.2.2)),((d.1,d.2.1,d.2.2.1,d.2.2.2.1,d.2.2.2.2.1,d.2.2.2.2.2))]) [(0,Value.agg #[vS (a.1),vI (a.2.1),vI (a.2.2.1),vI (a.2.2.2.1),vI (a.2.2.2.2.1),vI (a.2.2.2.2.2)]),(1,Value.agg #[vS (b.1),vI (b.2.1),vI (b.2.2.1),vI (b.2.2.2.1),vI (b.2.2.2.2.1),vI (b.2.2.2.2.2)]),(2,Value.agg #[vS (d.1),vI (d.2.1),vI (d.2.2.1),vI (d.2.2.2.1),vI (d.2.2.2.2.1),vI (d.2.2.2.2.2)])] Z Z Z Z (aaT (vS (a.1)) (vI (a.2.1)) (vI (a.2.2.1)) (vI (a.2.2.2.1)) (vI (a.2.2.2.2.1)) (vI (a.2.2.2.2.2)) (vS (b.1)) (vI (b.2.1)) (vI (b.2.2.1)) (vI (b.2.2.2.1)) (vI (b.2.2.2.2.1)) (vI (b.2.2.2.2.2)) (vS (d.1)) (vI (d.2.1)) (vI (d.2.2.1)) (vI (d.2.2.2.1)) (vI (d.2.2.2.2.1)) (vI (d.2.2.2.2.2))) Z Z Z) Z λf=>aC Z<|aM<|aT ?_;cases h;exact fD (f) Z Z (RV.tmp Z) (aX.refl _) aF.nil
def zK (U:Nat) (a:Int):Option acI:=
 if a=(0:Int)then(Option.bind (Iy U) λb=>(some (b)))else(if a=(1:Int)then(none)else(if a=(2:Int)then(none)else(if a=(3:Int)then(Option.bind (Iz U) λc=>(some (c)))else(if a=(4:Int)then(none)else(if a=(5:Int)then(none)else(if a=(6:Int)then(none)else(if a=(7:Int)then(none)else(if a=(8:Int)then(none)else(if a=(9:Int)then(none)else(if a=(10:Int)then(none)else(if a=(11:Int)then(none)else(if a=(12:Int)then(none)else(if a=(13:Int)then(none)else(none))))))))))))))
theorem age:aU prog 9:=call9
theorem IW (U:Nat) {b:Int} (r:acJ) (h:zK U b=some r):
  a_ prog 9 #[vI (b)] [] (λx:V0=>x) (λx l=>Ar lC x r::l) (λ_ l=>l):=by
 refine a_.of func9 Z ntmps9 Z λc=>?_;refine aP<|aC Z<|aM<|aK<|aP<|aA Z<|aM<|aS<|aP<|bZ Z<|aC Z<|aM ?_;refine eI h Z (λh=>?_) λh=>?_
 .refine aP<|fP h λd f h=>aI (zBk ahi (QQ U d f) Z .nil) Z λi=>aC Z<|aM<|aT<|bW<|aJ ?_;cases h;exact fD (i) Z Z (RV.tmp Z) (aX.refl _) aF.nil
 refine aP<|bZ Z<|aC Z<|aM ?_;refine eI h Z (λh=>?_) λh=>?_
 .refine aP ?_;cases h
 refine aP<|bZ Z<|aC Z<|aM ?_;refine eI h Z (λh=>?_) λh=>?_
 .refine aP ?_;cases h
 refine aP<|bZ Z<|aC Z<|aM ?_;refine eI h Z (λh=>?_) λh=>?_
 .refine aP<|fP h λe g h=>aI (zBk ahj (QR U e g) Z .nil) Z λa=>aC Z<|aM<|aT<|bW<|aJ ?_;cases h;exact fD (a) Z Z (RV.tmp Z) (aX.refl _) aF.nil
 refine aP<|bZ Z<|aC Z<|aM ?_;refine eI h Z (λh=>?_) λh=>?_
 .refine aP ?_;cases h
 refine aP<|bZ Z<|aC Z<|aM ?_;refine eI h Z (λh=>?_) λh=>?_
 .refine aP ?_;cases h
 refine aP<|bZ Z<|aC Z<|aM ?_;refine eI h Z (λh=>?_) λh=>?_
 .refine aP ?_;cases h
 refine aP<|bZ Z<|aC Z<|aM ?_;refine eI h Z (λh=>?_) λh=>?_
 .refine aP ?_;cases h
 refine aP<|bZ Z<|aC Z<|aM ?_;refine eI h Z (λh=>?_) λh=>?_
 .refine aP ?_;cases h
 refine aP<|bZ Z<|aC Z<|aM ?_;refine eI h Z (λh=>?_) λh=>?_
 .refine aP ?_;cases h
 refine aP<|bZ Z<|aC Z<|aM ?_;refine eI h Z (λh=>?_) λh=>?_
 .refine aP ?_;cases h
 refine aP<|bZ Z<|aC Z<|aM ?_;refine eI h Z (λh=>?_) λh=>?_
 .refine aP ?_;cases h
 refine aP<|bZ Z<|aC Z<|aM ?_;refine eI h Z (λh=>?_) λh=>?_
 .refine aP ?_;cases h
 refine aP<|bZ Z<|aC Z<|aM ?_;refine eI h Z (λh=>?_) λh=>?_
 .refine aP ?_;cases h
 refine eP<|m_<|aP ?_;cases h
def sZ (U:Nat) (a:Int) (d:dM):Option ((Int×Bool×Bool×Int×Int)):=
 if a=(0:Int)then(Option.bind (Bf U ((d.1,d.2))) λc=>(some ((c.1,c.2.1,c.2.2.1,c.2.2.2.1,c.2.2.2.2))))else(if a=(1:Int)then(none)else(if a=(2:Int)then(none)else(if a=(3:Int)then(Option.bind (uF U ((d.1,d.2))) λb=>(some ((b.1,b.2.1,b.2.2.1,b.2.2.2.1,b.2.2.2.2))))else(if a=(4:Int)then(none)else(if a=(5:Int)then(none)else(if a=(6:Int)then(none)else(if a=(7:Int)then(none)else(if a=(8:Int)then(none)else(if a=(9:Int)then(none)else(if a=(10:Int)then(none)else(if a=(11:Int)then(none)else(if a=(12:Int)then(none)else(if a=(13:Int)then(none)else(none))))))))))))))
theorem ag_:aU prog 10:=call10
theorem NL (U:Nat) {j:Int} {f:dM} (d e:V0) (i:mS) (r:TI) (h:sZ U j f=some r):
  a_ prog 10 #[vI (j),Value.agg #[d,e]] [Sl aL d f.1,S2 aY e i f.2] (λx:Unit=>Value.agg #[vI (r.1),vB (r.2.1),vB (r.2.2.1),vI (r.2.2.2.1),vI (r.2.2.2.2)]) (λx l=>l) (λ_ l=>l):=by
 refine a_.of func10 Z ntmps10 Z λc=>?_;refine aP<|aI (aN.box (cs:=[d,e]) Z Z) Z λn=>aI (aN.alloc (cs:=vD5) Z Z) Z λo=>aM<|aK<|aP<|aA Z<|aM<|aS<|aP<|bZ Z<|aC Z<|aM ?_;refine eI h Z (λh=>?_) λh=>?_
 .refine aP<|dL 1 Z<|fP h λb k h=>aI (zBk ahk (TC U d e i b k) Z (jS [0,1] Z)) Z λp=>bQ 0 (vs:=[vI (b.1),vB (b.2.1),vB (b.2.2.1),vI (b.2.2.2.1),vI (b.2.2.2.2)]) Z Z Z Z Z Z<|aM<|aT<|bW<|aJ ?_;cases h;exact fD () Z Z (RV.cell 0 Z Z Z Z) .nil aF.nil
 refine aP<|bZ Z<|aC Z<|aM ?_;refine eI h Z (λh=>?_) λh=>?_
 .refine aP<|dL 1 Z ?_;cases h
 refine aP<|bZ Z<|aC Z<|aM ?_;refine eI h Z (λh=>?_) λh=>?_
 .refine aP<|dL 1 Z ?_;cases h
 refine aP<|bZ Z<|aC Z<|aM ?_;refine eI h Z (λh=>?_) λh=>?_
 .refine aP<|dL 1 Z<|fP h λa g h=>aI (zBk ahl (Nj U d e i a g) Z (jS [0,1] Z)) Z λm=>bQ 0 (vs:=[vI (a.1),vB (a.2.1),vB (a.2.2.1),vI (a.2.2.2.1),vI (a.2.2.2.2)]) Z Z Z Z Z Z<|aM<|aT<|bW<|aJ ?_;cases h;exact fD () Z Z (RV.cell 0 Z Z Z Z) .nil aF.nil
 refine aP<|bZ Z<|aC Z<|aM ?_;refine eI h Z (λh=>?_) λh=>?_
 .refine aP<|dL 1 Z ?_;cases h
 refine aP<|bZ Z<|aC Z<|aM ?_;refine eI h Z (λh=>?_) λh=>?_
 .refine aP<|dL 1 Z ?_;cases h
 refine aP<|bZ Z<|aC Z<|aM ?_;refine eI h Z (λh=>?_) λh=>?_
 .refine aP<|dL 1 Z ?_;cases h
 refine aP<|bZ Z<|aC Z<|aM ?_;refine eI h Z (λh=>?_) λh=>?_
 .refine aP<|dL 1 Z ?_;cases h
 refine aP<|bZ Z<|aC Z<|aM ?_;refine eI h Z (λh=>?_) λh=>?_
 .refine aP<|dL 1 Z ?_;cases h
 refine aP<|bZ Z<|aC Z<|aM ?_;refine eI h Z (λh=>?_) λh=>?_
 .refine aP<|dL 1 Z ?_;cases h
 refine aP<|bZ Z<|aC Z<|aM ?_;refine eI h Z (λh=>?_) λh=>?_
 .refine aP<|dL 1 Z ?_;cases h
 refine aP<|bZ Z<|aC Z<|aM ?_;refine eI h Z (λh=>?_) λh=>?_
 .refine aP<|dL 1 Z ?_;cases h
 refine aP<|bZ Z<|aC Z<|aM ?_;refine eI h Z (λh=>?_) λh=>?_
 .refine aP<|dL 1 Z ?_;cases h
 refine aP<|bZ Z<|aC Z<|aM ?_;refine eI h Z (λh=>?_) λh=>?_
 .refine aP<|dL 1 Z ?_;cases h
 refine eP<|m_<|aP<|dL 1 Z ?_;cases h
end Go.Proofs.YtgciopekomcbfaaGreatDoor