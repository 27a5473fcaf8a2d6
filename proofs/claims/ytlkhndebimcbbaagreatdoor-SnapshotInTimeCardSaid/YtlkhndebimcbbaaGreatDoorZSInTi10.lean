/- Models and proofs. Conditions: none. -/
import Derived.Test.YtlkhndebimcbbaaGreatDoorZSInTi9
import Derived.Test.YtlkhndebimcbbaaGreatDoorZSInTi7
import Derived.Test.YtlkhndebimcbbaaGreatDoorZSInTi2
import Derived.Test.YtlkhndebimcbbaaGreatDoorZSInTi3
import Derived.Test.YtlkhndebimcbbaaGreatDoorZSInTi8
import Derived.Test.YtlkhndebimcbbaaGreatDoorZSInTi1
import Derived.OpenShut
import Derived.LaidLaws
import Derived.LaidHandle
import Derived.Lay
import Derived.MakeChecks
set_option linter.unusedVariables false
set_option linter.unusedSimpArgs false
set_option maxHeartbeats 4000000
set_option maxRecDepth 20000
namespace Go.Proofs.YtlkhndebimcbbaaGreatDoor
open Go Go.Sx
theorem AH {p:sQ} {g:GR} {R:List RL} {c:bF} {v:Nat}:(qG (aT p g) R (eX g) c).testBit v=true↔v<g.2.length∧0<=dQ (aT p g) R c v:=by
 rw[Nb];refine⟨λh=>⟨h.1,h.2.1⟩,λh=>⟨h.1,h.2,?_⟩⟩
 unfold eX;rw[ZZ,decide_eq_true h.1]
theorem abQ {p:sQ} {g:GR} {d:aQ} {E:Nat} {j H:Nat->Nat} {S:Nat->Int} (o:VG g) (n:oU g 0 d) (m:∀v,v<g.2.length->0<=D d v) (s:TP g d j H) (K:tK g fS) (F:∀v,v<g.2.length->D d v<=(E:Int)):
  Stg (BV E) (6*E+4) (UE g d E j (λv=>(D d v).toNat) S) (TsN g d E j (λv=>(D d v).toNat)) (λc=>qG (aT p g) RN (eX g) c)
   (λc t C=>(∀i,t.testBit i=true->(qG (aT p g) RN (eX g) c).testBit i=true)∧C=iD (aT p g) fS RN c t):=by
 have l:RT g.2.length E j (λv=>(D d v).toNat):=YI o n m s F;refine⟨λi c h=>aeA h,λi c h J r=>abz l F h J r,λi c v h f=> ?_,λi c t C h L=> ?_⟩
 ·refine AH.2 ?_;obtain⟨M,_,h⟩:=h;have z:Ge g d c->v<g.2.length->0<=dQ (aT p g) RX c v->0<=dQ (aT p g) RN c v:=λI f q=>by
   rw[show RN=RB++RX from rfl,IY (NQ o n m I f),if_pos q];omega
  match i,h,f with
  | .tree k,⟨_,h⟩,f=>
   obtain⟨a,b⟩:=Kl (p:=p) (R':=RX) (Um o n m h f);exact⟨f.1,by rw[show RN=RB++RX from rfl,a];exact b⟩
  | .good k,⟨_,h1,_⟩,⟨f,hv0,_,r⟩=>exact⟨f,z h1 f ((enN o n m s h1 f).1.2 (.inr (.inl (Sa hv0 r))))⟩
  | .lev cl k,⟨_,h1,_,_,h4,_⟩,⟨f,hd,r⟩=>
   refine⟨f,z h1 f ((enN o n m s h1 f).1.2 (.inr (.inl ?_)))⟩
   have e:v≠0:=λe=>r (by rw[e]);obtain⟨a,x⟩:=l.up v f e;have A:(D d v).toNat<=k+1:=hd;have G:(D d v).toNat=(D d (j v)).toNat+1:=x;exact⟨e,.inl λq=>r (by rw[<-q];exact h4 _ a (show(D d (j v)).toNat<=k by omega))⟩
  | .low cl k,⟨_,h1,_,_,h4,h5,_⟩,⟨f,hd,r⟩=>
   refine⟨f,z h1 f ((enN o n m s h1 f).1.2 (.inr (.inr ⟨r,λw y B e=> ?_⟩)))⟩
   obtain⟨_,x⟩:=l.up w y B;rw[e]at x;have A:E<(D d v).toNat+(k+1):=hd;have G:(D d w).toNat=(D d v).toNat+1:=x;exact⟨h5 w y (show E<(D d w).toNat+k by omega),by rw[h4 w y (l.le w y),h4 v f (l.le v f)]⟩
  | .rest,⟨h1,h2⟩,f=>
   obtain rfl:v=0:=f;exact⟨l.n1,z h1 l.n1 ((enN o n m s h1 l.n1).1.2 (.inl ⟨rfl,(h2 0 l.n1).1⟩))⟩
 ·obtain⟨u,rfl⟩:=L;exact Yz o n m l (Sq o n m s K h.1 λv f=>AH.1 (u v f)) h
structure Lm (g:GR) (d:aQ) (E:Nat) (par:Nat->Nat) (S:Nat->Int) (c0:bF) (k:Nat) (c:bF) (cnt:CT):Prop where
 r:Du g c fS
 x:∀v,v<g.2.length->xC c v=xC c0 v
 s:∃R B pe,Da k cnt R B pe∧AB (BV E) (6*E+4) (UE g d E par (λv=>(D d v).toNat) S) (TsN g d E par (λv=>(D d v).toNat)) R pe c
def Dw (g:GR) (d:aQ) (a:Nat->Nat) (S:Nat->Int) (c:bF):Prop:=Ge g d c∧AG g.2.length a (sC c) (bC c)∧∀v,v<g.2.length->aC c v=S v
section
variable {p:sQ} {g:GR} {c c0:List (List Int)} {d:List Int} {E:Nat} {S:Nat->Int} (hV:VG g) (hD:oU g 0 d) (h0:∀v,v<g.2.length->0<=D d v) {par fp:Nat->Nat} (hP:TP g d par fp) (hp:tK g fS) (hE:∀v,v<g.2.length->D d v<=(E:Int))
 include hV hD h0 hP hp hE
theorem Pj (e:Du g c0 fS) (h:DF g par (xC c0) S):Lm g d E par S c0 0 c0 (0,0,0,0,dR .u32 ((qG (aT p g) RN (eX g) c0:Nat):Int) 16777215):=by
 have a:qG (aT p g) RN (eX g) c0<16777216:=QE.lt hV (JK (aT p g) RN (eX g) c0);have f:dR .u32 ((qG (aT p g) RN (eX g) c0:Nat):Int) 16777215=((qG (aT p g) RN (eX g) c0:Nat):Int):=by
  rw[show(16777215:Int)=((16777215:Nat):Int)from rfl,DK (by omega) (by omega),show(16777215:Nat)=2^24 - 1 from rfl,Nat.and_two_pow_sub_one_eq_mod,Nat.mod_eq_of_lt (by omega)]
 have b:UE g d E par (λv=>(D d v).toNat) S (.tree 0) c0:=⟨e,h,Nat.zero_le _,HP h0 λv i=>(Hr (W:=KQ) e i).1.1⟩
 exact⟨e,λv _=>rfl,0,0,qG (aT p g) RN (eX g) c0,⟨rfl,⟨by dsimp only;omega,by dsimp only;omega⟩,rfl,rfl,f,by omega,a⟩,AB.start (abQ (p:=p) hV hD h0 hP hp hE) b⟩
theorem RO {k t:Nat} {j f:CT} {o:Int} (C:k<900) (h:Lm g d E par S c0 k c j) (r:t≠0) (e:∀i,t.testBit i=true->(qG (aT p g) RN (eX g) c).testBit i=true) (l:fZ 1000 j (t:Int) ((qG (aT p g) RN (eX g) (iD (aT p g) fS RN c t):Nat):Int)=some (f,o)):Lm g d E par S c0 (k+1) (iD (aT p g) fS RN c t) f:=by
 obtain⟨u,G,R,B,H,m,z⟩:=h;have F:t<16777216:=QE.lt hV (λi A=>(AH.1 (e i A)).1);have q:qG (aT p g) RN (eX g) (iD (aT p g) fS RN c t)<16777216:=QE.lt hV (JK (aT p g) RN (eX g) _);obtain⟨y,w,s,a,b,_⟩:=Jq (abQ (p:=p) hV hD h0 hP hp hE) z ⟨e,rfl⟩ m C F r q l;exact⟨Mg (S:=aT p g) hp u,λv n=>((Sq hV hD h0 hP hp u λv n=>AH.1 (e v n)).x v n).trans (G v n),y,w,s,a,b⟩
theorem Nm {R B h k:Nat} {e:CT} (f:Da k e R B h) (j:AB (BV E) (6*E+4) (UE g d E par (λv=>(D d v).toNat) S) (TsN g d E par (λv=>(D d v).toNat)) R h c) (l:6*E+4<=R):Dw g d par S c:=by
 obtain⟨i,b,a⟩:=AB.done (abQ (p:=(ByteArray.mk #[],[],[])) hV hD h0 hP hp hE) j l;obtain⟨_,_,b⟩:=b
 match i,b,a with
 | .tree k,⟨q,_⟩,a=>simp only[BV]at a;omega
 | .good k,⟨q,_⟩,a=>simp only[BV]at a;omega
 | .lev false k,⟨q,_⟩,a=>simp only[BV]at a;omega
 | .lev true k,⟨q,_⟩,a=>simp only[BV]at a;omega
 | .low false k,⟨q,_⟩,a=>simp only[BV]at a;omega
 | .low true k,⟨q,_⟩,a=>simp only[BV]at a;omega
 | .rest,_,a=>simp only[BV]at a;omega
 | .done,b,_=>exact b
theorem Rt {t:Nat} (k:Du g c fS) (f:DF g par (xC c) S) (h:Dw g d par S c) (e:∀i,t.testBit i=true->(qG (aT p g) RN (eX g) c).testBit i=true):Dw g d par S (iD (aT p g) fS RN c t):=by
 have j:RT g.2.length E par (λv=>(D d v).toNat):=YI hV hD h0 hP hE;obtain⟨a,b⟩:=(Sq (t:=t) hV hD h0 hP hp k λv l=>AH.1 (e v l)).ws h.1 S f;exact⟨a,Bf j b.ws h.2.1,b.right h.2.2⟩
end
theorem Mt {g:GR} (h:VG g):tK g fS:=by
 have f:=h.n24;have e:∀x,x<fS.length->DG (at' fS (x:Int)):=λx c=>by
  have c:x<6:=c
  match x,c with
  |0,_=>exact⟨by decide,by decide,by decide⟩
  |1,_=>exact⟨by decide,by decide,by decide⟩
  |2,_=>exact⟨by decide,by decide,by decide⟩
  |3,_=>exact⟨by decide,by decide,by decide⟩
  |4,_=>exact⟨by decide,by decide,by decide⟩
  |5,_=>exact⟨by decide,by decide,by decide⟩
 refine⟨by decide,e,λx c=> ?_,λx c d=> ?_⟩
 ·have c:x<6:=c
  match x,c with
  |0,_=>exact .inl Z
  |1,_=>exact .inr (.inr Z)
  |2,_=>exact .inr (.inl Z)
  |3,_=>exact .inr (.inl Z)
  |4,_=>exact .inl Z
  |5,_=>exact .inl Z
 ·have c:x<6:=c
  match x,c,d with
  |0,_,_=>
   have a:lo g (at' fS ((0:Nat):Int)) 0=0:=Ye g 0;have b:hi g (at' fS ((0:Nat):Int)) 0=(g.2.length:Int):=XT g 0;rw[a,b];omega
  |1,_,d=>exact absurd d (by decide)
  |2,_,d=>exact absurd d (by decide)
  |3,_,d=>exact absurd d (by decide)
  | 4, _, _ =>
   have b:hi g (at' fS ((4:Nat):Int)) 0=15:=by
    show(15:Int)+0*(g.2.length:Int)+0*jX g g.1.length=15;omega
   have a:lo g (at' fS ((4:Nat):Int)) 0=0:=rfl;rw[a,b];omega
  | 5, _, _ =>
   have b:hi g (at' fS ((5:Nat):Int)) 0=15*(g.2.length:Int):=by
    show(0:Int)+15*(g.2.length:Int)+0*jX g g.1.length=_;omega
   have a:lo g (at' fS ((5:Nat):Int)) 0=0:=rfl;rw[a,b];omega
def sH (n:Nat):aQ:=[(n:Int),-1,1,1,15,wI .i64 (15*(n:Int))]
theorem cfN {g:GR} {c:bF} (k:0<g.2.length∧g.2.length<=24) (a:Du g c fS):Jf g (sH g.2.length) c:=by
 refine⟨a.len,λv b=>⟨a.row v b,λx d=> ?_⟩⟩
 obtain⟨⟨f,h⟩,i,j⟩:=Hr (W:=KQ) a b;obtain⟨l,m,n,o⟩:=Sk a b;have d:x<6:=d;unfold Vj
 match x,d with
 |0,_=>
  have e:at' (sH g.2.length) ((0:Nat):Int)=(g.2.length:Int):=rfl;rw[e,if_neg (by omega)];exact⟨f,h⟩
 |1,_=>
  have e:at' (sH g.2.length) ((1:Nat):Int) = -1:=rfl;rw[e,if_pos Z];exact⟨i,j⟩
 |2,_=>
  have e:at' (sH g.2.length) ((2:Nat):Int)=1:=rfl;rw[e,if_neg (by omega)];show 0<=oL c v 2∧oL c v 2<=1;omega
 |3,_=>
  have e:at' (sH g.2.length) ((3:Nat):Int)=1:=rfl;rw[e,if_neg (by omega)];show 0<=oL c v 3∧oL c v 3<=1;omega
 |4,_=>
  have e:at' (sH g.2.length) ((4:Nat):Int)=15:=rfl;rw[e,if_neg (by omega)];show 0<=oL c v 4∧oL c v 4<=15;omega
 |5,_=>
  have e:at' (sH g.2.length) ((5:Nat):Int)=15*(g.2.length:Int):=wr (by omega) (by omega);rw[e,if_neg (by omega)];show 0<=oL c v 5∧oL c v 5<=_;omega
section
variable {g:GR} (hV:VG g) (hc:Hg g) {d:List Int} (hD:oU g 0 d)
 include hV hc hD
theorem ahE:∀v,v<g.2.length->0<=D d v:=λv a=>(Gk hV (s:=0) (by have:=hV.n1;omega) hD).2 hc v (by rw[hD.len];exact a)
theorem SH {c:List (List Int)} (j:Jf g (sH g.2.length) c):
  ((Ge g d c∧∀v,v<g.2.length->ZO (BK g c) c v)->qM 1000 g (c.map λl=>l.take 4)=some true)∧
  (¬(Ge g d c∧∀v,v<g.2.length->ZO (BK g c) c v)->qM 1000 g (c.map λl=>l.take 4)=some false):=by
 have D:=hV.n24;have h1:=hV.n1;have hl:=j.1;have hr:∀v,v<g.2.length->(at' c (v:Int)).length=6:=λv a=>(j.2 v a).1;let b:=c.map λl=>l.take 4;have y:b.length=g.2.length:=by show(c.map _).length=_;simp[hl]
 have o:∀v,v<g.2.length->at' b (v:Int)=(at' c (v:Int)).take 4:=λv a=>DJ (by omega);have f:∀v,v<g.2.length->∀i:Nat,i<4->at' (at' b (v:Int)) (i:Int)=at' (at' c (v:Int)) (i:Int):=λv a i W=>by rw[o v a,Gg W]
 have s:∀v,v<g.2.length->(at' b (v:Int)).length=4:=λv a=>by rw[o v a,List.length_take,hr v a];rfl
 have p:Jf g [(g.2.length:Int),-1,1,1] b:=j.cut (m:=4) (by simp[sH]);have x:Jf g [(g.2.length:Int),-1] (b.map λl=>l.take 2):=p.cut (m:=2) (by simp);have G:∀v,v<g.2.length->at' (at' c (v:Int)) 2=0∨at' (at' c (v:Int)) 2=1:=λv a=>by
  have:=(j.2 v a).2 2 (by simp[sH]);unfold Vj at this;rw[if_neg (by show¬(1:Int) = -1;omega)]at this;have e:at' (sH g.2.length) ((2:Nat):Int)=1:=rfl;rw[e]at this;have C:at' (at' c (v:Int)) ((2:Nat):Int)=at' (at' c (v:Int)) 2:=rfl;rw[C]at this;omega
 have A:∀v,v<g.2.length -> -1<=at' (at' c (v:Int)) 1∧at' (at' c (v:Int)) 1<((at' g.2 (v:Int)).length:Int):=λv a=>by
  have:=(j.2 v a).2 1 (by simp[sH]);unfold Vj at this;rw[if_pos (by rfl)]at this;have C:at' (at' c (v:Int)) ((1:Nat):Int)=at' (at' c (v:Int)) 1:=rfl;rw[C]at this;have V:(row g v).length=(at' g.2 (v:Int)).length:=rfl;omega
 have I:∀v,v<g.2.length->at' (at' b (v:Int)) 1=at' (at' c (v:Int)) 1:=λv a=>f v a 1 (by omega);have n:∀v,v<g.2.length->BK g b v=BK g c v:=λv a=>by unfold BK;rw[I v a]
 have z:SV g b:=⟨y,λv a=>⟨by have:=s v a;omega,by rw[I v a];exact A v a⟩⟩
 have q:∀v,v<g.2.length->(Fv g d v (at' (b.map λl=>l.take 2) (v:Int))↔Fv g d v (at' c (v:Int))):=λv a=>by
  rw[DJ (by omega)];unfold Fv;have t0:at' ((at' b (v:Int)).take 2) 0=at' (at' c (v:Int)) 0:=(Gg (i:=0) (by omega)).trans (f v a 0 (by omega));have H:at' ((at' b (v:Int)).take 2) 1=at' (at' c (v:Int)) 1:=(Gg (i:=1) (by omega)).trans (f v a 1 (by omega));rw[t0,H]
 obtain⟨H,t2⟩:=OJ hV hD Z hc (c:=b.map λl=>l.take 2) x;have Q:eT 1000 (g.1,g.2)=some true:=(Al hV).1 hc;have R:qM 1000 g b=Option.bind (vV 1000 g (b.map λl=>l.take 2)) λr=>oP 1000 g b (!r):=by
  unfold qM sK FG kR;have P:dN 1000 (g.1,g.2) b [(g.1.length:Int),-1,1,1]=some true:=by rw[hV.len];exact(Fx hV (by simp) b).1 p
  rw[Q,bH Z,bH Z,if_pos Z,P,bH Z,bH Z,if_neg (by simp),cA (by omega)];have B:=eY (step:=uI 1000 g b) (K:=yZ 1000 g b (Fy 2 b b.length)) b.length (λk=>((k:Int),Fy 2 b k)) (λk O X=> ?_) (λO=> ?_) 1000 (by omega)
  ·rw[show(((0:Nat):Int),Fy 2 b 0)=((0:Int),List.replicate (Int.toNat (b.length:Int)) ([]:List Int)) by simp[Fy]]at B;rw[B,OT];rfl
  ·have Y:=s k (by omega);unfold uI;dsimp only;rw[if_pos (by omega),cA (by omega),cA (by omega),cA (by rw[OU (by omega)];omega),zL (by omega)];have:=Lz (m:=2) X;rw[show Int.toNat (k:Int)=k from rfl,show Int.toNat (2:Int)=2 from rfl,this]
  ·unfold uI;dsimp only;rw[if_neg (by omega)]
 rw[R];by_cases w:Ge g d c
 ·have E:ZK g d (BK g c):=Ig hV hc hD w;have F:ZK g d (BK g b):=⟨by rw[n 0 (by omega)];exact E.root,λv a t=>by rw[n v a];exact E.up v a t⟩
  obtain⟨M,N⟩:=VK hV y (λv a=>by have:=s v a;omega) (λv a=>by
   have e:at' (at' b (v:Int)) 2=at' (at' c (v:Int)) 2:=f v a 2 (by omega);rw[e];exact G v a) F
  have J:∀v,v<g.2.length->(ZO (BK g b) b v↔ZO (BK g c) c v):=λv a=>by
   unfold ZO;by_cases t:v=0
   ·exact⟨λ_=> .inl t,λ_=> .inl t⟩
   ·obtain⟨u,L,e,_⟩:=E.up v a t;rw[n v a,e];have q2:at' (at' b (u:Int)) 2=at' (at' c (u:Int)) 2:=f u L 2 (by omega);have q3:at' (at' b (u:Int)) 3=at' (at' c (u:Int)) 3:=f u L 3 (by omega);have r2:at' (at' b (v:Int)) 2=at' (at' c (v:Int)) 2:=f v a 2 (by omega);have r3:at' (at' b (v:Int)) 3=at' (at' c (v:Int)) 3:=f v a 3 (by omega);rw[q2,q3,r2,r3]
  have S:oP 1000 g b (!true)=bJ (iA b (wE g b b.length)) 1000 0:=by
   have T:oM 1000 (g.1,g.2) b 1=some (wE g b b.length):=KM D z;unfold oP;rw[if_neg (by simp),T];rfl
  rw[H λv a=>(q v a).2 (w v a),bH Z,S];exact⟨λh=>M λv a=>(J v a).2 (h.2 v a),λh=>N λU=>h ⟨w,λv a=>(J v a).1 (U v a)⟩⟩
 ·rw[t2 λh=>w λv a=>(q v a).1 (h v a),bH Z];refine⟨λh=>absurd h.1 w,λ_=> ?_⟩
  unfold oP;rw[if_pos (by simp)]
variable {par fp:Nat->Nat} (hP:TP g d par fp)
 include hP
 omit hc in
theorem abA (h:∀v,v<g.2.length->0<=D d v) {c:List (List Int)} (b:Ge g d c):BK g c 0 = -1∧∀v,v<g.2.length->v≠0->BK g c v=(par v:Int):=by
  refine⟨if_neg ?_,λv f a=> ?_⟩
  ·have:=PI hV hD h b;show¬0<=GC c 0;omega
  ·have e:at' (at' c (v:Int)) 1=(fp v:Int):=HG hP b f a;unfold BK;rw[if_pos (by omega),e];exact(hP.at_ v f a).2.2.1
noncomputable def Ca (g:GR) (par:Nat->Nat) (c:List (List Int)) (v:Nat):Int:=yJ (λv=>if v=0 then -1 else(par v:Int)) g.2.length c v g.2.length
 omit hc hV hD in
theorem abx (f:∀v,v<g.2.length->0<=D d v):ZK g d (λv=>if v=0 then -1 else(par v:Int)):=by
  refine⟨rfl,λv e c=> ?_⟩
  obtain⟨_,_,_,a,b⟩:=hP.at_ v e c;exact⟨par v,a,by rw[if_neg c],b⟩
 omit hc in
theorem Uj (e:∀v,v<g.2.length->0<=D d v) {c:List (List Int)} (a:Du g c fS):DF g par (xC c) (Ca g par c):=
  YV (W:=KQ) hV hD e hP (abx hP e) (λv f b=>by rw[if_neg b]) λv f=>(Sk a f).2.2.1
theorem abM {c:List (List Int)} (o:Du g c fS):∃b,fG 1000 g c=some b∧(b=true↔Dw g d par (Ca g par c) c):=by
 have C:=hV.n24;have h1:=hV.n1;have I:=ahE hV hc hD;have n:Jf g (sH g.2.length) c:=cfN ⟨by omega,C⟩ o;have F:=n.1;have z:∀v,v<g.2.length->(at' c (v:Int)).length=6:=λv i=>(n.2 v i).1;have U:eT 1000 (g.1,g.2)=some true:=(Al hV).1 hc;have S:iW 1000 g c=some true:=by
  have q1:=Fx hV (hs:=sH g.2.length) (by simp[sH]) c;unfold iW AM iJ;rw[U,bH Z,bH Z,if_pos Z];have:dN 1000 (g.1,g.2) c [(g.1.length:Int),-1,1,1,15,wI .i64 (15*(g.1.length:Int))]=dN 1000 g c (sH g.2.length):=by rw[hV.len];rfl
  rw[this,q1.1 n];rfl
 have V:fG 1000 g c=Option.bind (qM 1000 g (c.map λl=>l.take 4)) λr=>oF 1000 g c (!r):=by
  unfold fG;rw[show iW 1000 (g.1,g.2) c=some true from S,bH Z,if_neg (by simp),cA (by omega)];have x:=eY (step:=oG 1000 g c) (K:=rR 1000 g c (Fy 4 c c.length)) c.length (λk=>((k:Int),Fy 4 c k)) (λk Q E=> ?_) (λQ=> ?_) 1000 (by omega)
  ·rw[show(((0:Nat):Int),Fy 4 c 0)=((0:Int),List.replicate (Int.toNat (c.length:Int)) ([]:List Int)) by simp[Fy]]at x;rw[x,OT];rfl
  ·have Y:=z k (by omega);unfold oG;dsimp only;rw[if_pos (by omega),cA (by omega),cA (by omega),cA (by rw[OU (by omega)];omega),zL (by omega)];have:=Lz (m:=4) E;rw[show Int.toNat (k:Int)=k from rfl,show Int.toNat (4:Int)=4 from rfl,this]
  ·unfold oG;dsimp only;rw[if_neg (by omega)]
 rw[V];obtain⟨w1,N⟩:=SH hV hc hD n;by_cases p:Ge g d c
 rotate_left
 ·rw[N λh=>p h.1,bH Z];exact⟨false,rfl,⟨λh=>(by cases h),λh=>absurd h.1 p⟩⟩
 obtain⟨p0,H⟩:=abA hV hD hP I p;have L:(∀v,v<g.2.length->ZO (BK g c) c v)↔AG g.2.length par (sC c) (bC c):=by
  constructor
  ·intro h v i j;have:=(h v i).resolve_left j;rw[H v i j]at this;by_cases q:sC c (par v)=0
   ·exact .inr (this q)
   ·exact .inl q
  ·intro h v i;by_cases j:v=0
   ·exact .inl j
   ·right;rw[H v i j];intro q;exact(h v i j).resolve_left λr=>r q
 by_cases y:AG g.2.length par (sC c) (bC c)
 rotate_left
 ·rw[N λh=>y (L.1 h.2),bH Z];exact⟨false,rfl,⟨λh=>(by cases h),λh=>absurd h.2.1 y⟩⟩
 have D:ZK g d (BK g c):=Ig hV hc hD p;have hx:∀v,v<g.2.length->0<=Je c v∧Je c v<=15:=λv i=>(Sk o i).2.2.1;have G:SV g c:=⟨F,λv i=>⟨by have:=z v i;omega,by
  obtain⟨_,a,b⟩:=Hr (W:=KQ) o i;have X:(row g v).length=(at' g.2 (v:Int)).length:=rfl;exact⟨a,by have:GC c v=at' (at' c (v:Int)) 1:=rfl;omega⟩⟩⟩
 obtain⟨R,r1,r2,r3⟩:=abS hV hD F z hx D I G;obtain⟨O,P⟩:=YW hV F z r2 r3;have J:(∀v,v<g.2.length->SAt g c v)↔∀v,v<g.2.length->aC c v=Ca g par c v:=by
  have s:∀v,v<g.2.length->yJ (BK g c) g.2.length c v g.2.length=Ca g par c v:=λv i=>by
   have e:∀(f:Nat) (w:Int) (u:Nat),(w = -1∨∃q:Nat,q<g.2.length∧w=q)->onP (BK g c) f w u=onP (λv=>if v=0 then -1 else(par v:Int)) f w u:=by
    intro f
    induction f with
    |zero=>intro w u _;rfl
    | succ f A =>
     intro w u hw;simp only[onP];rcases hw with rfl|⟨q,M,rfl⟩
     ·rfl
     ·rw[show Int.toNat (q:Int)=q from rfl];by_cases B:q=0
      ·subst B;rw[p0,A (-1) u (.inl Z)];rfl
      ·obtain⟨_,_,_,a,_⟩:=hP.at_ q M B;rw[H q M B,A _ u (.inr ⟨par q,a,rfl⟩),if_neg B]
   have T:∀k,k<=g.2.length->yJ (BK g c) g.2.length c v k=yJ (λv=>if v=0 then -1 else(par v:Int)) g.2.length c v k:=by
    intro k
    induction k with
    |zero=>intro _;rfl
    |succ k A=>
     intro E;simp only[yJ];rw[A (by omega),e _ _ _ (.inr ⟨k,E,rfl⟩)]
   exact T _ (Nat.le_refl _)
  exact⟨λh v i=>by rw[<-s v i];exact h v i,λh v i=>by
   show at' (at' c (v:Int)) 5=_;rw[s v i];exact h v i⟩
 rw[w1 ⟨p,L.2 y⟩,bH Z];unfold oF;rw[if_neg (by simp),show qZ 1000 (g.1,g.2) c=some R from r1,bH Z];by_cases t:∀v,v<g.2.length->SAt g c v
 ·exact⟨true,O t,⟨λ_=>⟨p,y,J.1 t⟩,λ_=>rfl⟩⟩
 ·exact⟨false,P t,⟨λh=>(by cases h),λh=>absurd (J.2 h.2.2) t⟩⟩
end
theorem aaN {g:GR} (m:VM g.1 g.2) (h:∀v:Nat,1<=v->v<g.2.length->∃u:Nat,u<v∧mI g.2 u v):Hg g:=by
 have f:VG g:=m.vg;have t:=f.n1;have j:∀v,v<g.2.length->∃k,xY g 0 k v:=by
  intro v
  induction v using Nat.strongRecOn with
  | _ v ih =>
   intro c;by_cases l:v=0
   ·subst l;exact⟨0,rfl,c⟩
   ·obtain⟨u,e,x,s,p⟩:=h v (by omega) c;obtain⟨k,r⟩:=ih u e (by omega);obtain⟨i,q,d⟩:=Ez s;refine⟨k+1,u,r,i,q,?_⟩
    show(at' (at' g.2 (u:Int)) (i:Int)).1=_;rw[d,p]
 intro u v e c;obtain⟨a,n⟩:=j u e;obtain⟨b,o⟩:=j v c;exact⟨a+b,(Gf f n).trans o⟩
structure afY (g:GR) (d:aQ) (E:Nat) (par fp:Nat->Nat):Prop where
 v:VG g
 c:Hg g
 dist:oU g 0 d
 d0:∀v,v<g.2.length->0<=D d v
 p:TP g d par fp
 e:∀v,v<g.2.length->D d v<=(E:Int)
 en:E<g.2.length
 ecc:oD 1000 g 0=some (E:Int)
structure acJ (g:GR) (d:aQ) (E:Nat) (par fp:Nat->Nat):Prop extends afY g d E par fp where
 refEcc:gZ 1000 g 0=some (E:Int)
theorem ajO (x:Oi) (a:Nat) (n:1<=a) (k:a<=24):∃g d E e j,fF 1000 x (a:Int)=some g∧g.2.length<=a∧afY g d E e j:=by
 obtain⟨g,t,i,w,q⟩:=MY x a n k;have h:VG g:=i.vg;have y:=h.n1;have l:=aaN i q;obtain⟨r,z,o⟩:=zN h l (s:=0) (by omega);obtain⟨d,_,f,m,v,c,A⟩:=o;have b:∀v,v<g.2.length->0<=D d v:=λv c=>(Gk h (s:=0) (by omega) f).2 l v (by rw[f.len];exact c);obtain⟨e,j,p⟩:=ahi h f b;have B:=b v c;have C:=f.hi v c;have u:r<(g.2.length:Int):=by
  have F:=f.lt c;omega
 refine⟨g,d,r.toNat,e,j,t,w,⟨h,l,f,b,p,λv c=> ?_,by omega,?_⟩⟩
 ·have:=m v c;omega
 ·rw[Int.toNat_of_nonneg (by omega)];exact z
theorem ajP (x:Oi) (a:Nat) (l:1<=a) (h:a<=24):∃g d E b f,fF 1000 x (a:Int)=some g∧g.2.length<=a∧acJ g d E b f:=by
 obtain⟨g,d,E,b,f,n,o,N⟩:=ajO x a l h;have p:=N.v.n1;obtain⟨r,q,m⟩:=zN N.v N.c (s:=0) (by omega);obtain⟨t,j,i,_⟩:=L_ N.v (s:=0) (by omega);have e:=Jg m (i N.c);have k:=Option.some.inj (q.symm.trans N.ecc);exact⟨g,d,E,b,f,n,o,N,by rw[<-k,e];exact j⟩
theorem agz:Fz RN=CJ:=rfl
theorem YL:yH fS.length RN=true:=abK
theorem aho:∀x,x<fS.length->DG (at' fS (x:Int)) ∧ -100000<=(at' fS (x:Int)).2.2.1∧(at' fS (x:Int)).2.2.1<=(at' fS (x:Int)).2.2.2.1:=by
 intro x a;have a:x<6:=a
 match x,a with
 |0,_=>exact⟨⟨by decide,by decide,by decide⟩,by decide,by decide⟩
 |1,_=>exact⟨⟨by decide,by decide,by decide⟩,by decide,by decide⟩
 |2,_=>exact⟨⟨by decide,by decide,by decide⟩,by decide,by decide⟩
 |3,_=>exact⟨⟨by decide,by decide,by decide⟩,by decide,by decide⟩
 |4,_=>exact⟨⟨by decide,by decide,by decide⟩,by decide,by decide⟩
 |5,_=>exact⟨⟨by decide,by decide,by decide⟩,by decide,by decide⟩
theorem Rn {p:sQ} {g:GR} (d:VG g) (R:List RL) (c:bF):Da 0 (0,0,0,0,dR .u32 ((qG (aT p g) R (eX g) c:Nat):Int) 16777215) 0 0 (qG (aT p g) R (eX g) c):=by
 have a:qG (aT p g) R (eX g) c<16777216:=QE.lt d (JK (aT p g) R (eX g) c);have b:dR .u32 ((qG (aT p g) R (eX g) c:Nat):Int) 16777215=((qG (aT p g) R (eX g) c:Nat):Int):=by
  rw[show(16777215:Int)=((16777215:Nat):Int)from rfl,DK (by omega) (by omega),show(16777215:Nat)=2^24 - 1 from rfl,Nat.and_two_pow_sub_one_eq_mod,Nat.mod_eq_of_lt (by omega)]
 exact⟨rfl,⟨by dsimp only;omega,by dsimp only;omega⟩,rfl,rfl,b,by omega,a⟩
theorem acj {n E:Nat} {d:Nat->Nat} {q:Nat->Prop} (g:∀v,v<n->d v<=E):∀(k v:Nat),E<=d v+k->v<n->q v->∃w,w<n∧q w∧∀u,u<n->q u->d u<=d w
 |0,v,h,hv,hq=>⟨v,hv,hq,λu f _=>by have:=g u f;omega⟩
 | k + 1, v, h, hv, hq => by
  by_cases e:∃u,u<n∧q u∧d v<d u
  ·obtain⟨u,a,b,c⟩:=e;exact acj g k u (by omega) a b
  ·exact⟨v,hv,hq,λu f h=>Nat.le_of_not_lt λc=>e ⟨u,f,h,c⟩⟩
theorem Kz {P:Nat->Int} {n u:Nat} {c a:bF}:∀{k:Nat},(∀v,v<k->Je a v=Je c v)->yJ P n a u k=yJ P n c u k
 |0,_=>rfl
 |k+1,h=>by
  simp only[yJ];rw[Kz λv b=>h v (by omega),h k (by omega)]
abbrev pN:sQ:=(ByteArray.mk #[115,110,97,112,115,104,111,116],fS,[])
section
variable {p:sQ} {g:GR} {c:List (List Int)} {d:List Int} (hV:VG g) (hD:oU g 0 d) (h0:∀v,v<g.2.length->0<=D d v) {par fp:Nat->Nat} (hP:TP g d par fp) (hc:Du g c fS)
 include hV hD h0 hP hc
theorem adU:qG (aT p g) RN (eX g) c≠0:=by
 intro C;have l:RT g.2.length g.2.length par (λv=>(D d v).toNat):=YI hV hD h0 hP λv f=>hD.hi v f;have h:∀v,v<g.2.length->¬0<=dQ (aT p g) RN c v:=λv f q=>by
  have:=AH.2 ⟨f,q⟩;rw[C,Nat.zero_testBit]at this;cases this
 have t:∀v,v<g.2.length->FI g c v:=λv f=>Classical.byContradiction λq=>by
  obtain⟨a,b⟩:=Kl (p:=p) (R':=RX) q;exact h v f (by rw[show RN=RB++RX from rfl,a];exact b)
 have y:Ge g d c:=Vu hV hD h0 (λv f=>(Hr (W:=KQ) hc f).1.1) t;have B:∀v,v<g.2.length->¬0<=dQ (aT p g) RX c v:=λv f q=>h v f (by rw[show RN=RB++RX from rfl,IY (t v f),if_pos q];omega);have i:=λv f=>λq=>B v f ((enN (p:=p) hV hD h0 hP y f).1.2 q);have F:AG g.2.length par (sC c) (bC c):=λv f n=>Classical.byContradiction λq=>i v f (.inr (.inl (Sa n q)));have A:∀v,v<g.2.length->sC c v=0:=λv f=>Decidable.byContradiction λq=>by
  obtain⟨w,o,z,j⟩:=acj (q:=λu=>sC c u≠0) l.le g.2.length v (by omega) f q;refine i w o (.inr (.inr ⟨z,λx s k e=> ?_⟩));obtain⟨_,a⟩:=l.up x s k;have m:sC c x=0:=Decidable.byContradiction λr=>by
   have:=j x s r;rw[e]at a;omega
  refine⟨m,Decidable.byContradiction λr=>i x s (.inr (.inl ⟨k,.inl λE=>r ?_⟩))⟩
  rw[<-E,e]
 exact i 0 l.n1 (.inl ⟨rfl,A 0 l.n1⟩)
end
structure ahB (g:GR) (kind:Int) (k len:Nat) (cs:List (List (List Int))) (cnts:List CT):Prop where
 l1:cs.length=k+1
 l2:cnts.length=k+1
 le:k<=len
 step:∀j,j<k->∃t,(∀i,t.testBit i=true->(qG (aT pN g) RN (eX g) (at' cs (j:Int))).testBit i=true)∧qG (aT pN g) RN (eX g) (at' cs (j:Int))≠0∧at' cs ((j+1:Nat):Int)=iD (aT pN g) fS RN (at' cs (j:Int)) t∧(kind=4->t=qG (aT pN g) RN (eX g) (at' cs (j:Int)))
section
variable {g:GR} {d:List Int} {E:Nat} {par fp:Nat->Nat} (N:acJ g d E par fp) {kind:Int} (hk1:1<=kind) (hk4:kind<=4) {c0:List (List Int)} {ws:List Int} (hws:ws.length<=900) (hw:∀k:Nat,k<ws.length->∃m:Nat,at' ws (k:Int)=(m:Int)∧m<4294967296)
 include N
theorem aen {c:List (List Int)} (f:Du g c fS):(Dw g d par (Ca g par c) c->fG 1000 g c=some true)∧(¬Dw g d par (Ca g par c) c->fG 1000 g c=some false):=by
 obtain⟨b,a,e⟩:=abM N.v N.c N.dist N.p f;refine⟨λh=>by rw[a,e.2 h],λh=> ?_⟩
 cases b with
 |true=>exact absurd (e.1 Z) h
 |false=>exact a
 omit N in
theorem Ky {c a:List (List Int)} (h:∀v,v<g.2.length->xC a v=xC c v):Ca g par a=Ca g par c:=funext λu=>Kz λv b=>h v b
 include hk1 hk4 hws hw
theorem ajT (w:Du g c0 fS):
  ∃l f,vY 1000 CK g kind c0 ws=some (l,f,true)∧ahB g kind ws.length ws.length l f∧at' l 0=c0∧(∀j,j<=ws.length->Lm g d E par (Ca g par c0) c0 j (at' l (j:Int)) (at' f (j:Int)))∧
   (∀j,j<ws.length->Dw g d par (Ca g par c0) (at' l (j:Int))->Dw g d par (Ca g par c0) (at' l ((j+1:Nat):Int)))∧
   (kind=4->∀j,j<=ws.length->(at' f (j:Int)).2.2.1=(j:Int))∧(kind=4->6*E+4<=ws.length->Dw g d par (Ca g par c0) (at' l (ws.length:Int))):=by
 have M:=abQ (p:=pN) (S:=Ca g par c0) N.v N.dist N.d0 N.p (Mt N.v) N.e;have o:=Uj N.v N.dist N.p N.d0 w;have I:=Pj (p:=pN) N.v N.dist N.d0 N.p (Mt N.v) N.e w o;have F:UE g d E par (λv=>(D d v).toNat) (Ca g par c0) (.tree 0) c0:=⟨w,o,Nat.zero_le _,HP N.d0 λv hv=>(Hr (W:=KQ) w hv).1.1⟩
 obtain⟨k,l,f,P,Q,R,T,u,J,U⟩:=YN (YE 1000) agz N.v (Mt N.v) YL hk1 hk4 w hws hw (λk c q=>Lm g d E par (Ca g par c0) c0 k c q∧(k=0->c=c0)∧
   (kind=4->∃B,Da k q k B (qG (aT pN g) RN (eX g) c)∧AB (BV E) (6*E+4) (UE g d E par (λv=>(D d v).toNat) (Ca g par c0)) (TsN g d E par (λv=>(D d v).toNat)) k (qG (aT pN g) RN (eX g) c) c))
  ⟨I,λ_=>rfl,λ_=>⟨0,Rn N.v RN c0,AB.start M F⟩⟩
  (λk c q t K V hk L aa z h hk4 n=>⟨RO (p:=pN) N.v N.dist N.d0 N.p (Mt N.v) N.e (by omega) L.1 z h n,λe=>by omega,λe=>by
   obtain⟨B,s,A⟩:=L.2.2 e;have ht:t<16777216:=QE.lt N.v (λi hi=>(AH.1 (h i hi)).1);have G:qG (aT pN g) RN (eX g) (iD (aT pN g) fS RN c t)<16777216:=QE.lt N.v (JK (aT pN g) RN (eX g) _);obtain⟨R',O,ab,a,b,c⟩:=Jq M A ⟨h,rfl⟩ s (by omega) ht z G n;obtain⟨rfl,rfl⟩:=c (hk4 e);exact⟨O,a,b⟩⟩)
 obtain rfl:k=ws.length:=U.resolve_right λe=>adU (p:=pN) N.v N.dist N.d0 N.p (u k (Nat.le_refl k)).1.r e;refine⟨l,f,P,⟨Q,R,T,J⟩,(u 0 (Nat.zero_le _)).2.1 Z,λj y=>(u j y).1,λj y Y=> ?_,λe j y=> ?_,λe hl=> ?_⟩
 ·obtain⟨t,s,_,X,_⟩:=J j y;have C:=(u j (by omega)).1;have H:DF g par (xC (at' l (j:Int))) (Ca g par c0):=by
   have:=Uj N.v N.dist N.p N.d0 C.r;rw[Ky C.x]at this;exact this
  rw[X];exact Rt (p:=pN) N.v N.dist N.d0 N.p (Mt N.v) N.e C.r H Y s
 ·obtain⟨B,s,_⟩:=(u j y).2.2 e;exact s.rounds
 ·obtain⟨B,s,A⟩:=(u ws.length (Nat.le_refl _)).2.2 e;exact Nm N.v N.dist N.d0 N.p (Mt N.v) N.e s A hl
 omit hk1 hk4 hws hw in
theorem ajL {c0 c:List (List Int)} {k:Nat} {a:CT} (b:Lm g d E par (Ca g par c0) c0 k c a):(Dw g d par (Ca g par c0) c->fG 1000 g c=some true)∧(¬Dw g d par (Ca g par c0) c->fG 1000 g c=some false):=by
  have:=aen N b.r;rw[Ky b.x]at this;exact this
end
end Go.Proofs.YtlkhndebimcbbaaGreatDoor
namespace Go.Proofs.YtlkhndebimcbbaaGreatDoor
open Go.Sx
def yQ (U:Nat) (a:ByteArray):Option ((ByteArray×Int×Int×Int×Int×Int)):=
 some ((a,(2:Int),(0:Int),(0:Int),(0:Int),(0:Int)))
theorem WQ:aX Tryz.prog 45:=Tryz.call45
theorem Fh (U:Nat) {a:ByteArray} (r:Qk) (h:yQ U a=some r):
  aY Tryz.prog 45 #[vS (a)] [] (λx:Unit=>Value.agg #[vS (r.1),vI (r.2.1),vI (r.2.2.1),vI (r.2.2.2.1),vI (r.2.2.2.2.1),vI (r.2.2.2.2.2)]) (λx l=>l) (λ_ l=>l):=by
 refine aY.of Tryz.func45 Z Tryz.ntmps45 Z λc=>?_;unfold yQ at h;refine aV<|aH (aN.alloc (cs:=vD3) Z Z) Z λb=>aM<|aV<|aA Z ?_;refine aB (Ck (r:=Value.agg #[vS (a),vI (2:Int),vI (0:Int),vI (0:Int),vI (0:Int),vI (0:Int)]) Z Z (by intro w;simp[Instr.build,Instr.fill,fC,eB,dH,fD,fE,eD,gR])) Z ?_;refine bS 0 (vs:=[vS (a),vI (2:Int),vI (0:Int),vI (0:Int),vI (0:Int),vI (0:Int)]) Z Z Z Z Z Z<|aM<|aW ?_;cases h;exact gH () Z Z (RV.cell 0 Z Z Z Z) .nil aG.nil
def Gw (U:Nat)  : Option Zd:=
 Option.bind (Gv U) λc=>(Option.bind (yQ U (ByteArray.mk #[115])) λa=>(Option.bind (yQ U (ByteArray.mk #[98])) λb=>(ck ((List.length c:Int)+(List.length ([(a.1,a.2.1,a.2.2.1,a.2.2.2.1,a.2.2.2.2.1,a.2.2.2.2.2),(b.1,b.2.1,b.2.2.1,b.2.2.2.1,b.2.2.2.2.1,b.2.2.2.2.2)]):Int)<=1099511627) (some (c++([(a.1,a.2.1,a.2.2.1,a.2.2.2.1,a.2.2.2.2.1,a.2.2.2.2.2),(b.1,b.2.1,b.2.2.1,b.2.2.2.1,b.2.2.2.2.1,b.2.2.2.2.2)]))))))
theorem ada:aX Tryz.prog 25:=Tryz.call25
theorem NJ (U:Nat)  (r:Ze) (h:Gw U  = some r):
  aY Tryz.prog 25 #[] [] (λx:Value=>x) (λx l=>Ar iK x r::l) (λ_ l=>l):=by
 refine aY.of Tryz.func25 Z Tryz.ntmps25 Z λc=>?_;refine aV<|aE Z<|aM<|aV<|fH h λg j h=>aH (aN.callQ adk (NI U  g j) Z .nil) Z λn=>fH h λa k h=>aH (aN.callQ WQ (Fh U  a k) Z .nil) Z λo=>fH h λb m h=>aH (aN.callQ WQ (Fh U  b m) Z .nil) Z λp=>aH (bY (e:=iK) ([((a.1,a.2.1,a.2.2.1,a.2.2.2.1,a.2.2.2.2.1,a.2.2.2.2.2)),((b.1,b.2.1,b.2.2.1,b.2.2.2.1,b.2.2.2.2.1,b.2.2.2.2.2))]) [(0,Value.agg #[vS (a.1),vI (a.2.1),vI (a.2.2.1),vI (a.2.2.2.1),vI (a.2.2.2.2.1),vI (a.2.2.2.2.2)]),(1,Value.agg #[vS (b.1),vI (b.2.1),vI (b.2.2.1),vI (b.2.2.2.1),vI (b.2.2.2.2.1),vI (b.2.2.2.2.2)])] Z Z Z Z (JQ (vS (a.1)) (vI (a.2.1)) (vI (a.2.2.1)) (vI (a.2.2.2.1)) (vI (a.2.2.2.2.1)) (vI (a.2.2.2.2.2)) (vS (b.1)) (vI (b.2.1)) (vI (b.2.2.1)) (vI (b.2.2.2.1)) (vI (b.2.2.2.2.1)) (vI (b.2.2.2.2.2))) Z Z Z) Z λi=>cX h λd h=>aH (eQ 1 iL Z Z Z (bD (aF.res 0 Z) iL) Z Z Z Z d Z) Z λf=>aE Z<|aM<|aW ?_;cases h;exact gH (f) Z Z (RV.tmp Z) (a_.ix [1] Z Z) aG.nil
def CC (U:Nat)  : Option Zd:=
 Option.bind (Gw U) λc=>(Option.bind (sJ U (ByteArray.mk #[120]) (15:Int) (0:Int) (0:Int)) λa=>(Option.bind (sJ U (ByteArray.mk #[97]) (0:Int) (15:Int) (0:Int)) λb=>(ck ((List.length c:Int)+(List.length ([(a.1,a.2.1,a.2.2.1,a.2.2.2.1,a.2.2.2.2.1,a.2.2.2.2.2),(b.1,b.2.1,b.2.2.1,b.2.2.2.1,b.2.2.2.2.1,b.2.2.2.2.2)]):Int)<=1099511627) (some (c++([(a.1,a.2.1,a.2.2.1,a.2.2.2.1,a.2.2.2.2.1,a.2.2.2.2.2),(b.1,b.2.1,b.2.2.1,b.2.2.2.1,b.2.2.2.2.1,b.2.2.2.2.2)]))))))
theorem agr:aX Tryz.prog 8:=Tryz.call8
theorem NK (U:Nat)  (r:Ze) (h:CC U  = some r):
  aY Tryz.prog 8 #[] [] (λx:Value=>x) (λx l=>Ar iK x r::l) (λ_ l=>l):=by
 refine aY.of Tryz.func8 Z Tryz.ntmps8 Z λc=>?_;refine aV<|aE Z<|aM<|aV<|fH h λg j h=>aH (aN.callQ ada (NJ U  g j) Z .nil) Z λn=>fH h λa k h=>aH (aN.callQ Rh (AV U  a k) Z .nil) Z λo=>fH h λb m h=>aH (aN.callQ Rh (AV U  b m) Z .nil) Z λp=>aH (bY (e:=iK) ([((a.1,a.2.1,a.2.2.1,a.2.2.2.1,a.2.2.2.2.1,a.2.2.2.2.2)),((b.1,b.2.1,b.2.2.1,b.2.2.2.1,b.2.2.2.2.1,b.2.2.2.2.2))]) [(0,Value.agg #[vS (a.1),vI (a.2.1),vI (a.2.2.1),vI (a.2.2.2.1),vI (a.2.2.2.2.1),vI (a.2.2.2.2.2)]),(1,Value.agg #[vS (b.1),vI (b.2.1),vI (b.2.2.1),vI (b.2.2.2.1),vI (b.2.2.2.2.1),vI (b.2.2.2.2.2)])] Z Z Z Z (JQ (vS (a.1)) (vI (a.2.1)) (vI (a.2.2.1)) (vI (a.2.2.2.1)) (vI (a.2.2.2.2.1)) (vI (a.2.2.2.2.2)) (vS (b.1)) (vI (b.2.1)) (vI (b.2.2.1)) (vI (b.2.2.2.1)) (vI (b.2.2.2.2.1)) (vI (b.2.2.2.2.2))) Z Z Z) Z λi=>cX h λd h=>aH (eQ 1 iL Z Z Z (bD (aF.res 0 Z) iL) Z Z Z Z d Z) Z λf=>aE Z<|aM<|aW ?_;cases h;exact gH (f) Z Z (RV.tmp Z) (a_.ix [1] Z Z) aG.nil
end Go.Proofs.YtlkhndebimcbbaaGreatDoor
namespace Go.Proofs.YtlkhndebimcbbaaGreatDoor
open Go Go.Sx
theorem aeS:CC 1000=some fS:=by kernel_rfl
end Go.Proofs.YtlkhndebimcbbaaGreatDoor
namespace Go.Proofs.YtlkhndebimcbbaaGreatDoor
open Go.Sx
def uW (U:Nat)  : Option (ByteArray):=
 some (ByteArray.mk #[112,114,111,103,114,97,109,32,115,110,97,112,115,104,111,116,59,10,118,97,114,32,100,32,58,32,48,32,46,46,32,110,59,10,118,97,114,32,112,32,58,32,112,111,114,116,59,10,118,97,114,32,115,32,58,32,98,111,111,108,59,10,118,97,114,32,98,32,58,32,98,111,111,108,59,10,118,97,114,32,120,32,58,32,48,32,46,46,32,49,53,59,10,118,97,114,32,97,32,58,32,48,32,46,46,32,49,53,32,42,32,110,59,10,114,117,108,101,32,116,111,112,58,32,114,111,111,116,32,38,38,32,40,100,32,33,61,32,48,32,124,124,32,112,32,33,61,32,110,111,110,101,41,32,45,62,32,100,32,58,61,32,48,44,32,112,32,58,61,32,110,111,110,101,59,10,114,117,108,101,32,108,111,119,58,32,33,114,111,111,116,32,38,38,32,40,100,32,33,61,32,40,109,105,110,40,113,46,100,41,32,60,32,110,32,63,32,109,105,110,40,113,46,100,41,32,43,32,49,32,58,32,110,41,32,124,124,32,112,32,33,61,32,102,105,114,115,116,40,113,46,100,32,61,61,32,109,105,110,40,113,46,100,41,41,41,10,32,32,45,62,32,100,32,58,61,32,40,109,105,110,40,113,46,100,41,32,60,32,110,32,63,32,109,105,110,40,113,46,100,41,32,43,32,49,32,58,32,110,41,44,32,112,32,58,61,32,102,105,114,115,116,40,113,46,100,32,61,61,32,109,105,110,40,113,46,100,41,41,59,10,114,117,108,101,32,98,101,103,105,110,58,32,114,111,111,116,32,38,38,32,33,115,32,45,62,32,115,32,58,61,32,116,114,117,101,44,32,98,32,58,61,32,33,98,59,10,114,117,108,101,32,116,97,107,101,58,32,33,114,111,111,116,32,38,38,32,115,111,109,101,40,113,32,61,61,32,112,32,38,38,32,40,113,46,98,32,33,61,32,98,32,124,124,32,115,32,38,38,32,33,113,46,115,41,41,32,45,62,32,115,32,58,61,32,115,111,109,101,40,113,32,61,61,32,112,32,38,38,32,113,46,115,41,44,32,98,32,58,61,32,115,111,109,101,40,113,32,61,61,32,112,32,38,38,32,113,46,98,41,59,10,114,117,108,101,32,102,105,110,105,115,104,58,32,115,32,38,38,32,97,108,108,40,113,46,112,32,33,61,32,113,46,98,97,99,107,32,124,124,32,33,113,46,115,32,38,38,32,113,46,98,32,61,61,32,98,41,32,45,62,32,115,32,58,61,32,102,97,108,115,101,44,32,97,32,58,61,32,120,32,43,32,115,117,109,40,113,46,112,32,61,61,32,113,46,98,97,99,107,32,63,32,113,46,97,32,58,32,48,41,59,10])
theorem acX:aX Tryz.prog 10:=Tryz.call10
theorem IB (U:Nat)  (r:ByteArray) (h:uW U  = some r):
  aY Tryz.prog 10 #[] [] (λx:Unit=>vS (r)) (λx l=>l) (λ_ l=>l):=by
 refine aY.of Tryz.func10 Z Tryz.ntmps10 Z λc=>?_;unfold uW at h;refine aV<|aE Z<|aM<|aV<|aE Z<|aM<|aW ?_;cases h;exact lA Z
end Go.Proofs.YtlkhndebimcbbaaGreatDoor
namespace Go.Proofs.YtlkhndebimcbbaaGreatDoor
open Go Go.Sx Go.Gx
set_option maxRecDepth 100000
def BB (a:Nat):Option (Bool):=some (true)
theorem WK:aX Tryz.prog 13:=Tryz.call13
theorem Xf:okT (JC HK gp2 4000 13 [] H0)=true:=by kernel_rfl
theorem Le (a:Nat) (r:Bool) (h:BB a=some r):
  aY Tryz.prog 13 #[] [Gb 0 (cellsOf HU xM)] (λx:Unit=>Value.bool (r)) (λx l=>l) (λ_ l=>l):=by
 obtain rfl:=Option.some.inj h;obtain⟨d,c⟩:=Yu Xf;rw[Gi GI]at c;exact Nr XJ WK (λf e h=>h.bool_inv) λT b=>Gh (gs:=gl T) ajI c (fJ.start b Z) .nil
end Go.Proofs.YtlkhndebimcbbaaGreatDoor
namespace Go.Proofs.YtlkhndebimcbbaaGreatDoor
open Go.Sx
noncomputable def jK  (a:Bool):Option (Bool):=
 some (a)
noncomputable def jJ (U:Nat) (f:(aQ×fW)) (e:Int) (a:List bF×(List (Int×Int×Int×Int×Int))×Bool) (b:Bool):Option (Bool):=
 if b=true then(some (false))else(Option.bind (BB U) λc=>(if c=true then(ck (0<=(wI .i64 ((wI .i64 ((6:Int)*e))+(4:Int)))∧(wI .i64 ((wI .i64 ((6:Int)*e))+(4:Int)))<(List.length a.1:Int)) (Option.bind (fG U ((f.1,f.2)) (at' a.1 (wI .i64 ((wI .i64 ((6:Int)*e))+(4:Int))))) λd=>(jK  (d))))else(jK  (false))))
noncomputable def qL (U:Nat) (d:Dt) (i:aQ):Option (Bool):=
 Option.bind (fF U ((d.1,d.2.1,d.2.2.1,d.2.2.2.1,d.2.2.2.2.1,d.2.2.2.2.2)) (6:Int)) λb=>(Option.bind (gZ U ((b.1,b.2)) (0:Int)) λc=>(Option.bind (uW U) λe=>(Option.bind (CC U) λf=>(Option.bind (mY U ((b.1,b.2)) f i) λg=>(Option.bind (p_ U ([]:aQ) (wI .i64 ((wI .i64 ((6:Int)*c))+(4:Int)))) λh=>(Option.bind (vY U e ((b.1,b.2)) (4:Int) g h) λa=>(if(!a.2.2)=true then(jJ U b c a (true))else(if(List.length a.1:Int)≠(wI .i64 ((wI .i64 ((wI .i64 ((6:Int)*c))+(4:Int)))+(1:Int)))then(jJ U b c a (true))else(ck (0<=(wI .i64 ((wI .i64 ((6:Int)*c))+(4:Int)))∧(wI .i64 ((wI .i64 ((6:Int)*c))+(4:Int)))<(List.length a.2.1:Int)) (jJ U b c a (decide (((at' a.2.1 (wI .i64 ((wI .i64 ((6:Int)*c))+(4:Int)))).2.2.1)≠(wI .i64 ((wI .i64 ((6:Int)*c))+(4:Int)))))))))))))))
theorem CY (U:Nat) {p0:Dt} {p1:aQ} (C:Value)  (D:Value)  (E:Value)  (L:Value) (r:Bool) (h:qL U p0 p1=some r):
  aY Tryz.prog 4 #[Value.agg #[vI (p0.1),C,D,E,vB (p0.2.2.2.2.1),vB (p0.2.2.2.2.2)],L] [Sl bO C p0.2.1,Sl bO D p0.2.2.1,Sl bO E p0.2.2.2.1,Sl bO L p1,Gb 0 (cellsOf HU xM)] (λx:Unit=>vB (r)) (λx l=>l) (λ_ l=>l):=by
 refine aY.of Tryz.func4 Z Tryz.ntmps4 Z λc=>?_;refine aV<|aH (aN.box (cs:=[vI (p0.1),C,D,E,vB (p0.2.2.2.2.1),vB (p0.2.2.2.2.2)]) Z Z) Z λb1=>aE Z<|aM<|aV<|eK 0 Z<|fH h λn w3 h=>aH (aN.callQ agp (Cb U C D E n w3) Z (oS [0,1,2] Z)) Z λa=>aH (aN.alloc (cs:=[lC,lC]) Z Z) Z λW=>cG (Know.one ((bD (aF.res 1 Z) dJ))) λF=>cG (Know.one (aF.sl (cB (i:=2) (j:=3) Z Z bU))) λG=>bS 0 (vs:=[a.1,a.2.1]) Z Z (lE F (lE G Z)) Z Z Z<|aM<|aV<|eK 0 Z<|fH h λo w9 h=>aH (aN.callQ acZ (Em U a.1 a.2.1 (List.zip a.2.2 n.2) o w9) Z (aG.cons (bD (aF.res 1 Z) dJ) (aG.cons (cB (i:=2) (j:=3) Z Z bU) .nil))) Z λaa=>aB (AD Z Z) Z<|cH Z<|aE Z<|aM<|aK ?_;refine JR.start [0,0,0,1,0,29,0,125,255,511,1023,1023,1023,2047,12287,32767] 15 mixedOrders (by decide +kernel) ?_;refine JR.open (by exact rfl)<|fH h λH M h=>JR.loud Z Z Z (aN.callQ acX (IB U  H M) Z .nil) Z (λT=>Ad.z) λT=>bK Z (a_.cons 0 Z .nil) .nil (iN 0 Z Z Z Z) (aO.h (a_.ix [0] Z Z) .nil aO.z)<|bK Z (a_.cons 0 Z .nil) .nil (iN 0 Z Z Z Z) (aO.h (a_.ix [0] Z Z) .nil aO.z)<|fH h λI N h=>JR.loud Z Z Z (aN.callQ agr (NK U  I N) Z .nil) Z (λA=>(wF [([1],[]),([1],[])] Z)) λA=>jS Z (iG Z)<|fH h λw O h=>JR.loud Z Z Z (aN.callQ agq (KI U a.1 a.2.1 (List.zip a.2.2 n.2) A L w O) Z (aG.cons (bD (aF.res 2 Z) dJ) (aG.cons (cB (i:=3) (j:=4) Z Z bU) (aG.cons (bD (aF.res 0 Z) iL) (oS [3] Z))))) Z (λp=>(wF [([3],[])] Z)) λp=>jS Z (iG Z)<|fH h λJ P h=>JR.loud Z Z Z (aN.callQ acY (KJ U (lC) J P) Z (aG.cons aF.nil .nil)) Z (λB=>(wF [([4],[])] Z)) λB=>fH h λm Q h=>JR.loud Z Z Z (aN.callQ ags (Qg U a.1 a.2.1 (List.zip a.2.2 n.2) p.1 (List.zip p.2 w) B m Q) Z (aG.cons (bD (aF.res 5 Z) dJ) (aG.cons (cB (i:=6) (j:=7) Z Z bU) (aG.cons (cB (i:=1) (j:=2) Z Z dJ) (aG.cons (bD (aF.res 0 Z) vG) (oS [4] Z)))))) Z (λb=>(wF [] Z)) λb=>jS Z (iG Z)<|jS Z (pI Z Z)<|jS Z (pI Z Z)<|jS Z (pI Z Z)<|jS Z (nZ Z)<|jS Z (nZ Z)<|bP 15 Z Z<|aE Z<|aM<|aK<|aK<|dO (λd=>jJ U n o m d=some r) (λd q=>[(5,vP W),(6,vI (wI .i64 ((wI .i64 ((6:Int)*o))+(4:Int)))),(7,b.1),(46,vB (d))]) (λd q=>[Ar dA.raw b.1 b.2.1,Lq bZ b.2.1 b.2.2.1 m.1,bV W [a.1,a.2.1] 28,Ar bZ a.1 n.1,Ar dA.raw a.2.1 a.2.2,lU cF a.2.2 n.2]) ?_ ?_
 ·refine aR<|aA Z<|aB (oQ Z) Z<|aA Z ?_;refine wG (by exact rfl) (by exact rfl) (λg=>?_) (λg=>?_)
  ·have h:=LP g h;refine aI Z<|aI Z<|aI Z<|aI Z<|aI Z<|dW Z<|aA Z<|aI Z<|aI Z<|aI Z<|aI Z<|aI Z<|aI Z<|aI Z<|dW Z<|aM ?_;exact cC (true) () h SF (a_.ix [0,1,7,8,9,10] Z Z) (aG.refl _ _)
  have h:=Gr g h;refine cS Z<|aP Z (Jv 0 1 Z Z Z Z) Z<|cS Z<|aP Z (xZ Z Z) Z<|aP Z (Df Z Z) Z<|fO Z<|aA Z ?_;refine Dv h Z (λ_ h=>?_) λ_ h=>?_
  ·refine aI Z<|aI Z<|aI Z<|aI Z<|aI Z<|aI Z<|aI Z<|dW Z<|aM ?_;exact cC (true) () h SF (a_.ix [0,1,7,8,9,10] Z Z) (aG.refl _ _)
  refine cS Z<|cS Z<|cX h λv h=>aP Z (aZ Z Z (bD (aF.res 2 Z) gG) Z Z v) Z<|aP Z (fY Z Z Z Z Z) Z<|aP Z (jO Z (bD (aF.res 2 Z) gG) Z Z Z EO v) Z<|cS Z<|aP Z (Df Z Z) Z<|fO Z<|aM ?_;exact cC (decide (((at' m.2.1 (wI .i64 ((wI .i64 ((6:Int)*o))+(4:Int)))).2.2.1)≠(wI .i64 ((wI .i64 ((6:Int)*o))+(4:Int))))) () h SF (a_.ix [0,1,7,8,9,10] Z Z) (aG.refl _ _)
 intro d q h;refine AZ h Z (λ_ h=>?_) λ_ h=>?_
 ·refine aV<|aE Z<|aM<|aW<|aJ ?_;cases h;exact tU Z
 refine cK<|aK<|dO (λe=>jK  e=some r) (λe s=>[(4,vB (e))]) (λe s=>[]) ?_ ?_
 ·refine JR.start [0,1,3,3,3,27,59,127,255,511] 7 mixedOrders (by decide +kernel) ?_;refine JR.open (by exact rfl)<|fH h λK R h=>JR.loud Z Z Z (aN.callQ WK (Le U  K R) Z (oS [4] Z)) Z (λV=>Ad.z) λV=>jS Z (iG Z) ?_;refine JR.guard (by exact rfl) (by exact rfl) (by exact rfl) (λf=>?_) (λf=>?_)
  ·have h:=LP f h;refine iM Z (a_.cons 2 Z .nil) .nil (iN 0 Z Z Z Z) (VP Z)<|iM Z .nil .nil (iG Z) (VP Z)<|iM Z .nil .nil (iG Z) (VP Z)<|cX h λk h=>eO (AA 1 Z) λt=>?_;refine iM Z (a_.cons 0 Z .nil) .nil (jU 0 Z Z Z Z Z k.1 (by have X:=k.2;have Y:=t;(try simp only[List.length_set]at X);(try simp only[List.length_set]at Y);(try simp only[List.length_set]);omega)) (VP Z) ?_;refine eO (AA 1 Z) λu=>iM Z (a_.cons 0 Z .nil) .nil (nQ 0 Z Z u Z Z k) (VP Z)<|bP 7 Z Z<|fH h λy S h=>nF Z (aN.callQ WL (Cc U a.1 a.2.1 (List.zip a.2.2 n.2) (at' b.2.1 (wI .i64 ((wI .i64 ((6:Int)*o))+(4:Int)))) (List.zip (at' b.2.2.1 (wI .i64 ((wI .i64 ((6:Int)*o))+(4:Int)))) (at' m.1 (wI .i64 ((wI .i64 ((6:Int)*o))+(4:Int))))) y S) Z (aG.cons (bD (aF.res 3 Z) dJ) (aG.cons (cB (i:=4) (j:=5) Z Z bU) (aG.cons (Wj (j:=1) Z dJ k.1 k.2) .nil)))) Z λab=>dW Z<|aE Z<|aM ?_;exact cC (y) () h SF .nil (aG.refl _ _)
  have h:=Gr f h;refine cO Z Z Z Z<|cO Z Z Z Z<|cO Z Z Z Z<|cO Z Z Z Z<|cO Z Z Z Z<|bP 7 Z Z<|aI Z<|fO Z<|aE Z<|aM ?_;exact cC (false) () h SF .nil (aG.refl _ _)
 intro e s h;unfold jK at h;refine aW ?_;cases h;exact lA Z
end Go.Proofs.YtlkhndebimcbbaaGreatDoor
namespace Go.Proofs.YtlkhndebimcbbaaGreatDoor
open Go Go.Sx
theorem Pe (x:Oi) (a:aQ):qL 1000 x a=some true:=by
 obtain⟨g,d,E,B,C,z,F,N⟩:=ajP x 6 (by omega) (by omega);have u:=N.v.n24;have D:=N.en;obtain⟨p,y,h⟩:=UX N.v fS a (by decide) aho;obtain⟨f,o,m,l⟩:=VL ([]:aQ) (n:=6*E+4) (by omega);obtain⟨t,q,e,s,_,w,_,k,i⟩:=ajT N (kind:=4) (by decide) (by decide) (ws:=f) (by omega) l h;have A:=s.l1;have j:=s.l2;have r:wI .i64 (wI .i64 (6*(E:Int))+4)=((6*E+4:Nat):Int):=by rw[show wI .i64 (6*(E:Int))=6*(E:Int)from wr (by omega) (by omega),wr (by omega) (by omega)];omega
 have c:=k Z f.length (Nat.le_refl _);have b:=(ajL N (w f.length (Nat.le_refl _))).1 (i Z (by omega));rw[m]at c b A j;unfold qL;rw[show fF 1000 (x.1,x.2.1,x.2.2.1,x.2.2.2.1,x.2.2.2.2.1,x.2.2.2.2.2) 6=some g from z,bH Z,bH (show gZ 1000 (g.1,g.2) 0=_ from N.refEcc),bH (show uW 1000=some CK from rfl),bH aeS,bH (show mY 1000 (g.1,g.2) fS a=some p from y),r,bH (show p_ 1000 [] ((6*E+4:Nat):Int)=_ from o)];refine(bH (show vY 1000 CK g 4 p f=_ from e)).trans ?_;dsimp only;rw[if_neg (by decide),fT (by omega),if_neg (by omega),cA (by omega),c,decide_eq_false (by simp)];unfold jJ jK;dsimp only;rw[if_neg (by decide),bH (show BB 1000=some true from rfl),if_pos Z,r,cA (by omega),bH (show fG 1000 (g.1,g.2) (at' t ((6*E+4:Nat):Int))=_ from b)]
end Go.Proofs.YtlkhndebimcbbaaGreatDoor
namespace Go.Sx
open Go.RowKit Go.ChangeShapes Go.WideShapes Go.ChangeAt Go.Proofs Go.Joins Go.Deep
section
variable {H:Type} {enc:TypeId×Value->H} {P:Program} {w:World} {base:Nat} {spare:Nat->Bool} {held:Bool}
theorem KY {a:Type} (l:List a) (d:a):l=(List.range l.length).map λi=>l.getD i d:=by
 apply List.ext_getElem?;intro i;by_cases h:i<l.length
 ·simp[h]
 ·simp[h]
theorem Yx {r:Reach} {x:Nat} {t:TypeId} {b:Array Field} {v:Value} {d:DataW H} {p:List MemPlace} (s:P.underlying t=some (.struct b)) (c:oneCellFields P b=true) (z:P.cellsOf t=b.size)
  (E:Value.okWide P w r x t v) (h:DataW.Trod enc P w base spare held t v d p):
  ∃(V:Nat->Value) (Y:Nat->DataW H×List MemPlace) (n:Nat),v = .agg ((List.range b.size).map V).toArray∧∀(i:Nat) (f:Field),b[i]? = some f->DataW.trod enc P w base spare held n f.type [V i]=some (Y i):=by
 obtain⟨a,rfl,l⟩:=okWide_struct s E;obtain⟨m,A⟩:=h;obtain⟨u,n,_,_,_,q,B⟩:=DataW.trod_struct s A;refine⟨λi=>a.toList.getD i undef,λi=>u.getD i (.nil,[]),n,?_,λi f j=> ?_⟩
 ·congr 1;apply Array.toList_inj.1;show a.toList=(List.range b.size).map λi=>a.toList.getD i undef;have y:b.size=a.toList.length:=by rw[<-z,<-l];rfl
  rw[y];exact KY a.toList undef
 ·have D:i<b.size:=(Array.getElem?_eq_some_iff.1 j).1;obtain⟨o,k⟩:=hone_of c i f j;have g:=B i f j;have e:(Value.cells (.agg a)).toList=a.toList:=rfl;have C:i<a.toList.length:=by rw[Array.length_toList];omega
  rw[o,k,e,take1_drop _ _ undef C]at g;rw[g];have F:i<u.length:=by omega
  simp[F]
theorem Yb {k:IntKind} {e:TypeId} (a:P.underlying e=some (.int k)) {n:Nat} {v:Value} {x:DataW H×List MemPlace} (h:DataW.trod enc P w base spare held n e [v]=some x):∃y:Int,v = .int k y:=by
 obtain⟨y,b,_,_⟩:=DataW.trod_int a h;exact⟨y,by simpa using b⟩
theorem LR {e:TypeId} (a:P.underlying e=some .bool) {n:Nat} {v:Value} {x:DataW H×List MemPlace} (h:DataW.trod enc P w base spare held n e [v]=some x):∃y:Bool,v = .bool y:=by
 obtain⟨y,b,_⟩:=DataW.trod_bool a h;exact⟨y,by simpa using b⟩
end
end Go.Sx
section
set_option maxRecDepth 100000
namespace Go.Sx
open Go.RowKit Go.ChangeShapes Go.WideShapes Go.ChangeAt Go.Proofs Go.Joins
theorem Rz {P:Program} {W:World} {n:String} {b m t B:Nat} {k:IntKind} {a:aQ} (h:laidMet P [(n,.agg (a.map λx=> .lit (.int k x)))] W) (I:P.globalNamed n=some b)
  (ht:(P.globals[b]?).map (·.type)=some t) (hu:P.underlying t=some (.array m B)) (w:P.underlying B=some (.int k)) (S:P.cellsOf B=1) (u:P.cellsOf t=m) (hm:0<m):(Gb b (cellsOf (dA.int k) a)).p W (λ_=>True):=by
 obtain⟨ps,⟨g,t2,j,F,p,q,C,D,E,M,e5,N⟩,aa,d⟩:=h;rw[I]at C;cases C;rw[ht]at D;cases D;refine⟨trivial,?_⟩
 obtain⟨L,ml,_,l,Y,y,V⟩:=DataW.trod_array hu M;simp only[Prod.mk.injEq,DataW.agg.injEq]at l;have e:a.length=m:=by rw[<-y];simpa using congrArg List.length l.1
 have U:j.size=m:=by rw[<-u,<-Y];simp
 have v:j.toList=cellsOf (dA.int k) a:=by
  refine List.ext_getElem? λi=> ?_;by_cases X:i<m
  ·have o:=V i X;rw[S,Nat.mul_one]at o;have J:a[i]? = some (a[i]'(by omega)):=List.getElem?_eq_getElem _;have G:=vQ (dA.int k) a i _ J 0 _ Z;rw[show i*(dA.int k).sz+0=i from Nat.mul_one i]at G;rw[G];have K:L[i]? = some (L[i]'(by omega)):=List.getElem?_eq_getElem _;rw[K]at o;obtain⟨z,hz,A,_⟩:=DataW.trod_int w o;have s:j.toList[i]? = some (.int k z):=by
    have:=congrArg (·[0]?) hz;simpa [List.getElem?_take,List.getElem?_drop]using this
   rw[s];have r:=congrArg (·[i]?) l.1;simp only[List.getElem?_map,J,K,Option.map_some,Option.some.injEq]at r;rw[A]at r;have O:a[i]=z:=by simpa using r
   rw[O]
  ·rw[List.getElem?_eq_none (by simp;omega),List.getElem?_eq_none (by rw[dY,e];show m*1<=i;omega)]
 have f:MemPlace.cell b 0∈ps:=by
  rw[N];refine List.mem_append_left _ (List.mem_append_left _ ?_);exact List.mem_map.2 ⟨0,by simp;omega,rfl⟩
 obtain⟨⟨c,T,H⟩,_⟩:=d b 0 f;refine⟨T,?_⟩
 have Q:c=j:=by
  have R:(W.var? P n)=some c:=by unfold World.var?;rw[I];simp[H]
  rw[R]at E;exact Option.some.inj E
 rw[H,Q,<-v]
theorem Pk {H:Type} {enc:TypeId×Value->H} {os:Os} (D:List (String×DataW Unit)) (N:(D.all λx=>x.2.handleName?.isNone)=true) (l:os.Started) {f:FuncId} {c:Func} {s:ChangeSpec} {r:Bool} (L:Tryz.prog.funcs[f]? = some c) (n:Tryz.prog.inits.idxOf? f=none)
  (o:(c.params.toList.all λt=>Tryz.prog.readableRec t&&decide (t<Tryz.prog.types.size))=true) (A:c.resultTypes = #[4]) (k:s.vars=[])
  (u:∀a:List (DataW H),a.length=c.params.toList.length->s.fn H a={results:=[.lit (.bool true)],args:=a})
  (m:∃(w:World) (b:Tape) (i:Input),w.os=os∧(w.forCall b i).Shaped Tryz.prog∧i.vars=[]∧Input.okWide Tryz.prog (w.forCall b i) .any w.heap.size f i∧
   ((s.pre enc Tryz.prog c [] false (w.forCall b i).memory i.args∧laidMetH Tryz.prog D (w.forCall b i).memory)∧sizedMet enc Tryz.prog c (OpenSpec.ofChange s) false (w.forCall b i).memory i.args)∧({}:Assume).holds Tryz.prog (lone (Frame.enter Tryz.prog f i.args .normal) [] (w.forCall b i)))
  (E:∀(W:World) (g:Nat) (args:Array Value) (a:List (DataW H)) (p:List MemPlace),laidMetH Tryz.prog D W->(∀(j:Nat) t v,c.params[j]? = some t->args[j]? = some v->Value.okWide Tryz.prog W .any g t v)->
   DataW.TrodAll enc Tryz.prog W 0 (λ_=>true) true c.params.toList args.toList a p->Calls Tryz.prog f args W λe P=>e = .returned (.bool true)∧MC W P):
  ReturnsInHanded {} Go.Proofs.YtlkhndebimcbbaaGreatDoor.Tryz.pinned.checked os f .any (λw args=>(s.pre enc Tryz.prog c [] false w args∧laidMetH Tryz.prog D w)∧sizedMet enc Tryz.prog c (OpenSpec.ofChange s) false w args) (s.post enc Tryz.prog c false r false false):=by
 refine returnsInHanded_of_change_and (C:=Go.Proofs.YtlkhndebimcbbaaGreatDoor.Tryz.pinned.checked) (X:=λw _=>laidMetH Tryz.prog D w) (λ_ _ _ U h=>by rw[MakeChecks.laidMetH_plain _ _ _ N]at h ⊢;exact h.of_heap U) ajR l n L m ?_;intro W g args a Y G B J _ _ T _;have M:=J.lt;have K:=J;obtain⟨p,q,I,Q,rfl,_,_⟩:=J;rw[k]at Q;obtain⟨rfl,rfl⟩:=trodVars_none Q;refine(E W g args a p T B I).mono ?_;rintro e P ⟨rfl,R⟩;refine⟨_,rfl,?_⟩
 have z:a.length=c.params.toList.length:=by
  have:∀(F:List TypeId) (y:fV) (a:List (DataW H)) (p:List MemPlace),DataW.TrodAll enc Tryz.prog W 0 (λ_=>true) true F y a p->a.length=F.length:=by
   intro F
   induction F with
   |nil=>intro y a p h;cases y<;>cases a<;>first|rfl|exact h.elim
   | cons t F ih =>
    intro y a p h;cases y with
    |nil=>exact h.elim
    |cons v y=>
     cases a with
     |nil=>exact h.elim
     |cons d a=>obtain⟨_,_,_,S,_⟩:=h;simp[ih y a _ S]
  exact this _ _ _ _ I
 have O:s.fn H (a++[])={results:=[.lit (.bool true)],args:=a}:=by rw[List.append_nil];exact u a z
 refine⟨a,[],p++[],[],p,[],K,?_,?_,?_,R.frame _,λh=>by cases h⟩
 ·rw[O,A];exact trodAll_mk1 (shut_bool Tryz.underlying4 true)
 ·rw[O];exact Fi agT R _ _ _ _ o I (λx V=>M x (List.mem_append_left _ V))
 ·rw[O,k];exact rfl
theorem Vn {P:Program} {n:String} {k:IntKind} {a:aQ} {W:World} (h:laidMetH P [(n,.agg (a.map λx=> .lit (.int k x)))] W):laidMet P [(n,.agg (a.map λx=> .lit (.int k x)))] W:=by
 rw[MakeChecks.laidMetH_plain _ _ _ (by rfl)]at h;exact h
end Go.Sx
end
