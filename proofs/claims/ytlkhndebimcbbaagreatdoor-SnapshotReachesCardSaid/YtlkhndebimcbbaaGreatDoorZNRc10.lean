/- Models and proofs. Conditions: none. -/
import Derived.Test.YtlkhndebimcbbaaGreatDoorZNRc9
import Derived.Test.YtlkhndebimcbbaaGreatDoorZNRc7
import Derived.Test.YtlkhndebimcbbaaGreatDoorZNRc2
import Derived.Test.YtlkhndebimcbbaaGreatDoorZNRc3
import Derived.Test.YtlkhndebimcbbaaGreatDoorZNRc8
import Derived.Test.YtlkhndebimcbbaaGreatDoorZNRc1
import Derived.OpenShut
import Derived.LaidLaws
import Derived.LaidHandle
import Derived.Lay
import Derived.MakeChecks
set_option linter.unusedVariables false
set_option linter.unusedSimpArgs false
set_option maxHeartbeats 4000000
set_option maxRecDepth 20000
namespace Go.Proofs.YtlkhndebimcbbaaGreatDoor
open Go Go.Sx
theorem Bz {p:sW} {g:GR} {R:List RL} {c:bF} {v:Nat}:(qZ (aU p g) R (fI g) c).testBit v=true↔v<g.2.length∧0<=eI (aU p g) R c v:=by
 rw[Om];refine⟨λh=>⟨h.1,h.2.1⟩,λh=>⟨h.1,h.2,?_⟩⟩
 unfold fI;rw[Uy,zAc h.1]
theorem adp {p:sW} {g:GR} {d:aR} {E:Nat} {j H:Nat->Nat} {S:Nat->Int} (o:VG g) (n:pR g 0 d) (m:∀v,v<g.2.length->0<=D d v) (s:TP g d j H) (K:tC g f_) (F:∀v,v<g.2.length->D d v<=(E:Int)):
  Stg (CO E) (6*E+4) (Wd g d E j (λv=>(D d v).toNat) S) (TsN g d E j (λv=>(D d v).toNat)) (λc=>qZ (aU p g) RN (fI g) c)
   (λc t C=>(∀i,t.testBit i=true->(qZ (aU p g) RN (fI g) c).testBit i=true)∧C=iP (aU p g) f_ RN c t):=by
 have l:RT g.2.length E j (λv=>(D d v).toNat):=aab o n m s F;refine⟨λi c h=>agb h,λi c h J r=>acY l F h J r,λi c v h f=> ?_,λi c t C h L=> ?_⟩
 ·refine Bz.2 ?_;obtain⟨M,_,h⟩:=h;have z:Hi g d c->v<g.2.length->0<=eI (aU p g) RX c v->0<=eI (aU p g) RN c v:=λI f q=>by
   rw[show RN=RB++RX from rfl,JY (Pj o n m I f),if_pos q];omega
  match i,h,f with
  | .tree k,⟨_,h⟩,f=>
   obtain⟨a,b⟩:=Ls (p:=p) (R':=RX) (VJ o n m h f);exact⟨f.1,by rw[show RN=RB++RX from rfl,a];exact b⟩
  | .good k,⟨_,h1,_⟩,⟨f,hv0,_,r⟩=>exact⟨f,z h1 f ((enN o n m s h1 f).1.2 (.inr (.inl (TI hv0 r))))⟩
  | .lev cl k,⟨_,h1,_,_,h4,_⟩,⟨f,hd,r⟩=>
   refine⟨f,z h1 f ((enN o n m s h1 f).1.2 (.inr (.inl ?_)))⟩
   have e:v≠0:=λe=>r (by rw[e]);obtain⟨a,x⟩:=l.up v f e;have A:(D d v).toNat<=k+1:=hd;have G:(D d v).toNat=(D d (j v)).toNat+1:=x;exact⟨e,.inl λq=>r (by rw[<-q];exact h4 _ a (show(D d (j v)).toNat<=k by omega))⟩
  | .low cl k,⟨_,h1,_,_,h4,h5,_⟩,⟨f,hd,r⟩=>
   refine⟨f,z h1 f ((enN o n m s h1 f).1.2 (.inr (.inr ⟨r,λw y B e=> ?_⟩)))⟩
   obtain⟨_,x⟩:=l.up w y B;rw[e]at x;have A:E<(D d v).toNat+(k+1):=hd;have G:(D d w).toNat=(D d v).toNat+1:=x;exact⟨h5 w y (show E<(D d w).toNat+k by omega),by rw[h4 w y (l.le w y),h4 v f (l.le v f)]⟩
  | .rest,⟨h1,h2⟩,f=>
   obtain rfl:v=0:=f;exact⟨l.n1,z h1 l.n1 ((enN o n m s h1 l.n1).1.2 (.inl ⟨rfl,(h2 0 l.n1).1⟩))⟩
 ·obtain⟨u,rfl⟩:=L;exact ZV o n m l (TW o n m s K h.1 λv f=>Bz.1 (u v f)) h
structure Ko (g:GR) (d:aR) (E:Nat) (par:Nat->Nat) (S:Nat->Int) (c0:bF) (k:Nat) (c:bF) (cnt:CT):Prop where
 r:DY g c f_
 x:∀v,v<g.2.length->xC c v=xC c0 v
 s:∃R B pe,DX k cnt R B pe∧Br (CO E) (6*E+4) (Wd g d E par (λv=>(D d v).toNat) S) (TsN g d E par (λv=>(D d v).toNat)) R pe c
def BX (g:GR) (d:aR) (a:Nat->Nat) (S:Nat->Int) (c:bF):Prop:=Hi g d c∧AG g.2.length a (sC c) (bC c)∧∀v,v<g.2.length->aC c v=S v
section
variable {p:sW} {g:GR} {c c0:List (List Int)} {d:List Int} {E:Nat} {S:Nat->Int} (hV:VG g) (hD:pR g 0 d) (h0:∀v,v<g.2.length->0<=D d v) {par fp:Nat->Nat} (hP:TP g d par fp) (hp:tC g f_) (hE:∀v,v<g.2.length->D d v<=(E:Int))
 include hV hD h0 hP hp hE
theorem QC (e:DY g c0 f_) (h:Ey g par (xC c0) S):Ko g d E par S c0 0 c0 (0,0,0,0,eK .u32 ((qZ (aU p g) RN (fI g) c0:Nat):Int) 16777215):=by
 have a:qZ (aU p g) RN (fI g) c0<16777216:=Sk.lt hV (KP (aU p g) RN (fI g) c0);have f:eK .u32 ((qZ (aU p g) RN (fI g) c0:Nat):Int) 16777215=((qZ (aU p g) RN (fI g) c0:Nat):Int):=by
  rw[show(16777215:Int)=((16777215:Nat):Int)from rfl,EC (by omega) (by omega),show(16777215:Nat)=2^24 - 1 from rfl,Nat.and_two_pow_sub_one_eq_mod,Nat.mod_eq_of_lt (by omega)]
 have b:Wd g d E par (λv=>(D d v).toNat) S (.tree 0) c0:=⟨e,h,Nat.zero_le _,IT h0 λv i=>(Is (W:=Me) e i).1.1⟩
 exact⟨e,λv _=>rfl,0,0,qZ (aU p g) RN (fI g) c0,⟨rfl,⟨by dsimp only;omega,by dsimp only;omega⟩,rfl,rfl,f,by omega,a⟩,Br.start (adp (p:=p) hV hD h0 hP hp hE) b⟩
theorem Tz {k t:Nat} {j f:CT} {o:Int} (C:k<900) (h:Ko g d E par S c0 k c j) (r:t≠0) (e:∀i,t.testBit i=true->(qZ (aU p g) RN (fI g) c).testBit i=true) (l:gO 1000 j (t:Int) ((qZ (aU p g) RN (fI g) (iP (aU p g) f_ RN c t):Nat):Int)=some (f,o)):Ko g d E par S c0 (k+1) (iP (aU p g) f_ RN c t) f:=by
 obtain⟨u,G,R,B,H,m,z⟩:=h;have F:t<16777216:=Sk.lt hV (λi A=>(Bz.1 (e i A)).1);have q:qZ (aU p g) RN (fI g) (iP (aU p g) f_ RN c t)<16777216:=Sk.lt hV (KP (aU p g) RN (fI g) _);obtain⟨y,w,s,a,b,_⟩:=Ku (adp (p:=p) hV hD h0 hP hp hE) z ⟨e,rfl⟩ m C F r q l;exact⟨Nu (S:=aU p g) hp u,λv n=>((TW hV hD h0 hP hp u λv n=>Bz.1 (e v n)).x v n).trans (G v n),y,w,s,a,b⟩
theorem Hz {R B h k:Nat} {e:CT} (f:DX k e R B h) (j:Br (CO E) (6*E+4) (Wd g d E par (λv=>(D d v).toNat) S) (TsN g d E par (λv=>(D d v).toNat)) R h c) (l:6*E+4<=R):BX g d par S c:=by
 obtain⟨i,b,a⟩:=Br.done (adp (p:=(ByteArray.mk #[],[],[])) hV hD h0 hP hp hE) j l;obtain⟨_,_,b⟩:=b
 match i,b,a with
 | .tree k,⟨q,_⟩,a=>simp only[CO]at a;omega
 | .good k,⟨q,_⟩,a=>simp only[CO]at a;omega
 | .lev false k,⟨q,_⟩,a=>simp only[CO]at a;omega
 | .lev true k,⟨q,_⟩,a=>simp only[CO]at a;omega
 | .low false k,⟨q,_⟩,a=>simp only[CO]at a;omega
 | .low true k,⟨q,_⟩,a=>simp only[CO]at a;omega
 | .rest,_,a=>simp only[CO]at a;omega
 | .done,b,_=>exact b
theorem Tx {k:Nat} {b:CT} (h:Ko g d E par S c0 k c b) (j:6*(E:Int)+4<b.2.2.2.1):BX g d par S c:=by
 obtain⟨_,_,R,B,l,a,e⟩:=h;have f:=a.begun;have i:=a.le;exact Hz hV hD h0 hP hp hE a e (by omega)
theorem Tj {t:Nat} (k:DY g c f_) (f:Ey g par (xC c) S) (h:BX g d par S c) (e:∀i,t.testBit i=true->(qZ (aU p g) RN (fI g) c).testBit i=true):BX g d par S (iP (aU p g) f_ RN c t):=by
 have j:RT g.2.length E par (λv=>(D d v).toNat):=aab hV hD h0 hP hE;obtain⟨a,b⟩:=(TW (t:=t) hV hD h0 hP hp k λv l=>Bz.1 (e v l)).ws h.1 S f;exact⟨a,BZ j b.ws h.2.1,b.right h.2.2⟩
end
theorem Jr {g:GR} (h:VG g):tC g f_:=by
 have f:=h.n24;have e:∀x,x<f_.length->Ez (at' f_ (x:Int)):=λx c=>by
  have c:x<6:=c
  match x,c with
  |0,_=>exact⟨by decide,by decide,by decide⟩
  |1,_=>exact⟨by decide,by decide,by decide⟩
  |2,_=>exact⟨by decide,by decide,by decide⟩
  |3,_=>exact⟨by decide,by decide,by decide⟩
  |4,_=>exact⟨by decide,by decide,by decide⟩
  |5,_=>exact⟨by decide,by decide,by decide⟩
 refine⟨by decide,e,λx c=> ?_,λx c d=> ?_⟩
 ·have c:x<6:=c
  match x,c with
  |0,_=>exact .inl Z
  |1,_=>exact .inr (.inr Z)
  |2,_=>exact .inr (.inl Z)
  |3,_=>exact .inr (.inl Z)
  |4,_=>exact .inl Z
  |5,_=>exact .inl Z
 ·have c:x<6:=c
  match x,c,d with
  |0,_,_=>
   have a:lo g (at' f_ ((0:Nat):Int)) 0=0:=ZA g 0;have b:hi g (at' f_ ((0:Nat):Int)) 0=(g.2.length:Int):=Zo g 0;rw[a,b];omega
  |1,_,d=>exact absurd d (by decide)
  |2,_,d=>exact absurd d (by decide)
  |3,_,d=>exact absurd d (by decide)
  | 4, _, _ =>
   have b:hi g (at' f_ ((4:Nat):Int)) 0=15:=by
    show(15:Int)+0*(g.2.length:Int)+0*iO g g.1.length=15;omega
   have a:lo g (at' f_ ((4:Nat):Int)) 0=0:=rfl;rw[a,b];omega
  | 5, _, _ =>
   have b:hi g (at' f_ ((5:Nat):Int)) 0=15*(g.2.length:Int):=by
    show(0:Int)+15*(g.2.length:Int)+0*iO g g.1.length=_;omega
   have a:lo g (at' f_ ((5:Nat):Int)) 0=0:=rfl;rw[a,b];omega
def sH (n:Nat):aR:=[(n:Int),-1,1,1,15,wI .i64 (15*(n:Int))]
theorem cfN {g:GR} {c:bF} (k:0<g.2.length∧g.2.length<=24) (a:DY g c f_):Kh g (sH g.2.length) c:=by
 refine⟨a.len,λv b=>⟨a.row v b,λx d=> ?_⟩⟩
 obtain⟨⟨f,h⟩,i,j⟩:=Is (W:=Me) a b;obtain⟨l,m,n,o⟩:=TS a b;have d:x<6:=d;unfold WL
 match x,d with
 |0,_=>
  have e:at' (sH g.2.length) ((0:Nat):Int)=(g.2.length:Int):=rfl;rw[e,if_neg (by omega)];exact⟨f,h⟩
 |1,_=>
  have e:at' (sH g.2.length) ((1:Nat):Int) = -1:=rfl;rw[e,if_pos Z];exact⟨i,j⟩
 |2,_=>
  have e:at' (sH g.2.length) ((2:Nat):Int)=1:=rfl;rw[e,if_neg (by omega)];show 0<=pK c v 2∧pK c v 2<=1;omega
 |3,_=>
  have e:at' (sH g.2.length) ((3:Nat):Int)=1:=rfl;rw[e,if_neg (by omega)];show 0<=pK c v 3∧pK c v 3<=1;omega
 |4,_=>
  have e:at' (sH g.2.length) ((4:Nat):Int)=15:=rfl;rw[e,if_neg (by omega)];show 0<=pK c v 4∧pK c v 4<=15;omega
 |5,_=>
  have e:at' (sH g.2.length) ((5:Nat):Int)=15*(g.2.length:Int):=wr (by omega) (by omega);rw[e,if_neg (by omega)];show 0<=pK c v 5∧pK c v 5<=_;omega
section
variable {g:GR} (hV:VG g) (hc:Eh g) {d:List Int} (hD:pR g 0 d)
 include hV hc hD
theorem ajf:∀v,v<g.2.length->0<=D d v:=λv a=>(Hr hV (s:=0) (by have:=hV.n1;omega) hD).2 hc v (by rw[hD.len];exact a)
theorem Ui {c:List (List Int)} (j:Kh g (sH g.2.length) c):
  ((Hi g d c∧∀v,v<g.2.length->WAt (Cz g c) c v)->rJ 1000 g (c.map λl=>l.take 4)=some true)∧
  (¬(Hi g d c∧∀v,v<g.2.length->WAt (Cz g c) c v)->rJ 1000 g (c.map λl=>l.take 4)=some false):=by
 have D:=hV.n24;have h1:=hV.n1;have hl:=j.1;have hr:∀v,v<g.2.length->(at' c (v:Int)).length=6:=λv a=>(j.2 v a).1;let b:=c.map λl=>l.take 4;have y:b.length=g.2.length:=by show(c.map _).length=_;simp[hl]
 have o:∀v,v<g.2.length->at' b (v:Int)=(at' c (v:Int)).take 4:=λv a=>EB (by omega);have f:∀v,v<g.2.length->∀i:Nat,i<4->at' (at' b (v:Int)) (i:Int)=at' (at' c (v:Int)) (i:Int):=λv a i W=>by rw[o v a,Hm W]
 have s:∀v,v<g.2.length->(at' b (v:Int)).length=4:=λv a=>by rw[o v a,List.length_take,hr v a];rfl
 have p:Kh g [(g.2.length:Int),-1,1,1] b:=j.cut (m:=4) (by simp[sH]);have x:Kh g [(g.2.length:Int),-1] (b.map λl=>l.take 2):=p.cut (m:=2) (by simp);have G:∀v,v<g.2.length->at' (at' c (v:Int)) 2=0∨at' (at' c (v:Int)) 2=1:=λv a=>by
  have:=(j.2 v a).2 2 (by simp[sH]);unfold WL at this;rw[if_neg (by show¬(1:Int) = -1;omega)]at this;have e:at' (sH g.2.length) ((2:Nat):Int)=1:=rfl;rw[e]at this;have C:at' (at' c (v:Int)) ((2:Nat):Int)=at' (at' c (v:Int)) 2:=rfl;rw[C]at this;omega
 have A:∀v,v<g.2.length -> -1<=at' (at' c (v:Int)) 1∧at' (at' c (v:Int)) 1<((at' g.2 (v:Int)).length:Int):=λv a=>by
  have:=(j.2 v a).2 1 (by simp[sH]);unfold WL at this;rw[if_pos (by rfl)]at this;have C:at' (at' c (v:Int)) ((1:Nat):Int)=at' (at' c (v:Int)) 1:=rfl;rw[C]at this;have V:(row g v).length=(at' g.2 (v:Int)).length:=rfl;omega
 have I:∀v,v<g.2.length->at' (at' b (v:Int)) 1=at' (at' c (v:Int)) 1:=λv a=>f v a 1 (by omega);have n:∀v,v<g.2.length->Cz g b v=Cz g c v:=λv a=>by unfold Cz;rw[I v a]
 have z:Us g b:=⟨y,λv a=>⟨by have:=s v a;omega,by rw[I v a];exact A v a⟩⟩
 have q:∀v,v<g.2.length->(Gu g d v (at' (b.map λl=>l.take 2) (v:Int))↔Gu g d v (at' c (v:Int))):=λv a=>by
  rw[EB (by omega)];unfold Gu;have t0:at' ((at' b (v:Int)).take 2) 0=at' (at' c (v:Int)) 0:=(Hm (i:=0) (by omega)).trans (f v a 0 (by omega));have H:at' ((at' b (v:Int)).take 2) 1=at' (at' c (v:Int)) 1:=(Hm (i:=1) (by omega)).trans (f v a 1 (by omega));rw[t0,H]
 obtain⟨H,t2⟩:=Qf hV hD Z hc (c:=b.map λl=>l.take 2) x;have Q:dC 1000 (g.1,g.2)=some true:=(xX hV).1 hc;have R:rJ 1000 g b=Option.bind (xE 1000 g (b.map λl=>l.take 2)) λr=>pP 1000 g b (!r):=by
  unfold rJ tQ GE k_;have P:eH 1000 (g.1,g.2) b [(g.1.length:Int),-1,1,1]=some true:=by rw[hV.len];exact(Gw hV (by simp) b).1 p
  rw[Q,bD Z,bD Z,if_pos Z,P,bD Z,bD Z,if_neg (by simp),cB (by omega)];have B:=eL (step:=vR 1000 g b) (K:=Ae 1000 g b (Gy 2 b b.length)) b.length (λk=>((k:Int),Gy 2 b k)) (λk O X=> ?_) (λO=> ?_) 1000 (by omega)
  ·rw[show(((0:Nat):Int),Gy 2 b 0)=((0:Int),List.replicate (Int.toNat (b.length:Int)) ([]:List Int)) by simp[Gy]]at B;rw[B,Qn];rfl
  ·have Y:=s k (by omega);unfold vR;dsimp only;rw[if_pos (by omega),cB (by omega),cB (by omega),cB (by rw[Qo (by omega)];omega),Aw (by omega)];have:=MQ (m:=2) X;rw[show Int.toNat (k:Int)=k from rfl,show Int.toNat (2:Int)=2 from rfl,this]
  ·unfold vR;dsimp only;rw[if_neg (by omega)]
 rw[R];by_cases w:Hi g d c
 ·have E:Par g d (Cz g c):=Ji hV hc hD w;have F:Par g d (Cz g b):=⟨by rw[n 0 (by omega)];exact E.root,λv a t=>by rw[n v a];exact E.up v a t⟩
  obtain⟨M,N⟩:=Xk hV y (λv a=>by have:=s v a;omega) (λv a=>by
   have e:at' (at' b (v:Int)) 2=at' (at' c (v:Int)) 2:=f v a 2 (by omega);rw[e];exact G v a) F
  have J:∀v,v<g.2.length->(WAt (Cz g b) b v↔WAt (Cz g c) c v):=λv a=>by
   unfold WAt;by_cases t:v=0
   ·exact⟨λ_=> .inl t,λ_=> .inl t⟩
   ·obtain⟨u,L,e,_⟩:=E.up v a t;rw[n v a,e];have q2:at' (at' b (u:Int)) 2=at' (at' c (u:Int)) 2:=f u L 2 (by omega);have q3:at' (at' b (u:Int)) 3=at' (at' c (u:Int)) 3:=f u L 3 (by omega);have r2:at' (at' b (v:Int)) 2=at' (at' c (v:Int)) 2:=f v a 2 (by omega);have r3:at' (at' b (v:Int)) 3=at' (at' c (v:Int)) 3:=f v a 3 (by omega);rw[q2,q3,r2,r3]
  have S:pP 1000 g b (!true)=bI (iM b (xN g b b.length)) 1000 0:=by
   have T:pM 1000 (g.1,g.2) b 1=some (xN g b b.length):=Ma D z;unfold pP;rw[if_neg (by simp),T];rfl
  rw[H λv a=>(q v a).2 (w v a),bD Z,S];exact⟨λh=>M λv a=>(J v a).2 (h.2 v a),λh=>N λU=>h ⟨w,λv a=>(J v a).1 (U v a)⟩⟩
 ·rw[t2 λh=>w λv a=>(q v a).1 (h v a),bD Z];refine⟨λh=>absurd h.1 w,λ_=> ?_⟩
  unfold pP;rw[if_pos (by simp)]
variable {par fp:Nat->Nat} (hP:TP g d par fp)
 include hP
 omit hc in
theorem acZ (h:∀v,v<g.2.length->0<=D d v) {c:List (List Int)} (b:Hi g d c):Cz g c 0 = -1∧∀v,v<g.2.length->v≠0->Cz g c v=(par v:Int):=by
  refine⟨if_neg ?_,λv f a=> ?_⟩
  ·have:=Q_ hV hD h b;show¬0<=HJ c 0;omega
  ·have e:at' (at' c (v:Int)) 1=(fp v:Int):=IK hP b f a;unfold Cz;rw[if_pos (by omega),e];exact(hP.at_ v f a).2.2.1
noncomputable def BU (g:GR) (par:Nat->Nat) (c:List (List Int)) (v:Nat):Int:=zP (λv=>if v=0 then -1 else(par v:Int)) g.2.length c v g.2.length
 omit hc hV hD in
theorem acW (f:∀v,v<g.2.length->0<=D d v):Par g d (λv=>if v=0 then -1 else(par v:Int)):=by
  refine⟨rfl,λv e c=> ?_⟩
  obtain⟨_,_,_,a,b⟩:=hP.at_ v e c;exact⟨par v,a,by rw[if_neg c],b⟩
 omit hc in
theorem VF (e:∀v,v<g.2.length->0<=D d v) {c:List (List Int)} (a:DY g c f_):Ey g par (xC c) (BU g par c):=
  aan (W:=Me) hV hD e hP (acW hP e) (λv f b=>by rw[if_neg b]) λv f=>(TS a f).2.2.1
theorem adl {c:List (List Int)} (o:DY g c f_):∃b,eN 1000 g c=some b∧(b=true↔BX g d par (BU g par c) c):=by
 have C:=hV.n24;have h1:=hV.n1;have I:=ajf hV hc hD;have n:Kh g (sH g.2.length) c:=cfN ⟨by omega,C⟩ o;have F:=n.1;have z:∀v,v<g.2.length->(at' c (v:Int)).length=6:=λv i=>(n.2 v i).1;have U:dC 1000 (g.1,g.2)=some true:=(xX hV).1 hc;have S:jI 1000 g c=some true:=by
  have q1:=Gw hV (hs:=sH g.2.length) (by simp[sH]) c;unfold jI tP iU;rw[U,bD Z,bD Z,if_pos Z];have:eH 1000 (g.1,g.2) c [(g.1.length:Int),-1,1,1,15,wI .i64 (15*(g.1.length:Int))]=eH 1000 g c (sH g.2.length):=by rw[hV.len];rfl
  rw[this,q1.1 n];rfl
 have V:eN 1000 g c=Option.bind (rJ 1000 g (c.map λl=>l.take 4)) λr=>pE 1000 g c (!r):=by
  unfold eN;rw[show jI 1000 (g.1,g.2) c=some true from S,bD Z,if_neg (by simp),cB (by omega)];have x:=eL (step:=pF 1000 g c) (K:=sT 1000 g c (Gy 4 c c.length)) c.length (λk=>((k:Int),Gy 4 c k)) (λk Q E=> ?_) (λQ=> ?_) 1000 (by omega)
  ·rw[show(((0:Nat):Int),Gy 4 c 0)=((0:Int),List.replicate (Int.toNat (c.length:Int)) ([]:List Int)) by simp[Gy]]at x;rw[x,Qn];rfl
  ·have Y:=z k (by omega);unfold pF;dsimp only;rw[if_pos (by omega),cB (by omega),cB (by omega),cB (by rw[Qo (by omega)];omega),Aw (by omega)];have:=MQ (m:=4) E;rw[show Int.toNat (k:Int)=k from rfl,show Int.toNat (4:Int)=4 from rfl,this]
  ·unfold pF;dsimp only;rw[if_neg (by omega)]
 rw[V];obtain⟨w1,N⟩:=Ui hV hc hD n;by_cases p:Hi g d c
 rotate_left
 ·rw[N λh=>p h.1,bD Z];exact⟨false,rfl,⟨λh=>(by cases h),λh=>absurd h.1 p⟩⟩
 obtain⟨p0,H⟩:=acZ hV hD hP I p;have L:(∀v,v<g.2.length->WAt (Cz g c) c v)↔AG g.2.length par (sC c) (bC c):=by
  constructor
  ·intro h v i j;have:=(h v i).resolve_left j;rw[H v i j]at this;by_cases q:sC c (par v)=0
   ·exact .inr (this q)
   ·exact .inl q
  ·intro h v i;by_cases j:v=0
   ·exact .inl j
   ·right;rw[H v i j];intro q;exact(h v i j).resolve_left λr=>r q
 by_cases y:AG g.2.length par (sC c) (bC c)
 rotate_left
 ·rw[N λh=>y (L.1 h.2),bD Z];exact⟨false,rfl,⟨λh=>(by cases h),λh=>absurd h.2.1 y⟩⟩
 have D:Par g d (Cz g c):=Ji hV hc hD p;have hx:∀v,v<g.2.length->0<=Kg c v∧Kg c v<=15:=λv i=>(TS o i).2.2.1;have G:Us g c:=⟨F,λv i=>⟨by have:=z v i;omega,by
  obtain⟨_,a,b⟩:=Is (W:=Me) o i;have X:(row g v).length=(at' g.2 (v:Int)).length:=rfl;exact⟨a,by have:HJ c v=at' (at' c (v:Int)) 1:=rfl;omega⟩⟩⟩
 obtain⟨R,r1,r2,r3⟩:=adr hV hD F z hx D I G;obtain⟨O,P⟩:=aao hV F z r2 r3;have J:(∀v,v<g.2.length->SAt g c v)↔∀v,v<g.2.length->aC c v=BU g par c v:=by
  have s:∀v,v<g.2.length->zP (Cz g c) g.2.length c v g.2.length=BU g par c v:=λv i=>by
   have e:∀(f:Nat) (w:Int) (u:Nat),(w = -1∨∃q:Nat,q<g.2.length∧w=q)->onP (Cz g c) f w u=onP (λv=>if v=0 then -1 else(par v:Int)) f w u:=by
    intro f
    induction f with
    |zero=>intro w u _;rfl
    | succ f A =>
     intro w u hw;simp only[onP];rcases hw with rfl|⟨q,M,rfl⟩
     ·rfl
     ·rw[show Int.toNat (q:Int)=q from rfl];by_cases B:q=0
      ·subst B;rw[p0,A (-1) u (.inl Z)];rfl
      ·obtain⟨_,_,_,a,_⟩:=hP.at_ q M B;rw[H q M B,A _ u (.inr ⟨par q,a,rfl⟩),if_neg B]
   have T:∀k,k<=g.2.length->zP (Cz g c) g.2.length c v k=zP (λv=>if v=0 then -1 else(par v:Int)) g.2.length c v k:=by
    intro k
    induction k with
    |zero=>intro _;rfl
    |succ k A=>
     intro E;simp only[zP];rw[A (by omega),e _ _ _ (.inr ⟨k,E,rfl⟩)]
   exact T _ (zAf _)
  exact⟨λh v i=>by rw[<-s v i];exact h v i,λh v i=>by
   show at' (at' c (v:Int)) 5=_;rw[s v i];exact h v i⟩
 rw[w1 ⟨p,L.2 y⟩,bD Z];unfold pE;rw[if_neg (by simp),show rW 1000 (g.1,g.2) c=some R from r1,bD Z];by_cases t:∀v,v<g.2.length->SAt g c v
 ·exact⟨true,O t,⟨λ_=>⟨p,y,J.1 t⟩,λ_=>rfl⟩⟩
 ·exact⟨false,P t,⟨λh=>(by cases h),λh=>absurd (J.2 h.2.2) t⟩⟩
end
theorem acg {g:GR} (m:VM g.1 g.2) (h:∀v:Nat,1<=v->v<g.2.length->∃u:Nat,u<v∧nE g.2 u v):Eh g:=by
 have f:VG g:=m.vg;have t:=f.n1;have j:∀v,v<g.2.length->∃k,zF g 0 k v:=by
  intro v
  induction v using Nat.strongRecOn with
  | _ v ih =>
   intro c;by_cases l:v=0
   ·subst l;exact⟨0,rfl,c⟩
   ·obtain⟨u,e,x,s,p⟩:=h v (by omega) c;obtain⟨k,r⟩:=ih u e (by omega);obtain⟨i,q,d⟩:=Fw s;refine⟨k+1,u,r,i,q,?_⟩
    show(at' (at' g.2 (u:Int)) (i:Int)).1=_;rw[d,p]
 intro u v e c;obtain⟨a,n⟩:=j u e;obtain⟨b,o⟩:=j v c;exact⟨a+b,(Hj f n).trans o⟩
structure ahx (g:GR) (d:aR) (E:Nat) (par fp:Nat->Nat):Prop where
 v:VG g
 c:Eh g
 dist:pR g 0 d
 d0:∀v,v<g.2.length->0<=D d v
 p:TP g d par fp
 e:∀v,v<g.2.length->D d v<=(E:Int)
 en:E<g.2.length
 ecc:iJ 1000 g 0=some (E:Int)
structure abe (g:GR) (d:aR) (E:Nat) (par fp:Nat->Nat):Prop extends ahx g d E par fp where
 refEcc:gC 1000 g 0=some (E:Int)
theorem alr (x:PI) (a:Nat) (n:1<=a) (k:a<=24):∃g d E e j,fR 1000 x (a:Int)=some g∧g.2.length<=a∧ahx g d E e j:=by
 obtain⟨g,t,i,w,q⟩:=Oi x a n k;have h:VG g:=i.vg;have y:=h.n1;have l:=acg i q;obtain⟨r,z,o⟩:=AB h l (s:=0) (by omega);obtain⟨d,_,f,m,v,c,A⟩:=o;have b:∀v,v<g.2.length->0<=D d v:=λv c=>(Hr h (s:=0) (by omega) f).2 l v (by rw[f.len];exact c);obtain⟨e,j,p⟩:=aiH h f b;have B:=b v c;have C:=f.hi v c;have u:r<(g.2.length:Int):=by
  have F:=f.lt c;omega
 refine⟨g,d,r.toNat,e,j,t,w,⟨h,l,f,b,p,λv c=> ?_,by omega,?_⟩⟩
 ·have:=m v c;omega
 ·rw[Int.toNat_of_nonneg (by omega)];exact z
theorem als (x:PI) (a:Nat) (l:1<=a) (h:a<=24):∃g d E b f,fR 1000 x (a:Int)=some g∧g.2.length<=a∧abe g d E b f:=by
 obtain⟨g,d,E,b,f,n,o,N⟩:=alr x a l h;have p:=N.v.n1;obtain⟨r,q,m⟩:=AB N.v N.c (s:=0) (by omega);obtain⟨t,j,i,_⟩:=IM N.v (s:=0) (by omega);have e:=Ki m (i N.c);have k:=Option.some.inj (q.symm.trans N.ecc);exact⟨g,d,E,b,f,n,o,N,by rw[<-k,e];exact j⟩
theorem ahZ:En RN=DD:=rfl
theorem Rj:yO f_.length RN=true:=adj
theorem aiN:∀x,x<f_.length->Ez (at' f_ (x:Int)) ∧ -100000<=(at' f_ (x:Int)).2.2.1∧(at' f_ (x:Int)).2.2.1<=(at' f_ (x:Int)).2.2.2.1:=by
 intro x a;have a:x<6:=a
 match x,a with
 |0,_=>exact⟨⟨by decide,by decide,by decide⟩,by decide,by decide⟩
 |1,_=>exact⟨⟨by decide,by decide,by decide⟩,by decide,by decide⟩
 |2,_=>exact⟨⟨by decide,by decide,by decide⟩,by decide,by decide⟩
 |3,_=>exact⟨⟨by decide,by decide,by decide⟩,by decide,by decide⟩
 |4,_=>exact⟨⟨by decide,by decide,by decide⟩,by decide,by decide⟩
 |5,_=>exact⟨⟨by decide,by decide,by decide⟩,by decide,by decide⟩
theorem Tc {p:sW} {g:GR} (d:VG g) (R:List RL) (c:bF):DX 0 (0,0,0,0,eK .u32 ((qZ (aU p g) R (fI g) c:Nat):Int) 16777215) 0 0 (qZ (aU p g) R (fI g) c):=by
 have a:qZ (aU p g) R (fI g) c<16777216:=Sk.lt d (KP (aU p g) R (fI g) c);have b:eK .u32 ((qZ (aU p g) R (fI g) c:Nat):Int) 16777215=((qZ (aU p g) R (fI g) c:Nat):Int):=by
  rw[show(16777215:Int)=((16777215:Nat):Int)from rfl,EC (by omega) (by omega),show(16777215:Nat)=2^24 - 1 from rfl,Nat.and_two_pow_sub_one_eq_mod,Nat.mod_eq_of_lt (by omega)]
 exact⟨rfl,⟨by dsimp only;omega,by dsimp only;omega⟩,rfl,rfl,b,by omega,a⟩
theorem adJ {n E:Nat} {d:Nat->Nat} {q:Nat->Prop} (g:∀v,v<n->d v<=E):∀(k v:Nat),E<=d v+k->v<n->q v->∃w,w<n∧q w∧∀u,u<n->q u->d u<=d w
 |0,v,h,hv,hq=>⟨v,hv,hq,λu f _=>by have:=g u f;omega⟩
 | k + 1, v, h, hv, hq => by
  by_cases e:∃u,u<n∧q u∧d v<d u
  ·obtain⟨u,a,b,c⟩:=e;exact adJ g k u (by omega) a b
  ·exact⟨v,hv,hq,λu f h=>Nat.le_of_not_lt λc=>e ⟨u,f,h,c⟩⟩
theorem LN {P:Nat->Int} {n u:Nat} {c a:bF}:∀{k:Nat},(∀v,v<k->Kg a v=Kg c v)->zP P n a u k=zP P n c u k
 |0,_=>rfl
 |k+1,h=>by
  simp only[zP];rw[LN λv b=>h v (by omega),h k (by omega)]
abbrev pN:sW:=(ByteArray.mk #[115,110,97,112,115,104,111,116],f_,[])
section
variable {p:sW} {g:GR} {c:List (List Int)} {d:List Int} (hV:VG g) (hD:pR g 0 d) (h0:∀v,v<g.2.length->0<=D d v) {par fp:Nat->Nat} (hP:TP g d par fp) (hc:DY g c f_)
 include hV hD h0 hP hc
theorem YL:qZ (aU p g) RN (fI g) c≠0:=by
 intro C;have l:RT g.2.length g.2.length par (λv=>(D d v).toNat):=aab hV hD h0 hP λv f=>hD.hi v f;have h:∀v,v<g.2.length->¬0<=eI (aU p g) RN c v:=λv f q=>by
  have:=Bz.2 ⟨f,q⟩;rw[C,Nat.zero_testBit]at this;cases this
 have t:∀v,v<g.2.length->GI g c v:=λv f=>Classical.byContradiction λq=>by
  obtain⟨a,b⟩:=Ls (p:=p) (R':=RX) q;exact h v f (by rw[show RN=RB++RX from rfl,a];exact b)
 have y:Hi g d c:=WY hV hD h0 (λv f=>(Is (W:=Me) hc f).1.1) t;have B:∀v,v<g.2.length->¬0<=eI (aU p g) RX c v:=λv f q=>h v f (by rw[show RN=RB++RX from rfl,JY (t v f),if_pos q];omega);have i:=λv f=>λq=>B v f ((enN (p:=p) hV hD h0 hP y f).1.2 q);have F:AG g.2.length par (sC c) (bC c):=λv f n=>Classical.byContradiction λq=>i v f (.inr (.inl (TI n q)));have A:∀v,v<g.2.length->sC c v=0:=λv f=>Decidable.byContradiction λq=>by
  obtain⟨w,o,z,j⟩:=adJ (q:=λu=>sC c u≠0) l.le g.2.length v (by omega) f q;refine i w o (.inr (.inr ⟨z,λx s k e=> ?_⟩));obtain⟨_,a⟩:=l.up x s k;have m:sC c x=0:=Decidable.byContradiction λr=>by
   have:=j x s r;rw[e]at a;omega
  refine⟨m,Decidable.byContradiction λr=>i x s (.inr (.inl ⟨k,.inl λE=>r ?_⟩))⟩
  rw[<-E,e]
 exact i 0 l.n1 (.inl ⟨rfl,A 0 l.n1⟩)
end
structure ajc (g:GR) (kind:Int) (k len:Nat) (cs:List (List (List Int))) (cnts:List CT):Prop where
 l1:cs.length=k+1
 l2:cnts.length=k+1
 le:k<=len
 step:∀j,j<k->∃t,(∀i,t.testBit i=true->(qZ (aU pN g) RN (fI g) (at' cs (j:Int))).testBit i=true)∧qZ (aU pN g) RN (fI g) (at' cs (j:Int))≠0∧at' cs ((j+1:Nat):Int)=iP (aU pN g) f_ RN (at' cs (j:Int)) t∧(kind=4->t=qZ (aU pN g) RN (fI g) (at' cs (j:Int)))
section
variable {g:GR} {d:List Int} {E:Nat} {par fp:Nat->Nat} (N:abe g d E par fp) {kind:Int} (hk1:1<=kind) (hk4:kind<=4) {c0:List (List Int)} {ws:List Int} (hws:ws.length<=900) (hw:∀k:Nat,k<ws.length->∃m:Nat,at' ws (k:Int)=(m:Int)∧m<4294967296)
 include N
theorem afP {c:List (List Int)} (f:DY g c f_):(BX g d par (BU g par c) c->eN 1000 g c=some true)∧(¬BX g d par (BU g par c) c->eN 1000 g c=some false):=by
 obtain⟨b,a,e⟩:=adl N.v N.c N.dist N.p f;refine⟨λh=>by rw[a,e.2 h],λh=> ?_⟩
 cases b with
 |true=>exact absurd (e.1 Z) h
 |false=>exact a
 omit N in
theorem LM {c a:List (List Int)} (h:∀v,v<g.2.length->xC a v=xC c v):BU g par a=BU g par c:=funext λu=>LN λv b=>h v b
 include hk1 hk4 hws hw
theorem alw (w:DY g c0 f_):
  ∃l f,xH 1000 Cq g kind c0 ws=some (l,f,true)∧ajc g kind ws.length ws.length l f∧at' l 0=c0∧(∀j,j<=ws.length->Ko g d E par (BU g par c0) c0 j (at' l (j:Int)) (at' f (j:Int)))∧
   (∀j,j<ws.length->BX g d par (BU g par c0) (at' l (j:Int))->BX g d par (BU g par c0) (at' l ((j+1:Nat):Int)))∧
   (kind=4->∀j,j<=ws.length->(at' f (j:Int)).2.2.1=(j:Int))∧(kind=4->6*E+4<=ws.length->BX g d par (BU g par c0) (at' l (ws.length:Int))):=by
 have M:=adp (p:=pN) (S:=BU g par c0) N.v N.dist N.d0 N.p (Jr N.v) N.e;have o:=VF N.v N.dist N.p N.d0 w;have I:=QC (p:=pN) N.v N.dist N.d0 N.p (Jr N.v) N.e w o;have F:Wd g d E par (λv=>(D d v).toNat) (BU g par c0) (.tree 0) c0:=⟨w,o,Nat.zero_le _,IT N.d0 λv hv=>(Is (W:=Me) w hv).1.1⟩
 obtain⟨k,l,f,P,Q,R,T,u,J,U⟩:=aaf (QZ 1000) ahZ N.v (Jr N.v) Rj hk1 hk4 w hws hw (λk c q=>Ko g d E par (BU g par c0) c0 k c q∧(k=0->c=c0)∧
   (kind=4->∃B,DX k q k B (qZ (aU pN g) RN (fI g) c)∧Br (CO E) (6*E+4) (Wd g d E par (λv=>(D d v).toNat) (BU g par c0)) (TsN g d E par (λv=>(D d v).toNat)) k (qZ (aU pN g) RN (fI g) c) c))
  ⟨I,λ_=>rfl,λ_=>⟨0,Tc N.v RN c0,Br.start M F⟩⟩
  (λk c q t K V hk L aa z h hk4 n=>⟨Tz (p:=pN) N.v N.dist N.d0 N.p (Jr N.v) N.e (by omega) L.1 z h n,λe=>by omega,λe=>by
   obtain⟨B,s,A⟩:=L.2.2 e;have ht:t<16777216:=Sk.lt N.v (λi hi=>(Bz.1 (h i hi)).1);have G:qZ (aU pN g) RN (fI g) (iP (aU pN g) f_ RN c t)<16777216:=Sk.lt N.v (KP (aU pN g) RN (fI g) _);obtain⟨R',O,ab,a,b,c⟩:=Ku M A ⟨h,rfl⟩ s (by omega) ht z G n;obtain⟨rfl,rfl⟩:=c (hk4 e);exact⟨O,a,b⟩⟩)
 obtain rfl:k=ws.length:=U.resolve_right λe=>YL (p:=pN) N.v N.dist N.d0 N.p (u k (zAf k)).1.r e;refine⟨l,f,P,⟨Q,R,T,J⟩,(u 0 (Nat.zero_le _)).2.1 Z,λj y=>(u j y).1,λj y Y=> ?_,λe j y=> ?_,λe hl=> ?_⟩
 ·obtain⟨t,s,_,X,_⟩:=J j y;have C:=(u j (by omega)).1;have H:Ey g par (xC (at' l (j:Int))) (BU g par c0):=by
   have:=VF N.v N.dist N.p N.d0 C.r;rw[LM C.x]at this;exact this
  rw[X];exact Tj (p:=pN) N.v N.dist N.d0 N.p (Jr N.v) N.e C.r H Y s
 ·obtain⟨B,s,_⟩:=(u j y).2.2 e;exact s.rounds
 ·obtain⟨B,s,A⟩:=(u ws.length (zAf _)).2.2 e;exact Hz N.v N.dist N.d0 N.p (Jr N.v) N.e s A hl
 omit hk1 hk4 hws hw in
theorem alo {c0 c:List (List Int)} {k:Nat} {a:CT} (b:Ko g d E par (BU g par c0) c0 k c a):(BX g d par (BU g par c0) c->eN 1000 g c=some true)∧(¬BX g d par (BU g par c0) c->eN 1000 g c=some false):=by
  have:=afP N b.r;rw[LM b.x]at this;exact this
end
end Go.Proofs.YtlkhndebimcbbaaGreatDoor
namespace Go.Proofs.YtlkhndebimcbbaaGreatDoor
open Go.Sx
def iR (U:Nat) (a:cD):Option ((Int×Bool×Bool×Int×Int)):=
 Option.bind (tP U ((a.1,a.2))) λb=>(if(!b)=true then(some (((0:Int),false,false,(0:Int),(0:Int))))else(Option.bind (iJ U ((a.1,a.2)) (0:Int)) λc=>(some (((3:Int),true,false,(wI .i64 ((wI .i64 ((6:Int)*c))+(4:Int))),(-1:Int))))))
theorem SS:aW Tryz.prog 16:=Tryz.call16
theorem zQ (U:Nat) {d:cD} (a:Value)  (b:Value)  (f:kA) (r:(Int×Bool×Bool×Int×Int)) (h:iR U d=some r):
  aY Tryz.prog 16 #[Value.agg #[a,b]] [Sl bN a d.1,S2 bA b f d.2] (λx:Unit=>Value.agg #[vI (r.1),vB (r.2.1),vB (r.2.2.1),vI (r.2.2.2.1),vI (r.2.2.2.2)]) (λx l=>l) (λ_ l=>l):=by
 refine aY.of Tryz.func16 Z Tryz.ntmps16 Z λc=>?_;refine aX<|aH (aO.box (cs:=[a,b]) Z Z) Z λk=>aH (aO.alloc (cs:=vD5) Z Z) Z λm=>aN<|aK<|aX<|dN 1 Z<|eZ h λg i h=>aH (zBa Yl (Ff U a b f g i) Z (mT [0,1] Z)) Z λn=>aB (lU Z) Z<|aN ?_;refine Am h Z (λ_ h=>?_) λ_ h=>?_
 ·refine aX ?_;refine aB (Io (r:=Value.agg #[vI (0:Int),vB (false),vB (false),vI (0:Int),vI (0:Int)]) (by intro w;simp[Instr.build,Instr.fill,dR,cW,cO,dU,dV,cX,eY])) Z ?_;refine bQ 0 (vs:=vD5) Z Z Z Z Z Z<|aN<|aV<|aJ ?_;cases h;exact fP () Z Z (RV.cell 0 Z Z Z Z) .nil aG.nil
 refine cL<|aX<|dN 1 Z<|eZ h λe j h=>aH (zBa aeI (Fa U a b f e j) Z (mT [0,1] Z)) Z λo=>aB (AA Z Z) Z<|cJ Z ?_;refine aB (SH (r:=Value.agg #[vI (3:Int),vB (true),vB (false),vI (wI .i64 ((wI .i64 ((6:Int)*e))+(4:Int))),vI (-1:Int)]) Z Z Z Z (by intro w;simp[Instr.build,Instr.fill,dR,cW,cO,dU,dV,cX,eY])) Z ?_;refine bQ 0 (vs:=[vI (3:Int),vB (true),vB (false),vI (wI .i64 ((wI .i64 ((6:Int)*e))+(4:Int))),vI (-1:Int)]) Z Z Z Z Z Z<|aN<|aV ?_;cases h;exact fP () Z Z (RV.cell 0 Z Z Z Z) .nil aG.nil
def EN (U:Nat) (a:cD):Option Bool:=
 Option.bind (hZ U ((a.1,a.2))) λb=>(some (b))
theorem aeJ:aW Tryz.prog 37:=Tryz.call37
theorem RD (U:Nat) {d:cD} (a:Value)  (b:Value)  (e:kA) (r:Bool) (h:EN U d=some r):
  aY Tryz.prog 37 #[Value.agg #[a,b]] [Sl bN a d.1,S2 bA b e d.2] (λx:Unit=>vB (r)) (λx l=>l) (λ_ l=>l):=by
 refine aY.of Tryz.func37 Z Tryz.ntmps37 Z λc=>?_;refine aX<|aH (aO.box (cs:=[a,b]) Z Z) Z λi=>aD Z<|aN<|aX<|dN 0 Z<|eZ h λf g h=>aH (zBa aeS (HZ U a b e f g) Z (mT [0,1] Z)) Z λj=>aD Z<|aN<|aV ?_;cases h;exact rX Z
def vF (U:Nat) (a:cD):Option ((Int×Bool×Bool×Int×Int)):=
 Option.bind (EN U ((a.1,a.2))) λb=>(if(!b)=true then(some (((0:Int),false,false,(0:Int),(0:Int))))else(Option.bind (gC U ((a.1,a.2)) (0:Int)) λc=>(some (((3:Int),true,false,(wI .i64 ((wI .i64 ((6:Int)*c))+(4:Int))),(-1:Int))))))
theorem aez:aW Tryz.prog 17:=Tryz.call17
theorem Mz (U:Nat) {d:cD} (a:Value)  (b:Value)  (f:kA) (r:(Int×Bool×Bool×Int×Int)) (h:vF U d=some r):
  aY Tryz.prog 17 #[Value.agg #[a,b]] [Sl bN a d.1,S2 bA b f d.2] (λx:Unit=>Value.agg #[vI (r.1),vB (r.2.1),vB (r.2.2.1),vI (r.2.2.2.1),vI (r.2.2.2.2)]) (λx l=>l) (λ_ l=>l):=by
 refine aY.of Tryz.func17 Z Tryz.ntmps17 Z λc=>?_;refine aX<|aH (aO.box (cs:=[a,b]) Z Z) Z λk=>aH (aO.alloc (cs:=vD5) Z Z) Z λm=>aN<|aK<|aX<|dN 1 Z<|eZ h λg i h=>aH (zBa aeJ (RD U a b f g i) Z (mT [0,1] Z)) Z λn=>aB (lU Z) Z<|aN ?_;refine Am h Z (λ_ h=>?_) λ_ h=>?_
 ·refine aX ?_;refine aB (Io (r:=Value.agg #[vI (0:Int),vB (false),vB (false),vI (0:Int),vI (0:Int)]) (by intro w;simp[Instr.build,Instr.fill,dR,cW,cO,dU,dV,cX,eY])) Z ?_;refine bQ 0 (vs:=vD5) Z Z Z Z Z Z<|aN<|aV<|aJ ?_;cases h;exact fP () Z Z (RV.cell 0 Z Z Z Z) .nil aG.nil
 refine cL<|aX<|dN 1 Z<|eZ h λe j h=>aH (zBa aey (Fe U a b f e j) Z (mT [0,1] Z)) Z λo=>aB (AA Z Z) Z<|cJ Z ?_;refine aB (SH (r:=Value.agg #[vI (3:Int),vB (true),vB (false),vI (wI .i64 ((wI .i64 ((6:Int)*e))+(4:Int))),vI (-1:Int)]) Z Z Z Z (by intro w;simp[Instr.build,Instr.fill,dR,cW,cO,dU,dV,cX,eY])) Z ?_;refine bQ 0 (vs:=[vI (3:Int),vB (true),vB (false),vI (wI .i64 ((wI .i64 ((6:Int)*e))+(4:Int))),vI (-1:Int)]) Z Z Z Z Z Z<|aN<|aV ?_;cases h;exact fP () Z Z (RV.cell 0 Z Z Z Z) .nil aG.nil
end Go.Proofs.YtlkhndebimcbbaaGreatDoor
namespace Go.Proofs.YtlkhndebimcbbaaGreatDoor
open Go Go.Sx
section
variable {g:GR} {d:List Int} {E:Nat} {par fp:Nat->Nat} (N:abe g d E par fp)
 include N
theorem Kb:iR 1000 g=some (3,true,false,6*(E:Int)+4,-1)∧vF 1000 g=some (3,true,false,6*(E:Int)+4,-1):=by
 obtain⟨a,b⟩:=(acv g).1 ⟨N.v,N.c⟩;have f:=N.v.n24;have h:=N.en;have e:wI .i64 (wI .i64 (6*(E:Int))+4)=6*(E:Int)+4:=by rw[show wI .i64 (6*(E:Int))=6*(E:Int)from wr (by omega) (by omega),wr (by omega) (by omega)]
 constructor
 ·unfold iR tP;rw[show dC 1000 (g.1,g.2)=some true from a,bD Z,bD Z,if_neg (by simp),show iJ 1000 (g.1,g.2) 0=some (E:Int)from N.ecc,bD Z,e]
 ·unfold vF EN;rw[show hZ 1000 (g.1,g.2)=some true from b,bD Z,bD Z,if_neg (by simp),show gC 1000 (g.1,g.2) 0=some (E:Int)from N.refEcc,bD Z,e]
end
end Go.Proofs.YtlkhndebimcbbaaGreatDoor
namespace Go.Proofs.YtlkhndebimcbbaaGreatDoor
open Go.Sx
def tK (U:Nat) (a:yU) (b:cD) (c:bF):Option Bool:=
 Option.bind (nS U ((a.1,a.2.1,a.2.2)) ((b.1,b.2)) c) λd=>(some (decide (d=(0:Int))))
theorem aeK:aW Tryz.prog 38:=Tryz.call38
theorem LS (U:Nat) {a:yU} {g:cD} {j:bF} (b:Value)  (d:Value)  (e:Value)  (f:Value)  (k:kA)  (i:Value)  (m:q_) (r:Bool) (h:tK U a g j=some r):
  aY Tryz.prog 38 #[Value.agg #[vS (a.1),b,d],Value.agg #[e,f],i] [Sl aS b a.2.1,Sl aL d a.2.2,PF (Value.agg #[vS a.1,b,d]),Sl bN e g.1,S2 bA f k g.2,S2 bN i m j] (λx:Unit=>vB (r)) (λx l=>l) (λ_ l=>l):=by
 refine aY.of Tryz.func38 Z Tryz.ntmps38 Z λc=>?_;refine aX<|aH (aO.box (cs:=[vS (a.1),b,d]) Z Z) Z λp=>aH (aO.box (cs:=[e,f]) Z Z) Z λq=>aD Z<|aN<|aX<|dN 1 Z<|dN 0 Z<|aA Z<|eZ h λn o h=>aH (zBa Yp (Fc U b d e f k i m n o) Z (mT [0,1,2,3,4,5] Z)) Z λs=>cS Z<|aD Z<|aN<|aV ?_;cases h;exact rX Z
def AP (U:Nat) (b:yU) (d:cD) (e:bF) (a:fV×Int×bF):Option (Int):=
 Option.bind (dJ U ((((b.1,b.2.1,b.2.2)),((((b.1,b.2.1,b.2.2)),((d.1,d.2)),a.2.1,a.2.2)),a.1)) e) λc=>(some (c))
def wL (U:Nat) (b:yU) (c:cD) (e:bF) (a:Int×bF):Option (Int):=
 Option.bind (kF U ((b.1,b.2.1,b.2.2)) ((c.1,c.2))) λd=>(AP U b c e (d,a.1,a.2))
def rY (U:Nat) (b:yU) (c:cD) (d:bF) (a:Int×bF):Option (Int):=
 wL U b c d (a.1,a.2)
def wM (d:cD) (a:Int×Int×bF) (b:(Int×Int×bF)->Option (Int)) (c:bF):Option (Int):=
 b ((wI .i64 (a.1+(1:Int))),(max a.2.1 (at' d.1 a.1)),c)
def oU (U:Nat) (d:cD) (a:Int×Int×bF) (e:(Int×Int×bF)->Option (Int)) (b:Int×bF) (f:(Int×bF)->Option (Int)):Option (Int):=
 if b.1<((at' d.2 a.1).length:Int)then(ck (0<=b.1∧b.1<((at' d.2 a.1).length:Int)) (ck (0<=a.1∧a.1<(b.2.length:Int)) (Option.bind (nR U ((d.1,d.2)) ((at' (at' d.2 a.1) b.1).1) a.1) λc=>(ck (((at' b.2 a.1).length:Int)+(List.length ([c]):Int)<=1099511627) (ck (0<=a.1∧a.1<((List.set b.2 (Int.toNat a.1) ((at' b.2 a.1)++[c])).length:Int)) (f ((wI .i64 (b.1+(1:Int))),(List.set b.2 (Int.toNat a.1) ((at' b.2 a.1)++[c])))))))))else(wM d a e (b.2))
def kN (U:Nat) (d:yU) (c:cD) (e:bF) (a:Int×Int×bF) (b:(Int×Int×bF)->Option (Int)):Option (Int):=
 if a.1<(c.2.length:Int)then(ck (0<=a.1∧a.1<(c.2.length:Int)) (ck (0<=a.1∧a.1<(c.1.length:Int)) (bI (oU U c a b) U ((0:Int),a.2.2))))else(rY U d c e (a.2.1,a.2.2))
def qV (U:Nat) (b:yU) (a:cD) (c:bF):Option (Int):=
 Option.bind (tK U ((b.1,b.2.1,b.2.2)) ((a.1,a.2)) c) λd=>(if(!d)=true then(some (0:Int))else(ck (0<=(a.2.length:Int)∧(a.2.length:Int)<=1099511627) (bI (kN U b a c) U ((0:Int),(0:Int),(List.replicate (Int.toNat (a.2.length:Int)) ([]:aR))))))
theorem aeA:aW Tryz.prog 18:=Tryz.call18
theorem LW (U:Nat) {d:yU} {o:cD} {O:bF} (f:Value)  (g:Value)  (p:Value)  (m:Value)  (Q:kA)  (R:Value)  (z6:q_) (r:Int) (h:qV U d o O=some r):
  aY Tryz.prog 18 #[Value.agg #[vS (d.1),f,g],Value.agg #[p,m],R] [Sl aS f d.2.1,Sl aL g d.2.2,PF (Value.agg #[vS d.1,f,g]),Sl bN p o.1,S2 bA m Q o.2,S2 bN R z6 O] (λx:Unit=>vU (r)) (λx l=>l) (λ_ l=>l):=by
 refine aY.of Tryz.func18 Z Tryz.ntmps18 Z λc=>?_;refine aX<|aH (aO.box (cs:=[vS (d.1),f,g]) Z Z) Z λb1=>aH (aO.box (cs:=[p,m]) Z Z) Z λb2=>aD Z<|aN<|aK<|aX<|dN 1 Z<|dN 0 Z<|aA Z<|eZ h λr3 w4 h=>aH (zBa aeK (LS U f g p m Q R z6 r3 w4) Z (mT [0,1,2,3,4,5] Z)) Z λx5=>aB (lU Z) Z<|aN ?_;refine Am h Z (λ_ h=>?_) λ_ h=>?_
 ·refine aX<|aD Z<|aN<|aV<|aJ ?_;cases h;exact rX Z
 refine cL<|aX<|dN 1 Z<|dN 0 Z<|Bp (A:=fV×Int×bF) (B:=Nat×Nat×Value×List Value×Value×List Value) (vs:=[Value.agg #[vS (d.1),f,g],Value.agg #[p,m]]) (λt=>AP U d o O t=some r) (λt b=>vP b.1) (λt b=>[bV b.1 [vS (d.1),f,g,vP b.2.1,b.2.2.1] 106,Ar dD.raw b.2.2.1 b.2.2.2.1,lK cG b.2.2.2.1 t.1,bV b.2.1 [vS (d.1),f,g,p,m,vI (t.2.1),b.2.2.2.2.1] 134,Ar dD.raw b.2.2.2.2.1 b.2.2.2.2.2,lK bZ b.2.2.2.2.2 t.2.2]) (λt b=>[Sl aS f d.2.1,Sl aL g d.2.2,PF (Value.agg #[vS d.1,f,g]),Sl bN p o.1,S2 bA m Q o.2,S2 bN R z6 O]) (sN.fn (show aW Tryz.prog 39 from Tryz.call39) Z) Tryz.func39 Z Tryz.ntmps39 Z Z ?_ ?_
 ·refine aX<|aH (aO.box (cs:=[vS (d.1),f,g]) Z Z) Z λI=>aH (aO.box (cs:=[p,m]) Z Z) Z λJ=>aD Z<|aN<|aK ?_;refine JR.start [0,0,0,6,0,0,62,127,255,511] 7 mixedOrders (by decide +kernel) ?_;refine zBd (by exact rfl) ?_;refine mA 1 Z<|mA 1 Z<|mA 0 Z<|NQ (A:=Int×bF) (B:=Nat×Value×List Value) (vs:=[Value.agg #[vS (d.1),f,g],Value.agg #[p,m]]) (λu=>wL U d o O u=some r) (λu n=>vP n.1) (λu n=>[bV n.1 [vS (d.1),f,g,p,m,vI (u.1),n.2.1] 134,Ar dD.raw n.2.1 n.2.2,lK bZ n.2.2 u.2,bV J [p,m] 28,bV I [vS (d.1),f,g] 57]) (λu n=>[Sl aS f d.2.1,Sl aL g d.2.2,PF (Value.agg #[vS d.1,f,g]),Sl bN p o.1,S2 bA m Q o.2,S2 bN R z6 O]) Z Z Z (sN.fn (show aW Tryz.prog 64 from Tryz.call64) Z) Tryz.func64 Z Tryz.ntmps64 Z Z (λ_ _=>(uB [([4],[])] Z)) ?_ ?_
  ·refine aX<|aH (aO.box (cs:=[vS (d.1),f,g]) Z Z) Z λao=>aH (aO.box (cs:=[p,m]) Z Z) Z λF=>aD Z<|aN<|aK ?_;refine JR.start [0,0,0,4,12,28,63,127,255] 6 mixedOrders (by decide +kernel) ?_;refine zBd (by exact rfl) ?_;refine mA 1 Z<|mA 0 Z<|dB Z<|iZ 0 Z<|bJ Z .nil (jS 4 Z) (gU Z (aE.fact 0 Z) Z) aM.z<|cT h λag h=>JR.stp (w_ bZ (Int.toNat (o.2.length:Int)))<|zBc Z Z Z (mL (e:=dD.raw) (lB) Z Z Z Z ag Z Z Z) Z (λs=>(uB [([2],[]),([3],[])] Z)) λs=>bO 6 Z Z<|cH (Know.one (aE.sl (bW (i:=0) (j:=1) Z Z dK))) λX=>?_;refine aB (NU (r:=Value.agg #[vS (d.1),f,g,p,m,vI (0:Int),s]) Z Z Z (by intro w;simp[Instr.build,Instr.fill,dR,cW,cO,dU,dV,cX,eY,eO X])) Z ?_;refine aH (aO.box (cs:=[vS (d.1),f,g,p,m,vI (0:Int),s]) Z Z) Z λv=>aD Z<|aN<|aK<|CR (B:=fO) (λy=>rY U d o O y=some r) (λy K=>[(5,vP v)]) (λy K=>[bV v [vS (d.1),f,g,p,m,vI (y.1),s] 134,Ar dD.raw s K,lK bZ K y.2,bV J [p,m] 28,bV I [vS (d.1),f,g] 57]) ?_ ?_
   ·refine aX<|bX Z<|dQ 3 Z<|aB (gU Z (aE.fact 4 Z) Z) Z<|aA Z<|aN<|aT<|dX (B:=fO) (kN U d o O) (λa G=>[(3,vP F),(5,vP v),(19,m),(20,vI (o.2.length:Int)),(21,vI (a.1))]) (λa G=>[bV v [vS (d.1),f,g,p,m,vI (a.2.1),s] 134,Ar dD.raw s G,lK bZ G a.2.2,bV F [p,m] 28,bV J [p,m] 28,bV I [vS (d.1),f,g] 57]) ((0:Int),(0:Int),(List.replicate (Int.toNat (o.2.length:Int)) ([]:aR))) (List.replicate (Int.toNat (o.2.length:Int)) (lB)) h SF (a_.ix [0,1,2,3,5,6] Z Z) ?_;intro ac a G h;refine aX<|cM Z<|aN<|aK ?_;refine fD h Z (λh=>?_) λh=>?_
    ·refine cL<|aK<|CR (B:=fO) (λE=>wM o a (bI (kN U d o O) ac) E=some r) (λE L=>[(3,vP F),(5,vP v),(19,m),(20,vI (o.2.length:Int)),(21,vI (a.1))]) (λE L=>[bV v [vS (d.1),f,g,p,m,vI (max a.2.1 (at' o.1 a.1)),s] 134,Ar dD.raw s L,lK bZ L E,bV F [p,m] 28,bV J [p,m] 28,bV I [vS (d.1),f,g] 57]) ?_ ?_
     ·refine aT<|aX<|aA Z<|cT h λC h=>aB (cC Z Z (aE.fact 4 Z) Z Z C) Z<|aB (b_ Z (aE.fact 4 Z) Z Z C) Z<|aD Z<|aD Z<|aN<|aK ?_;refine JR.start [0,0,2,6,14,0,32,0,224,480,1022,2047,4095,8191] 11 mixedOrders (by decide +kernel) ?_;refine zBd (by exact rfl) ?_;refine bG Z<|bG Z<|jD Z (bY Z)<|dB Z<|iZ 0 Z<|dB Z<|iZ 3 Z<|bG Z<|cT h λaa h=>bJ Z .nil (jS 3 Z) (aZ Z Z (aE.fact 0 Z) Z Z aa) aM.z<|bJ Z .nil (jS 3 Z) (bR Z (aE.fact 0 Z) Z Z Z cR aa) aM.z<|jD Z (IZ Z Z)<|bO 11 Z Z<|aB (bY Z) Z<|bX Z<|iC 0 Z Z Z Z Z Z<|aN<|aX<|aA Z<|aB (fX Z (zBb (aE.fact 4 Z) C.1 C.2) Z) Z<|aA Z<|aN<|aT<|dX (B:=fO) (oU U o a (bI (kN U d o O) ac)) (λq H=>[(3,vP F),(5,vP v),(6,vI (a.1)),(19,m),(20,vI (o.2.length:Int)),(21,vI (a.1)),(39,(at' Q a.1).1),(40,vI ((at' o.2 a.1).length:Int)),(41,vI (q.1))]) (λq H=>[bV v [vS (d.1),f,g,p,m,vI (max a.2.1 (at' o.1 a.1)),s] 134,Ar dD.raw s H,lK bZ H q.2,bV F [p,m] 28,bV J [p,m] 28,bV I [vS (d.1),f,g] 57]) ((0:Int),a.2.2) (G) h SF (a_.refl _) ?_;intro aq q H h;refine aX<|cM Z<|aN<|aK ?_;refine fD h Z (λh=>?_) λh=>?_
      ·refine cL<|aK<|aT<|aX<|cT h λab h=>aB (aZ Z Z (zBb (aE.fact 4 Z) C.1 C.2) Z Z ab) Z<|aB (iX (cs:=[vI ((at' (at' o.2 a.1) q.1).1),vI ((at' (at' o.2 a.1) q.1).2)]) Z (zBb (aE.fact 4 Z) C.1 C.2) bS Z Z Z Z ab) Z<|aH (aO.alloc (cs:=VO) Z Z) Z λap=>bQ 0 (vs:=[vI ((at' (at' o.2 a.1) q.1).1),vI ((at' (at' o.2 a.1) q.1).2)]) Z Z Z Z Z Z<|aN ?_;refine JR.start [0,1,3,7,0,0,32,96,224,0,992,2016,0,0,8192,0,61440,126976,262112,524287,1048575] 19 mixedOrders (by decide +kernel) ?_;refine zBd (by exact rfl) ?_;refine bG Z<|jD Z (bY Z)<|dB Z<|iZ 1 Z<|bG Z<|bG Z<|jD Z (bY Z)<|dB Z<|iZ 1 Z<|bG Z<|cT h λP h=>eJ (dM 3 Z) λS=>?_;refine bJ Z (a_.cons 2 Z .nil) .nil (iS 0 Z Z Z Z Z P.1 (by have q1:=P.2;have q2:=S;(try simp only[zA2]at q1);(try simp only[zA2]at q2);(try simp only[zA2]);omega)) aM.z ?_;refine eJ (dM 3 Z) λT=>bJ Z (a_.cons 2 Z .nil) .nil (mI 0 Z Z T Z Z P) aM.z<|mA 4 Z<|dB Z<|iZ 0 Z<|bG Z<|eZ h λM am h=>zBc Z Z Z (zBa Ys (Fb U p m Q M am) Z (mT [3,4] Z)) Z (λan=>(uB [([2],[]),([2],[]),([1],[]),([1],[])] Z)) λan=>zBc Z Z Z (cA (e:=bZ) ([M]) [(0,vI (M))] Z Z Z Z (l_ (vI (M)) Z) Z Z Z) Z (λaj=>(uB [([3],[]),([3],[]),([2],[]),([2],[])] Z)) λaj=>cT h λah h=>zBc Z Z Z (oL 4 dK Z Z Z (bB (aE.res 0 Z) dK) Z Z Z Z P ah Z) Z (λae=>(uB [([2],[])] Z)) λae=>bO 19 Z Z<|cT h λD h=>cH (dM 4 Z) λV=>?_;refine aB (iS 3 Z Z Z Z Z D.1 (by have q1:=D.2;have q2:=V;(try simp only[zA2]at q1);(try simp only[zA2]at q2);(try simp only[zA2]);omega)) Z ?_;refine cH (Aj 4 (k:=a.1) Z ⟨D.1,by first|exact D.2|simpa using D.2⟩) λY=>?_;refine pI 3 4 ⟨D.1,by first|exact D.2|simpa using D.2⟩ Z Z Z Z Z (by simp) Y Z ?_;refine eM<|mN<|aQ<|cJ Z<|aA Z<|aN ?_;exact lS ((wI .i64 (q.1+(1:Int))),(List.set q.2 (Int.toNat a.1) ((at' q.2 a.1)++[M]))) (List.set H (Int.toNat a.1) ae) h SF (a_.ix [2,3,4,5,6,7] Z Z) (aG.refl _ _)
      refine pH<|d_<|d_<|u_<|mN ?_;exact gJ (q.2) (H) h SF Z
     intro E L h;unfold wM at h;refine aQ<|cJ Z<|aA Z<|aN ?_;exact xR ((wI .i64 (a.1+(1:Int))),(max a.2.1 (at' o.1 a.1)),E) (L) h SF Z
    refine e_ ?_;exact cF (a.2.1,a.2.2) (G) h SF (a_.ix [0,1,2,4,5] Z Z) (aG.refl _ _)
   intro y K h;unfold rY at h;refine aX<|aA Z<|aD Z<|aN<|aV ?_;exact sL (y.1,y.2) (v,s,K) h (.inl Z) (GX.r1 Z (RV.tmp Z)) Z (a_.refl _) (aG.refl _ _)
  intro u n h;unfold wL at h;refine bJ Z (a_.cons 4 Z .nil) .nil (fJ 0 Z Z Z Z) (aM.h (a_.ix [1] Z Z) .nil aM.z)<|bJ Z (a_.cons 3 Z .nil) .nil (fJ 0 Z Z Z Z) (aM.h (a_.ix [0] Z Z) .nil aM.z)<|eZ h λad al h=>zBc Z Z Z (zBa S_ (BK U f g p m Q ad al) Z (mT [0,1,2,3,4] Z)) Z (λN=>(uB [([6],[])] Z)) λN=>bO 7 Z Z<|cH (Know.one (aE.sl (bW (i:=0) (j:=1) Z Z bS))) λW=>?_;refine aB (NU (r:=Value.agg #[vS (d.1),f,g,Value.pointer (some ⟨n.1,0,none⟩),N.1]) Z Z Z (by intro w;simp[Instr.build,Instr.fill,dR,cW,cO,dU,dV,cX,eY,eO W])) Z ?_;refine aH (aO.box (cs:=[vS (d.1),f,g,vP n.1,N.1]) Z Z) Z λaf=>aD Z<|aN<|aV ?_;exact sL (ad,u.1,u.2) (af,n.1,N.1,N.2,n.2.1,n.2.2) h (.inl Z) (GX.r1 Z (RV.tmp Z)) Z (a_.ix [0,1,2,3,4,5] Z Z) (aG.refl _ _)
 intro t b h;refine aA Z<|eZ h λai ak h=>aH (zBa SX (qY U b.1 f g b.2.1 f g p m Q b.2.2.2.2.1 (List.zip b.2.2.2.2.2 t.2.2) b.2.2.1 (List.zip b.2.2.2.1 t.1) R z6 ai ak) Z (aG.cons (aE.res 0 Z) (aG.cons (aE.fact 0 Z) (aG.cons (aE.fact 1 Z) (aG.cons (aE.res 3 Z) (aG.cons (aE.fact 0 Z) (aG.cons (aE.fact 1 Z) (aG.cons (aE.fact 3 Z) (aG.cons (aE.fact 4 Z) (aG.cons (bW (i:=4) (j:=5) Z Z dK) (aG.cons (bW (i:=1) (j:=2) Z Z bS) (mT [5] Z)))))))))))) Z λar=>aD Z<|aN<|aV ?_;cases h;exact rX Z
end Go.Proofs.YtlkhndebimcbbaaGreatDoor
namespace Go.Proofs.YtlkhndebimcbbaaGreatDoor
open Go Go.Sx
theorem Xf {g:GR} (d:VG g) (p:sW) (c:bF):
  bI (kN 1000 p g c) 1000 ((0:Int),(0:Int),(List.replicate (Int.toNat (g.2.length:Int)) ([]:aR)))=rY 1000 p g c (iO g g.2.length,fK g):=by
 have x:=d.n24;have q:=d.len;let f:Nat->aR:=λv=>(List.range (row g v).length).map (Bw g v);let Q:Nat->bF:=λk=>(List.range k).map f++List.replicate (g.2.length - k) [];have n:∀k,k<=g.2.length->(Q k).length=g.2.length:=λk h=>by simp[Q];omega
 rw[show List.replicate (Int.toNat (g.2.length:Int)) ([]:aR)=Q 0 by simp[Q]];refine eL (step:=kN 1000 p g c) g.2.length (λk=>((k:Int),iO g k,Q k)) (λk b h=> ?_) (λb=> ?_) 1000 (by omega)
 ·have o:=(d.node k h).deg;have r:k<(Q k).length:=by rw[n k (by omega)];exact h
  unfold kN;dsimp only;rw[if_pos (by omega),cB (by omega),cB (by omega)];let a:Nat->aR:=λj=>(List.range j).map (Bw g k);have w:Q k=(Q k).set k (a 0):=by
   have:at' (Q k) (k:Int)=a 0:=by
    rw[lX r];simp[Q,a]
   rw[<-this];exact(GK (Q k) (k:Int) (by simpa using r) (by omega)).symm
  rw[show(Q k)=(Q k).set k (a 0)from w];have e:∀A:bF,A.length=g.2.length->bI (oU 1000 g ((k:Int),iO g k,(Q k).set k (a 0)) b) 1000 ((0:Int),A.set k (a 0))=b (((k+1:Nat):Int),iO g (k+1),A.set k (f k)):=by
   intro A B;refine eL (step:=oU 1000 g ((k:Int),iO g k,(Q k).set k (a 0)) b) (K:=b (((k+1:Nat):Int),iO g (k+1),A.set k (f k))) (row g k).length (λj=>((j:Int),A.set k (a j))) (λj l z=> ?_) (λl=> ?_) 1000 (by omega)
   ·obtain⟨u,s,i⟩:=d.to h z;have y:=(d.node u s).deg;have t:at' (A.set k (a j)) (k:Int)=a j:=by rw[tE _ _ _ _ (by omega),if_pos Z]
    have m:(a j).length=j:=by simp[a]
    unfold oU;dsimp only;rw[if_pos (show(j:Int)<((row g k).length:Int) by omega),cB (show 0<=(j:Int)∧(j:Int)<((row g k).length:Int) by omega),cB (by simp only[zA2];omega),show at' (at' g.2 (k:Int)) (j:Int)=fQ (row g k) j from rfl,i,bD (show nR 1000 _ (u:Int) (k:Int)=_ from Nl g u (k:Int) s (by omega)),t,cB (by rw[m];simp;omega),cB (by simp only[zA2];omega),fM (by omega),zAd,List.set_set];have:a j++[AM (row g u) (k:Int)]=a (j+1):=by
     simp only[a];rw[List.range_succ,List.map_append,List.map_singleton,Bw,i,zAd]
    rw[this]
   ·unfold oU wM;dsimp only;rw[if_neg (show¬((row g k).length:Int)<((row g k).length:Int)from Int.lt_irrefl _),fM (by omega)];rfl
  have:=e (Q k) (n k (by omega));rw[vG f [] g.2.length k h]at this;exact this
 ·unfold kN;dsimp only;rw[if_neg (by omega)];simp[Q,fK,f]
theorem LG {p:sW} {g:GR} {R:List RL} (a:VG g) (d:tC g p.2.1) (i:p.2.2.map zJ=En R) (f:yO p.2.1.length R=true) {c:bF} (b:DY g c p.2.1):qV 1000 p g c=some ((enD (aU p g) R c:Nat):Int):=by
 have e:=a.n24;unfold qV;have h:tK 1000 p g c=some true:=by
  unfold tK;rw[bD (show nS 1000 _ _ c=_ from Ql a d b)];rfl
 rw[bD (show tK 1000 _ _ c=_ from h),if_neg (by decide),cB (by omega),Xf a p c];unfold rY wL AP;rw[bD (show kF 1000 _ _=_ from L_ a d)];dsimp only;rw[bD (show dJ 1000 (p,(p,g,iO g g.2.length,fK g),Ct g p.2.1) c=some ((enD (aU p g) R c:Nat):Int)from KQ a b.shape i f (by simp[Ct]))]
end Go.Proofs.YtlkhndebimcbbaaGreatDoor
namespace Go.Proofs.YtlkhndebimcbbaaGreatDoor
open Go.Sx
def zX (U:Nat) (a:ByteArray):Option ((ByteArray×Int×Int×Int×Int×Int)):=
 some ((a,(2:Int),(0:Int),(0:Int),(0:Int),(0:Int)))
theorem Yn:aW Tryz.prog 45:=Tryz.call45
theorem Gk (U:Nat) {a:ByteArray} (r:RJ) (h:zX U a=some r):
  aY Tryz.prog 45 #[vS (a)] [] (λx:Unit=>Value.agg #[vS (r.1),vI (r.2.1),vI (r.2.2.1),vI (r.2.2.2.1),vI (r.2.2.2.2.1),vI (r.2.2.2.2.2)]) (λx l=>l) (λ_ l=>l):=by
 refine aY.of Tryz.func45 Z Tryz.ntmps45 Z λc=>?_;unfold zX at h;refine aX<|aH (aO.alloc (cs:=vD3) Z Z) Z λb=>aN<|aX<|aA Z ?_;refine aB (Di (r:=Value.agg #[vS (a),vI (2:Int),vI (0:Int),vI (0:Int),vI (0:Int),vI (0:Int)]) Z Z (by intro w;simp[Instr.build,Instr.fill,dR,cW,cO,dU,dV,cX,eY])) Z ?_;refine bQ 0 (vs:=[vS (a),vI (2:Int),vI (0:Int),vI (0:Int),vI (0:Int),vI (0:Int)]) Z Z Z Z Z Z<|aN<|aV ?_;cases h;exact fP () Z Z (RV.cell 0 Z Z Z Z) .nil aG.nil
def HC (U:Nat)  : Option aaw:=
 Option.bind (HB U) λc=>(Option.bind (zX U (ByteArray.mk #[115])) λa=>(Option.bind (zX U (ByteArray.mk #[98])) λb=>(ck ((c.length:Int)+(List.length ([(a.1,a.2.1,a.2.2.1,a.2.2.2.1,a.2.2.2.2.1,a.2.2.2.2.2),(b.1,b.2.1,b.2.2.1,b.2.2.2.1,b.2.2.2.2.1,b.2.2.2.2.2)]):Int)<=1099511627) (some (c++([(a.1,a.2.1,a.2.2.1,a.2.2.2.1,a.2.2.2.2.1,a.2.2.2.2.2),(b.1,b.2.1,b.2.2.1,b.2.2.2.1,b.2.2.2.2.1,b.2.2.2.2.2)]))))))
theorem aeD:aW Tryz.prog 25:=Tryz.call25
theorem OZ (U:Nat)  (r:aax) (h:HC U  = some r):
  aY Tryz.prog 25 #[] [] (λx:Value=>x) (λx l=>Ar iV x r::l) (λ_ l=>l):=by
 refine aY.of Tryz.func25 Z Tryz.ntmps25 Z λc=>?_;refine aX<|aD Z<|aN<|aX<|eZ h λg j h=>aH (zBa aeM (OY U  g j) Z .nil) Z λn=>eZ h λa k h=>aH (zBa Yn (Gk U  a k) Z .nil) Z λo=>eZ h λb m h=>aH (zBa Yn (Gk U  b m) Z .nil) Z λp=>aH (cA (e:=iV) ([((a.1,a.2.1,a.2.2.1,a.2.2.2.1,a.2.2.2.2.1,a.2.2.2.2.2)),((b.1,b.2.1,b.2.2.1,b.2.2.2.1,b.2.2.2.2.1,b.2.2.2.2.2))]) [(0,Value.agg #[vS (a.1),vI (a.2.1),vI (a.2.2.1),vI (a.2.2.2.1),vI (a.2.2.2.2.1),vI (a.2.2.2.2.2)]),(1,Value.agg #[vS (b.1),vI (b.2.1),vI (b.2.2.1),vI (b.2.2.2.1),vI (b.2.2.2.2.1),vI (b.2.2.2.2.2)])] Z Z Z Z (KX (vS (a.1)) (vI (a.2.1)) (vI (a.2.2.1)) (vI (a.2.2.2.1)) (vI (a.2.2.2.2.1)) (vI (a.2.2.2.2.2)) (vS (b.1)) (vI (b.2.1)) (vI (b.2.2.1)) (vI (b.2.2.2.1)) (vI (b.2.2.2.2.1)) (vI (b.2.2.2.2.2))) Z Z Z) Z λi=>cT h λd h=>aH (eW 1 iW Z Z Z (bB (aE.res 0 Z) iW) Z Z Z Z d Z) Z λf=>aD Z<|aN<|aV ?_;cases h;exact fP (f) Z Z (RV.tmp Z) (a_.ix [1] Z Z) aG.nil
def Dy (U:Nat)  : Option aaw:=
 Option.bind (HC U) λc=>(Option.bind (tO U (ByteArray.mk #[120]) (15:Int) (0:Int) (0:Int)) λa=>(Option.bind (tO U (ByteArray.mk #[97]) (0:Int) (15:Int) (0:Int)) λb=>(ck ((c.length:Int)+(List.length ([(a.1,a.2.1,a.2.2.1,a.2.2.2.1,a.2.2.2.2.1,a.2.2.2.2.2),(b.1,b.2.1,b.2.2.1,b.2.2.2.1,b.2.2.2.2.1,b.2.2.2.2.2)]):Int)<=1099511627) (some (c++([(a.1,a.2.1,a.2.2.1,a.2.2.2.1,a.2.2.2.2.1,a.2.2.2.2.2),(b.1,b.2.1,b.2.2.1,b.2.2.2.1,b.2.2.2.2.1,b.2.2.2.2.2)]))))))
theorem ahQ:aW Tryz.prog 8:=Tryz.call8
theorem O_ (U:Nat)  (r:aax) (h:Dy U  = some r):
  aY Tryz.prog 8 #[] [] (λx:Value=>x) (λx l=>Ar iV x r::l) (λ_ l=>l):=by
 refine aY.of Tryz.func8 Z Tryz.ntmps8 Z λc=>?_;refine aX<|aD Z<|aN<|aX<|eZ h λg j h=>aH (zBa aeD (OZ U  g j) Z .nil) Z λn=>eZ h λa k h=>aH (zBa SV (BO U  a k) Z .nil) Z λo=>eZ h λb m h=>aH (zBa SV (BO U  b m) Z .nil) Z λp=>aH (cA (e:=iV) ([((a.1,a.2.1,a.2.2.1,a.2.2.2.1,a.2.2.2.2.1,a.2.2.2.2.2)),((b.1,b.2.1,b.2.2.1,b.2.2.2.1,b.2.2.2.2.1,b.2.2.2.2.2))]) [(0,Value.agg #[vS (a.1),vI (a.2.1),vI (a.2.2.1),vI (a.2.2.2.1),vI (a.2.2.2.2.1),vI (a.2.2.2.2.2)]),(1,Value.agg #[vS (b.1),vI (b.2.1),vI (b.2.2.1),vI (b.2.2.2.1),vI (b.2.2.2.2.1),vI (b.2.2.2.2.2)])] Z Z Z Z (KX (vS (a.1)) (vI (a.2.1)) (vI (a.2.2.1)) (vI (a.2.2.2.1)) (vI (a.2.2.2.2.1)) (vI (a.2.2.2.2.2)) (vS (b.1)) (vI (b.2.1)) (vI (b.2.2.1)) (vI (b.2.2.2.1)) (vI (b.2.2.2.2.1)) (vI (b.2.2.2.2.2))) Z Z Z) Z λi=>cT h λd h=>aH (eW 1 iW Z Z Z (bB (aE.res 0 Z) iW) Z Z Z Z d Z) Z λf=>aD Z<|aN<|aV ?_;cases h;exact fP (f) Z Z (RV.tmp Z) (a_.ix [1] Z Z) aG.nil
end Go.Proofs.YtlkhndebimcbbaaGreatDoor
namespace Go.Proofs.YtlkhndebimcbbaaGreatDoor
open Go Go.Sx
theorem agu:Dy 1000=some f_:=by kernel_rfl
abbrev pY (z:List wZ):sW:=(ByteArray.mk #[115,110,97,112,115,104,111,116],f_,z)
section
variable {g:GR} {d:List Int} {E:Nat} {par fp:Nat->Nat} (N:abe g d E par fp)
 include N
theorem ahY {z:List wZ} (b:z.map zJ=En RN) {c:List (List Int)} (a:DY g c f_):∃e:Int,qV 1000 (pY z) g c=some e∧e≠0:=by
 have h:=LG (p:=pY z) N.v (Jr N.v) b Rj a;rw[acl]at h;refine⟨_,h,λe=>YL (p:=pY z) N.v N.dist N.d0 N.p a ?_⟩
 exact Int.natCast_eq_zero.1 e
end
end Go.Proofs.YtlkhndebimcbbaaGreatDoor
namespace Go.Proofs.YtlkhndebimcbbaaGreatDoor
open Go.Sx
def vT  (a:Bool):Option Bool:=
 some (a)
def Ag (b:Bool) (a:Bool):Option Bool:=
 if a=true then(vT  (true))else(vT  ((!b)))
def sK (b:Bool×Int) (a:(Bool×Int)->Option Bool) (c:Bool) (d:Bool):Option Bool:=
 if d=true then(some (false))else(a (c,(wI .i64 (b.2+(1:Int)))))
def sJ (d:Ef) (e:Ia) (a:Bool×Int) (b:(Bool×Int)->Option Bool) (c:Bool):Option Bool:=
 if(!c)=true then(ck (0<=a.2∧a.2<(d.length:Int)) (if e.2.2.2.1<((at' d a.2).2.2.2.1)then(sK a b c (true))else(if(0:Int)<=e.2.2.2.2 then(ck (0<=a.2∧a.2<(d.length:Int)) (sK a b c (decide (e.2.2.2.2<((at' d a.2).2.1)))))else(sK a b c (false)))))else(sK a b c (false))
def Ah (d:List (Bool)) (e:Ef) (f:Ia) (a:Bool×Int) (b:(Bool×Int)->Option Bool) (c:Bool):Option Bool:=
 if c=true then(some (false))else(if a.1=true then(sJ e f a b (true))else(ck (0<=a.2∧a.2<(d.length:Int)) (sJ e f a b ((at' d a.2)))))
def mX (c:List (Bool)) (d:Ef) (e:Ia) (f:Bool) (a:Bool×Int) (b:(Bool×Int)->Option Bool):Option Bool:=
 if a.2<(c.length:Int)then(if a.1=true then(ck (0<=a.2∧a.2<(c.length:Int)) (Ah c d e a b ((!at' c a.2))))else(Ah c d e a b (false)))else(Ag f (a.1))
def Af (U:Nat) (b:List (Bool)) (c:Ef) (d:Ia) (e:Bool) (a:Bool):Option Bool:=
 if a=true then(some (false))else(bI (mX b c d e) U (false,(0:Int)))
def Bf (U:Nat) (a:List (Bool)) (b:Ef) (c:Ia) (d:Bool):Option Bool:=
 if(a.length:Int)≠(b.length:Int)then(Af U a b c d (true))else(Af U a b c d (decide ((a.length:Int)=(0:Int))))
theorem aeB:aW Tryz.prog 20:=Tryz.call20
theorem Pf (U:Nat) {q:List (Bool)} {t:Ef} {a:Ia} {e:Bool} (v:Value)  (w:Value) (r:Bool) (h:Bf U q t a e=some r):
  aY Tryz.prog 20 #[v,w,Value.agg #[vI (a.1),vB (a.2.1),vB (a.2.2.1),vI (a.2.2.2.1),vI (a.2.2.2.2)],vB (e)] [Sl RBo v q,Sl sO w t] (λx:Unit=>vB (r)) (λx l=>l) (λ_ l=>l):=by
 refine aY.of Tryz.func20 Z Tryz.ntmps20 Z λc=>?_;refine aX<|aH (aO.box (cs:=[vI (a.1),vB (a.2.1),vB (a.2.2.1),vI (a.2.2.2.1),vI (a.2.2.2.2)]) Z Z) Z λs=>aD Z<|aN<|aK<|aK<|dW (λy=>Af U q t a e y=some r) (λy K=>[(0,v),(1,w),(3,vB (e)),(6,vP s),(20,vB (y))]) (λy K=>[bV s [vI (a.1),vB (a.2.1),vB (a.2.2.1),vI (a.2.2.2.1),vI (a.2.2.2.2)] 51]) ?_ ?_
 ·refine aQ<|aA Z<|jN (aE.fact 0 Z) Z<|aA Z<|jN (aE.fact 1 Z) Z<|rB Z<|aA Z ?_;refine Eo h Z (λ_ h=>?_) λ_ h=>?_
  ·refine aI Z<|aI Z<|aI Z<|dO Z<|aN ?_;exact gJ (true) () h SF Z
  refine cP Z<|aP Z (fX Z (aE.fact 0 Z) Z) Z<|aP Z (MH Z Z) Z<|fH Z<|aN ?_;exact gJ (decide ((q.length:Int)=(0:Int))) () h SF Z
 intro y K h;refine Am h Z (λ_ h=>?_) λ_ h=>?_
 ·refine aX<|aD Z<|aN<|aV<|aJ ?_;cases h;exact rX Z
 refine cL<|aX<|aD Z<|aN<|aK<|dW (λA=>Ag e A=some r) (λA L=>[(3,vB (e)),(9,vB (A))]) (λA L=>[]) ?_ ?_
 ·refine aX<|aD Z<|aN<|aT<|dX (mX q t a e) (λb C=>[(0,v),(1,w),(3,vB (e)),(6,vP s),(9,vB (b.1)),(10,vI (b.2))]) (λb C=>[bV s [vI (a.1),vB (a.2.1),vB (a.2.2.1),vI (a.2.2.2.1),vI (a.2.2.2.2)] 51]) (false,(0:Int)) () h SF (a_.refl _) ?_;intro u b C h;refine aK<|aX<|aA Z<|aA Z<|jN (aE.fact 0 Z) Z<|cM Z<|aN ?_;refine fD h Z (λh=>?_) λh=>?_
  ·refine cL<|aK<|aT<|aK<|aK<|dW (λg=>Ah q t a b (bI (mX q t a e) u) g=some r) (λg D=>[(0,v),(1,w),(3,vB (e)),(6,vP s),(9,vB (b.1)),(10,vI (b.2)),(34,vB (g))]) (λg D=>[bV s [vI (a.1),vB (a.2.1),vB (a.2.2.1),vI (a.2.2.2.1),vI (a.2.2.2.2)] 51]) ?_ ?_
   ·refine aQ<|aA Z<|aA Z ?_;refine rD (by exact rfl) (by exact rfl) (λp=>?_) (λp=>?_)
    ·have h:=IA p h;refine cP Z<|cP Z<|cT h λJ h=>aP Z (aZ Z Z (aE.fact 0 Z) Z Z J) Z<|aP Z (bR Z (aE.fact 0 Z) Z Z Z adE J) Z<|aP Z (lU Z) Z<|dO Z<|aN ?_;exact gJ ((!at' q b.2)) () h SF Z
    have h:=Dw p h;refine aI Z<|aI Z<|aI Z<|aI Z<|aI Z<|fH Z<|aN ?_;exact gJ (false) () h SF Z
   intro g D h;refine Am h Z (λ_ h=>?_) λ_ h=>?_
   ·refine aX<|aD Z<|aN<|aV<|aJ<|bM<|aJ<|aJ<|bM<|aJ ?_;cases h;exact rX Z
   refine cL<|aK<|dW (λd=>sJ t a b (bI (mX q t a e) u) d=some r) (λd E=>[(0,v),(1,w),(3,vB (e)),(6,vP s),(9,vB (d)),(10,vI (b.2))]) (λd E=>[bV s [vI (a.1),vB (a.2.1),vB (a.2.2.1),vI (a.2.2.2.1),vI (a.2.2.2.2)] 51]) ?_ ?_
   ·refine aQ<|aA Z<|aA Z ?_;refine rD (by exact rfl) (by exact rfl) (λo=>?_) (λo=>?_)
    ·have h:=IA o h;refine aI Z<|aI Z<|aI Z<|aI Z<|dO Z<|aD Z<|aN ?_;exact gJ (true) () h SF Z
    have h:=Dw o h;refine cP Z<|cP Z<|cT h λI h=>aP Z (aZ Z Z (aE.fact 0 Z) Z Z I) Z<|aP Z (bR Z (aE.fact 0 Z) Z Z Z adE I) Z<|fH Z<|aD Z<|aN ?_;exact gJ ((at' q b.2)) () h SF Z
   intro d E h;unfold sJ at h;refine aK<|dW (λi=>sK b (bI (mX q t a e) u) d i=some r) (λi F=>[(0,v),(1,w),(3,vB (e)),(6,vP s),(9,vB (d)),(10,vI (b.2)),(68,vB (i))]) (λi F=>[bV s [vI (a.1),vB (a.2.1),vB (a.2.2.1),vI (a.2.2.2.1),vI (a.2.2.2.2)] 51]) ?_ ?_
   ·refine JR.start [0,1,3,7,7,31,63,127,7,263,1023,2047,4095,8191,16383,32767,65535,65535,262143,524287,1048575,65535,2162687,8388607,16777215,33554431,67108863] 23 mixedOrders (by decide +kernel) ?_;refine zBd (by exact rfl) ?_;refine bG Z<|jD Z (lU Z)<|bG Z ?_;refine JR.guard (by exact rfl) (by exact rfl) (by exact rfl) (λk=>?_) (λk=>?_)
    ·have h:=IA k h;refine eD Z .nil .nil (fY Z) aM.z<|eD Z .nil .nil (fY Z) aM.z<|cT h λG h=>eD Z .nil (jS 1 Z) (aZ Z Z (aE.fact 0 Z) Z Z G) aM.z<|eD Z .nil .nil (gF Z Z Z Z Z) aM.z<|eD Z .nil (jS 1 Z) (jJ Z (aE.fact 0 Z) Z Z Z FM G) aM.z<|eD Z .nil .nil (c_ Z Z Z Z Z) aM.z<|eD Z (a_.cons 0 Z .nil) .nil (eB 0 Z Z Z Z Z) aM.z<|eD Z .nil .nil (xQ Z Z) aM.z<|eD Z .nil .nil (fY Z) aM.z ?_;refine Ft (by exact rfl) (by exact rfl) (by exact rfl) (λm=>?_) (λm=>?_)
     ·have h:=IA m h;refine bT Z Z Z Z<|bT Z Z Z Z<|bT Z Z Z Z<|bT Z Z Z Z<|yY (h:= ?_);refine yY (h:= ?_);refine yY (h:= ?_);refine yY (h:= ?_);refine yY (h:= ?_);refine yY (h:= ?_);refine yY (h:= ?_);refine bO 23 Z Z<|aei (h:= ?_);refine aI Z<|aP Z (NV Z Z) Z<|dO Z<|aN ?_;exact gJ (true) () h SF Z
     have h:=ifN m h;refine eD Z .nil .nil (c_ Z Z Z Z Z) aM.z<|eD Z (a_.cons 0 Z .nil) .nil (eB 0 Z Z Z Z Z) aM.z<|eD Z .nil .nil (Bu Z Z) aM.z<|eD Z .nil .nil (fY Z) aM.z ?_;refine Ft (by exact rfl) (by exact rfl) (by exact rfl) (λn=>?_) (λn=>?_)
     ·have h:=IA n h;refine eD Z .nil .nil (fY Z) aM.z<|eD Z .nil .nil (fY Z) aM.z<|cT h λH h=>eD Z .nil (jS 1 Z) (aZ Z Z (aE.fact 0 Z) Z Z H) aM.z<|eD Z .nil .nil (gF Z Z Z Z Z) aM.z<|eD Z .nil (jS 1 Z) (jJ Z (aE.fact 0 Z) Z Z Z FL H) aM.z<|eD Z .nil .nil (c_ Z Z Z Z Z) aM.z<|eD Z (a_.cons 0 Z .nil) .nil (eB 0 Z Z Z Z Z) aM.z<|bO 23 Z Z<|aP Z (xQ Z Z) Z<|aP Z (NV Z Z) Z<|aP Z (JK Z Z) Z<|dO Z<|aN ?_;exact gJ (decide (a.2.2.2.2<((at' t b.2).2.1))) () h SF Z
     have h:=ifN n h;refine bT Z Z Z Z<|bT Z Z Z Z<|bT Z Z Z Z<|bT Z Z Z Z<|bT Z Z Z Z<|bT Z Z Z Z<|bT Z Z Z Z<|bO 23 Z Z<|aI Z<|aP Z (JK Z Z) Z<|aP Z (JK Z Z) Z<|dO Z<|aN ?_;exact gJ (false) () h SF Z
    have h:=Dw k h;refine bT Z Z Z Z<|bT Z Z Z Z<|bT Z Z Z Z<|bT Z Z Z Z<|bT Z Z Z Z<|bT Z Z Z Z<|bT Z Z Z Z<|bT Z Z Z Z<|bT Z Z Z Z<|yY (h:= ?_);refine yY (h:= ?_);refine yY (h:= ?_);refine yY (h:= ?_);refine yY (h:= ?_);refine yY (h:= ?_);refine yY (h:= ?_);refine yY (h:= ?_);refine yY (h:= ?_);refine yY (h:= ?_);refine yY (h:= ?_);refine bO 23 Z Z<|aei (h:= ?_);refine aei (h:= ?_);refine aI Z<|fH Z<|aN ?_;exact gJ (false) () h SF Z
   intro i F h;refine Am h Z (λ_ h=>?_) λ_ h=>?_
   ·refine aX<|aD Z<|aN<|aV<|bM<|aJ<|aJ<|bM<|aJ ?_;cases h;exact rX Z
   refine dY<|mN<|aQ<|aA Z<|cJ Z<|aD Z<|aN ?_;exact xR (d,(wI .i64 (b.2+(1:Int)))) () h SF Z
  refine e_ ?_;exact cF (b.1) () h SF .nil (aG.refl _ _)
 intro A L h;unfold Ag at h;refine aK<|dW (λf=>vT  f=some r) (λf B=>[(8,vB (f))]) (λf B=>[]) ?_ ?_
 ·refine aQ<|aA Z<|aA Z ?_;refine rD (by exact rfl) (by exact rfl) (λj=>?_) (λj=>?_)
  ·have h:=IA j h;refine aI Z<|aI Z<|dO Z<|aD Z<|aN ?_;exact gJ (true) () h SF Z
  have h:=Dw j h;refine cP Z<|aP Z (lU Z) Z<|fH Z<|aD Z<|aN ?_;exact gJ ((!e)) () h SF Z
 intro f B h;unfold vT at h;refine aV ?_;cases h;exact lA Z
end Go.Proofs.YtlkhndebimcbbaaGreatDoor
namespace Go.Proofs.YtlkhndebimcbbaaGreatDoor
open Go Go.Sx
theorem acB {L:List Bool} {a:List CT} {d:Ia} {b:Bool} {k:Nat} (p:L.length=k+1) (q:a.length=k+1) (r:k<900) (c:∀j,j<k->at' L (j:Int)=true->at' L ((j+1:Nat):Int)=true)
  (f:∀j,j<=k->at' L (j:Int)=false->(at' a (j:Int)).2.2.2.1<=d.2.2.2.1) (s:d.2.2.2.2<0) (g:at' L (k:Int)=false->b=false):Bf 1000 L a d b=some true:=by
 unfold Bf;rw[if_neg (by omega),zA8 (by omega)];unfold Af;rw[if_neg (by decide)];refine eL (step:=mX L a d b) (K:=some true) (k+1) (λj=>((if j=0 then false else at' L ((j - 1:Nat):Int)),(j:Int))) (λj l m=> ?_) (λl=> ?_) 1000 (by omega)
 ·have o:(if j=0 then false else at' L ((j - 1:Nat):Int))=true->at' L (j:Int)=true:=λh=>by
   by_cases e:j=0
   ·rw[if_pos e]at h;cases h
   ·rw[if_neg e]at h;have:=c (j - 1) (by omega) h;rwa[show j - 1+1=j by omega]at this
  have n:=f j (by omega);have i:sJ a d ((if j=0 then false else at' L ((j - 1:Nat):Int)),(j:Int)) l (at' L (j:Int))=l ((if j+1=0 then false else at' L ((j+1 - 1:Nat):Int)),((j+1:Nat):Int)):=by
   rw[if_neg (show¬j+1=0 by omega),show j+1 - 1=j by omega];unfold sJ sK;dsimp only;rw[fM (by omega)];cases h:at' L (j:Int)with
   |true=>rw[if_neg (by decide),if_neg (by decide)]
   |false=>
    have:=n h;rw[if_pos (by decide),cB (by omega),if_neg (by omega),if_neg (by omega),if_neg (by decide)]
  unfold mX;dsimp only;rw[if_pos (by omega)];unfold Ah;dsimp only;cases h:(if j=0 then false else at' L ((j - 1:Nat):Int))with
  |true=>
   have m:=o h;rw[h,m]at i;rw[if_pos Z,cB (by omega),m,if_neg (by decide),if_pos Z];exact i
  |false=>
   rw[h]at i;rw[if_neg (by decide),if_neg (by decide),if_neg (by decide),cB (by omega)];exact i
 ·unfold mX Ag vT;dsimp only;rw[if_neg (by omega),if_neg (show¬k+1=0 by omega),show k+1 - 1=k by omega];cases h:at' L (k:Int)with
  |true=>rw[if_pos Z]
  |false=>rw[if_neg (by decide),g h];rfl
end Go.Proofs.YtlkhndebimcbbaaGreatDoor
namespace Go.Proofs.YtlkhndebimcbbaaGreatDoor
open Go.Sx
def oS (U:Nat)  : Option (ByteArray):=
 some (ByteArray.mk #[112,114,111,103,114,97,109,32,115,110,97,112,115,104,111,116,59,10,118,97,114,32,100,32,58,32,48,32,46,46,32,110,59,10,118,97,114,32,112,32,58,32,112,111,114,116,59,10,118,97,114,32,115,32,58,32,98,111,111,108,59,10,118,97,114,32,98,32,58,32,98,111,111,108,59,10,118,97,114,32,120,32,58,32,48,32,46,46,32,49,53,59,10,118,97,114,32,97,32,58,32,48,32,46,46,32,49,53,32,42,32,110,59,10,114,117,108,101,32,116,111,112,58,32,114,111,111,116,32,38,38,32,40,100,32,33,61,32,48,32,124,124,32,112,32,33,61,32,110,111,110,101,41,32,45,62,32,100,32,58,61,32,48,44,32,112,32,58,61,32,110,111,110,101,59,10,114,117,108,101,32,108,111,119,58,32,33,114,111,111,116,32,38,38,32,40,100,32,33,61,32,40,109,105,110,40,113,46,100,41,32,60,32,110,32,63,32,109,105,110,40,113,46,100,41,32,43,32,49,32,58,32,110,41,32,124,124,32,112,32,33,61,32,102,105,114,115,116,40,113,46,100,32,61,61,32,109,105,110,40,113,46,100,41,41,41,10,32,32,45,62,32,100,32,58,61,32,40,109,105,110,40,113,46,100,41,32,60,32,110,32,63,32,109,105,110,40,113,46,100,41,32,43,32,49,32,58,32,110,41,44,32,112,32,58,61,32,102,105,114,115,116,40,113,46,100,32,61,61,32,109,105,110,40,113,46,100,41,41,59,10,114,117,108,101,32,98,101,103,105,110,58,32,114,111,111,116,32,38,38,32,33,115,32,45,62,32,115,32,58,61,32,116,114,117,101,44,32,98,32,58,61,32,33,98,59,10,114,117,108,101,32,116,97,107,101,58,32,33,114,111,111,116,32,38,38,32,115,111,109,101,40,113,32,61,61,32,112,32,38,38,32,40,113,46,98,32,33,61,32,98,32,124,124,32,115,32,38,38,32,33,113,46,115,41,41,32,45,62,32,115,32,58,61,32,115,111,109,101,40,113,32,61,61,32,112,32,38,38,32,113,46,115,41,44,32,98,32,58,61,32,115,111,109,101,40,113,32,61,61,32,112,32,38,38,32,113,46,98,41,59,10,114,117,108,101,32,102,105,110,105,115,104,58,32,115,32,38,38,32,97,108,108,40,113,46,112,32,33,61,32,113,46,98,97,99,107,32,124,124,32,33,113,46,115,32,38,38,32,113,46,98,32,61,61,32,98,41,32,45,62,32,115,32,58,61,32,102,97,108,115,101,44,32,97,32,58,61,32,120,32,43,32,115,117,109,40,113,46,112,32,61,61,32,113,46,98,97,99,107,32,63,32,113,46,97,32,58,32,48,41,59,10])
theorem Yf:aW Tryz.prog 10:=Tryz.call10
theorem Ed (U:Nat)  (r:ByteArray) (h:oS U  = some r):
  aY Tryz.prog 10 #[] [] (λx:Unit=>vS (r)) (λx l=>l) (λ_ l=>l):=by
 refine aY.of Tryz.func10 Z Tryz.ntmps10 Z λc=>?_;unfold oS at h;refine aX<|aD Z<|aN<|aX<|aD Z<|aN<|aV ?_;cases h;exact lA Z
end Go.Proofs.YtlkhndebimcbbaaGreatDoor
namespace Go.Proofs.YtlkhndebimcbbaaGreatDoor
open Go Go.Sx Go.Gx
set_option maxRecDepth 100000
def Co (a:Nat):Option Bool:=some (true)
theorem Yg:aW Tryz.prog 13:=Tryz.call13
theorem YA:okT (KF IN gp2 4000 13 [] H0)=true:=by kernel_rfl
theorem Mw (a:Nat) (r:Bool) (h:Co a=some r):
  aY Tryz.prog 13 #[] [Gb 0 (cellsOf Ig xO)] (λx:Unit=>Value.bool (r)) (λx l=>l) (λ_ l=>l):=by
 obtain rfl:=Option.some.inj h;obtain⟨d,c⟩:=ZQ YA;rw[Ho HN]at c;exact OD Ze Yg (λf e h=>h.bool_inv) λT b=>Hn (gs:=gl T) alk c (fW.start b Z) .nil
end Go.Proofs.YtlkhndebimcbbaaGreatDoor
namespace Go.Proofs.YtlkhndebimcbbaaGreatDoor
open Go.Sx
noncomputable def lP  (a:Bool):Option Bool:=
 some (a)
noncomputable def pL (U:Nat) (d:(aR×fV)) (a:VK) (e:List (Bool)):Option Bool:=
 Option.bind (oS U) λf=>(Option.bind (mO U f) λc=>Wl c.2.2 λj=>(ck (0<=(wI .i64 ((a.1.length:Int) - (1:Int)))∧(wI .i64 ((a.1.length:Int) - (1:Int)))<(a.1.length:Int)) (Option.bind (qV U ((c.1,c.2.1,j)) ((d.1,d.2)) (at' a.1 (wI .i64 ((a.1.length:Int) - (1:Int))))) λg=>(Option.bind (Co U) λh=>(if h=true then(Option.bind (iR U ((d.1,d.2))) λb=>(Option.bind (Bf U e a.2.1 ((b.1,b.2.1,b.2.2.1,b.2.2.2.1,b.2.2.2.2)) (decide (g=(0:Int)))) λi=>(lP  (i))))else(lP  (false)))))))
noncomputable def jH (U:Nat) (e:(aR×fV)) (b:VK) (a:List (Bool)×Int) (c:(List (Bool)×Int)->Option Bool):Option Bool:=
 if a.2<(b.1.length:Int)then(ck (0<=a.2∧a.2<(b.1.length:Int)) (Option.bind (eN U ((e.1,e.2)) (at' b.1 a.2)) λd=>(ck ((a.1.length:Int)+(List.length ([d]):Int)<=1099511627) (c ((a.1++[d]),(wI .i64 (a.2+(1:Int))))))))else(pL U e b (a.1))
noncomputable def lO (U:Nat) (c:(aR×fV)) (b:VK) (a:Bool):Option Bool:=
 if a=true then(some (false))else(bI (jH U c b) U (([]:List Bool),(0:Int)))
noncomputable def qT (U:Nat) (e:Er) (j:aR) (k:aR):Option Bool:=
 Option.bind (fR U ((e.1,e.2.1,e.2.2.1,e.2.2.2.1,e.2.2.2.2.1,e.2.2.2.2.2)) (6:Int)) λa=>(Option.bind (Dy U) λl=>(Option.bind (nU U ((a.1,a.2)) l j) λf=>(Option.bind (oS U) λg=>(Option.bind (iR U ((a.1,a.2))) λh=>(Option.bind (qW U k (200:Int)) λi=>(Option.bind (xH U g ((a.1,a.2)) h.1 f i) λd=>(if(!d.2.2)=true then(lO U a d (true))else(Option.bind (iR U ((a.1,a.2))) λb=>(Option.bind (vF U ((a.1,a.2))) λc=>(lO U a d (decide ((b.1,b.2.1,b.2.2.1,b.2.2.2.1,b.2.2.2.2)≠(c.1,c.2.1,c.2.2.1,c.2.2.2.1,c.2.2.2.2)))))))))))))
theorem CY (U:Nat) {p0:Er} {p1:aR} {p2:aR} (P:Value)  (Q:Value)  (R:Value)  (W:Value)  (X:Value) (r:Bool) (h:qT U p0 p1 p2=some r):
  aY Tryz.prog 5 #[Value.agg #[vI (p0.1),P,Q,R,vB (p0.2.2.2.2.1),vB (p0.2.2.2.2.2)],W,X] [Sl bN P p0.2.1,Sl bN Q p0.2.2.1,Sl bN R p0.2.2.2.1,Sl bN W p1,Sl Ak X p2,Gb 0 (cellsOf Ig xO)] (λx:Unit=>vB (r)) (λx l=>l) (λ_ l=>l):=by
 refine aY.of Tryz.func5 Z Tryz.ntmps5 Z λc=>?_;refine aX<|aH (aO.box (cs:=[vI (p0.1),P,Q,R,vB (p0.2.2.2.2.1),vB (p0.2.2.2.2.2)]) Z Z) Z λb1=>aD Z<|aN<|aX<|dN 0 Z<|eZ h λm w3 h=>aH (zBa ahO (CX U P Q R m w3) Z (mT [0,1,2] Z)) Z λb=>aH (aO.alloc (cs:=[lB,lB]) Z Z) Z λH=>cH (Know.one ((bB (aE.res 1 Z) dK))) λY=>cH (Know.one (aE.sl (bW (i:=2) (j:=3) Z Z bS))) λaa=>bQ 0 (vs:=[b.1,b.2.1]) Z Z (lN Y (lN aa Z)) Z Z Z<|aN<|aK ?_;refine JR.start [0,0,0,7,15] 3 mixedOrders (by decide +kernel) ?_;refine zBd (by exact rfl) ?_;refine mA 0 Z<|eZ h λr8 w9 h=>zBc Z Z Z (zBa ahQ (O_ U  r8 w9) Z .nil) Z (λS=>(uB [([1],[])] Z)) λS=>jD Z (fY Z)<|bO 3 Z Z<|eZ h λN al h=>aH (zBa ahP (LX U b.1 b.2.1 (List.zip b.2.2 m.2) S W N al) Z (aG.cons (bB (aE.res 2 Z) dK) (aG.cons (bW (i:=3) (j:=4) Z Z bS) (aG.cons (bB (aE.res 0 Z) iW) (mT [3] Z))))) Z λT=>aD Z<|aN<|aK ?_;refine JR.start [0,0,0,5,13,0,0,77,255,511,1023,1023,1023,2047,12287,32767] 15 mixedOrders (by decide +kernel) ?_;refine zBd (by exact rfl)<|eZ h λac am h=>zBc Z Z Z (zBa Yf (Ed U  ac am) Z .nil) Z (λaF=>Ax.z) λaF=>bJ Z (a_.cons 3 Z .nil) .nil (fJ 0 Z Z Z Z) (aM.h (a_.ix [3] Z Z) .nil aM.z)<|bJ Z (a_.cons 3 Z .nil) .nil (fJ 0 Z Z Z Z) (aM.h (a_.ix [3] Z Z) .nil aM.z)<|eZ h λad an h=>zBc Z Z Z (zBa SS (zQ U b.1 b.2.1 (List.zip b.2.2 m.2) ad an) Z (aG.cons (bB (aE.res 4 Z) dK) (aG.cons (bW (i:=5) (j:=6) Z Z bS) .nil))) Z (λaU=>(uB [([3],[])] Z)) λaU=>jD Z (XW Z Z Z Z Z Z)<|jD Z (fY Z)<|jD Z (fY Z)<|eZ h λae ao h=>zBc Z Z Z (zBa aex (LY U X ae ao) Z (mT [4] Z)) Z (λV=>(uB [([4],[])] Z)) λV=>eZ h λd ap h=>zBc Z Z Z (zBa ahR (RG U b.1 b.2.1 (List.zip b.2.2 m.2) T.1 (List.zip T.2 N) V d ap) Z (aG.cons (bB (aE.res 5 Z) dK) (aG.cons (bW (i:=6) (j:=7) Z Z bS) (aG.cons (bW (i:=1) (j:=2) Z Z dK) (aG.cons (bB (aE.res 0 Z) wS) (mT [5] Z)))))) Z (λa=>(uB [] Z)) λa=>jD Z (fY Z)<|jD Z (qF Z Z)<|jD Z (qF Z Z)<|jD Z (qF Z Z)<|jD Z (oZ Z)<|jD Z (oZ Z)<|bO 15 Z Z<|aD Z<|aN<|aK<|aK<|dW (λq=>lO U m d q=some r) (λq I=>[(7,vP H),(9,a.1),(10,a.2.2.2),(42,vB (q))]) (λq I=>[Ar dD.raw a.1 a.2.1,Mh bZ a.2.1 a.2.2.1 d.1,Ar cE a.2.2.2 d.2.1,bV H [b.1,b.2.1] 28,Ar bZ b.1 m.1,Ar dD.raw b.2.1 b.2.2,lK cG b.2.2 m.2]) ?_ ?_
 ·refine JR.start [0,1,3,7,15,7,63,127,255] 6 mixedOrders (by decide +kernel) ?_;refine zBd (by exact rfl) ?_;refine bG Z<|jD Z (lU Z)<|bG Z ?_;refine JR.guard (by exact rfl) (by exact rfl) (by exact rfl) (λw=>?_) (λw=>?_)
  ·have h:=IA w h;refine bT Z Z Z Z<|bT Z Z Z Z<|bT Z Z Z Z<|bO 6 Z Z<|aI Z<|aI Z<|dO Z<|aN ?_;exact cF (true) () h SF (a_.ix [0,1,2,7,8,9,10] Z Z) (aG.refl _ _)
  have h:=Dw w h;refine eD Z (a_.cons 7 Z .nil) .nil (fJ 0 Z Z Z Z) aM.z<|eZ h λf az h=>Px Z Z Z Z (zBa SS (zQ U b.1 b.2.1 (List.zip b.2.2 m.2) f az) Z (aG.cons (bB (aE.res 8 Z) dK) (aG.cons (bW (i:=9) (j:=10) Z Z bS) .nil))) Z (λa1=>(uB [] Z)) λa1=>eD Z (a_.cons 7 Z .nil) .nil (fJ 0 Z Z Z Z) (aM.h (a_.ix [7] Z Z) .nil aM.z)<|bO 6 Z Z<|eZ h λg aC h=>mH Z (zBa aez (Mz U b.1 b.2.1 (List.zip b.2.2 m.2) g aC) Z (aG.cons (bB (aE.res 8 Z) dK) (aG.cons (bW (i:=9) (j:=10) Z Z bS) .nil))) Z λa7=>aP Z (aep Z Z (aco (f.1,f.2.1,f.2.2.1,f.2.2.2.1,f.2.2.2.2) (g.1,g.2.1,g.2.2.1,g.2.2.2.1,g.2.2.2.2) _ _)) Z<|fH Z<|aN ?_;exact cF (decide ((f.1,f.2.1,f.2.2.1,f.2.2.2.1,f.2.2.2.2)≠(g.1,g.2.1,g.2.2.1,g.2.2.2.1,g.2.2.2.2))) () h SF (a_.ix [0,1,2,7,8,9,10] Z Z) (aG.refl _ _)
 intro q I h;refine Am h Z (λ_ h=>?_) λ_ h=>?_
 ·refine aX<|aD Z<|aN<|aV<|aJ ?_;cases h;exact rX Z
 refine cL<|aX<|aD Z<|aN<|aK<|CR (B:=Value) (λs=>pL U m d s=some r) (λs t=>[(7,vP H),(9,a.1),(10,a.2.2.2),(12,t)]) (λs t=>[Ar dD.raw a.1 a.2.1,Mh bZ a.2.1 a.2.2.1 d.1,Ar cE a.2.2.2 d.2.1,bV H [b.1,b.2.1] 28,Ar bZ b.1 m.1,Ar dD.raw b.2.1 b.2.2,lK cG b.2.2 m.2,Ar EBo t s]) ?_ ?_
 ·refine aX<|aD Z<|aN<|aT<|jL (gN EBo)<|dX (B:=Value) (jH U m d) (λk u=>[(7,vP H),(9,a.1),(10,a.2.2.2),(12,u),(13,vI (k.2))]) (λk u=>[Ar dD.raw a.1 a.2.1,Mh bZ a.2.1 a.2.2.1 d.1,Ar cE a.2.2.2 d.2.1,bV H [b.1,b.2.1] 28,Ar bZ b.1 m.1,Ar dD.raw b.2.1 b.2.2,lK cG b.2.2 m.2,Ar EBo u k.1]) (([]:List Bool),(0:Int)) (lB) h SF (a_.ix [1,2,3,4,5,6,7,0] Z Z) ?_;intro a2 k u h;refine aK<|aX<|aA Z<|aA Z<|aB (Hk 0 1 Z Z Z Z) Z<|cM Z<|aN ?_;refine fD h Z (λh=>?_) λh=>?_
  ·refine cL<|aK<|aT ?_;refine JR.start [0,0,0,0,12,28,62,126,255,511] 8 mixedOrders (by decide +kernel) ?_;refine zBd (by exact rfl) ?_;refine bG Z<|mA 3 Z<|bG Z<|bG Z<|cT h λA h=>eJ (xP 1 Z) λL=>?_;refine bJ Z (a_.cons 0 Z .nil) .nil (iS 0 Z Z Z Z Z A.1 (by have q1:=A.2;have q2:=L;(try simp only[zA2]at q1);(try simp only[zA2]at q2);(try simp only[zA2]);omega)) aM.z ?_;refine eJ (xP 1 Z) λM=>bJ Z (a_.cons 0 Z .nil) .nil (mI 0 Z Z M Z Z A) aM.z<|eZ h λC ay h=>zBc Z Z Z (zBa Yh (C_ U b.1 b.2.1 (List.zip b.2.2 m.2) (at' a.2.1 k.2) (List.zip (at' a.2.2.1 k.2) (at' d.1 k.2)) C ay) Z (aG.cons (bB (aE.res 4 Z) dK) (aG.cons (bW (i:=5) (j:=6) Z Z bS) (aG.cons (Py (j:=1) Z dK A.1 A.2) .nil)))) Z (λa0=>(uB [] Z)) λa0=>zBc Z Z Z (cA (e:=EBo) ([C]) [(0,vB (C))] Z Z Z Z (l_ (vB (C)) Z) Z Z Z) Z (λaj=>(uB [] Z)) λaj=>bO 8 Z Z<|cT h λab h=>aH (eW 8 FBo Z Z Z (bB (aE.res 0 Z) FBo) Z Z Z Z ab Z) Z λak=>aD Z<|eM<|mN<|aQ<|aA Z<|cJ Z<|aD Z<|aN ?_;exact lS ((k.1++[C]),(wI .i64 (k.2+(1:Int)))) (ak) h SF (a_.ix [1,2,3,4,5,6,7,8] Z Z) (aG.refl _ _)
  refine e_ ?_;exact gJ (k.1) (u) h SF Z
 intro s t h;refine aK ?_;refine JR.start [0,1,0,0,0,16,48,120,248,511,1023,2047] 9 mixedOrders (by decide +kernel) ?_;refine zBd (by exact rfl)<|eZ h λaf aq h=>zBc Z Z Z (zBa Yf (Ed U  af aq) Z .nil) Z (λaW=>Ax.z) λaW=>eZ h λF ar h=>zBc Z Z Z (aO.call SU (Ee U F ar) Z (jS 5 Z) (λ_ _=>rfl) (λ_ _=>rfl)) Z (fun⟨n,o,G,D⟩=>Ax.z) fun⟨n,o,G,D⟩=>?_;have h:=ML h G D;refine bJ Z (a_.cons 3 Z .nil) .nil (fJ 0 Z Z Z Z) (aM.h (a_.ix [3] Z Z) .nil (aM.h (a_.ix [3] Z Z) .nil aM.z))<|jD Z (fY Z)<|jD Z (fY Z)<|bJ Z (a_.cons 0 Z (a_.cons 0 Z .nil)) .nil (Hk 0 1 Z Z Z Z) (aM.h (a_.ix [0,1] Z Z) .nil (aM.h (a_.ix [0,1] Z Z) .nil aM.z))<|jD Z (oI Z Z)<|cT h λy h=>eJ (xP 1 Z) λJ=>?_;refine bJ Z (a_.cons 0 Z .nil) .nil (iS 0 Z Z Z Z Z y.1 (by have q1:=y.2;have q2:=J;(try simp only[zA2]at q1);(try simp only[zA2]at q2);(try simp only[zA2]);omega)) (aM.h (a_.ix [0] Z Z) .nil (aM.h (a_.ix [0] Z Z) .nil aM.z)) ?_;refine eJ (xP 1 Z) λK=>bJ Z (a_.cons 0 Z .nil) .nil (mI 0 Z Z K Z Z y) (aM.h (a_.ix [0] Z Z) .nil (aM.h (a_.ix [0] Z Z) .nil aM.z))<|bO 9 Z Z<|eZ h λag au h=>aH (zBa aeA (LW U n o b.1 b.2.1 (List.zip b.2.2 m.2) (at' a.2.1 (wI .i64 ((d.1.length:Int) - (1:Int)))) (List.zip (at' a.2.2.1 (wI .i64 ((d.1.length:Int) - (1:Int)))) (at' d.1 (wI .i64 ((d.1.length:Int) - (1:Int))))) ag au) Z (aG.cons (aE.fact 0 Z) (aG.cons (aE.fact 1 Z) (aG.cons (aE.fact 2 Z) (aG.cons (bB (aE.res 4 Z) dK) (aG.cons (bW (i:=5) (j:=6) Z Z bS) (aG.cons (Py (j:=1) Z dK y.1 y.2) .nil))))))) Z λa3=>cS Z<|aD Z<|aN<|aK<|Bq (B:=Unit) (λp=>lP  p=some r) (λp E=>[(6,vB (p))]) (λp E=>[]) (λp E=>[Sl aS n F.2.1,Sl aL o G,PF (Value.agg #[vS F.1,n,o]),Sl bN P p0.2.1,Sl bN Q p0.2.2.1,Sl bN R p0.2.2.2.1,Sl bN W p1,Sl Ak X p2,Gb 0 (cellsOf Ig xO)]) ?_ ?_
 ·refine aQ<|eZ h λah av h=>aH (zBa Yg (Mw U  ah av) Z (mT [8] Z)) Z λa4=>aA Z ?_;refine rD (by exact rfl) (by exact rfl) (λv=>?_) (λv=>?_)
  ·have h:=IA v h;refine cP Z<|cP Z<|aP Z (fJ 3 Z Z Z Z) Z<|eZ h λai aw h=>mH Z (zBa SS (zQ U b.1 b.2.1 (List.zip b.2.2 m.2) ai aw) Z (aG.cons (bB (aE.res 4 Z) dK) (aG.cons (bW (i:=5) (j:=6) Z Z bS) .nil))) Z λa5=>cP Z<|eZ h λO ax h=>mH Z (zBa aeB (Pf U t a.2.2.2 O ax) Z (aG.cons (bB (aE.res 7 Z) FBo) (aG.cons (bB (aE.res 2 Z) jA) .nil))) Z λa6=>dO Z<|aD Z<|aN ?_;exact cF (O) () h SF .nil (aG.refl _ _)
  have h:=Dw v h;refine aI Z<|aI Z<|aI Z<|aI Z<|aI Z<|aI Z<|fH Z<|aD Z<|aN ?_;exact cF (false) () h SF .nil (aG.refl _ _)
 intro p E h;unfold lP at h;refine aV ?_;cases h;exact lA Z
end Go.Proofs.YtlkhndebimcbbaaGreatDoor
namespace Go.Proofs.YtlkhndebimcbbaaGreatDoor
open Go Go.Sx
theorem Mo (x:PI) (o a:aR):qT 1000 x o a=some true:=by
 obtain⟨g,d,E,i,U,S,W,N⟩:=als x 6 (by omega) (by omega);have P:=N.v.n24;obtain⟨w,Q,B⟩:=Wx N.v f_ o (by decide) aiN;obtain⟨c,G,T,F⟩:=Xl a (n:=200) (by omega);obtain⟨l,s,u,L,_,A,t,_⟩:=alw N (kind:=3) (by decide) (by decide) (ws:=c) (by omega) F B;have V:=L.l1;have D:=L.l2;let b:Nat->Bool:=λj=>(eN 1000 g (at' l (j:Int))).getD false;have y:∀j,j<=c.length->eN 1000 g (at' l (j:Int))=some (b j)∧(b j=true↔BX g d i (BU g i w) (at' l (j:Int))):=λj f=>by
  obtain⟨I,J⟩:=alo N (A j f);by_cases h:BX g d i (BU g i w) (at' l (j:Int))
  ·have e:b j=true:=by show Option.getD _ _=_;rw[I h];rfl
   rw[e];exact⟨I h,⟨λ_=>h,λ_=>rfl⟩⟩
  ·have e:b j=false:=by show Option.getD _ _=_;rw[J h];rfl
   rw[e];exact⟨J h,⟨λq=>(by cases q),λq=>absurd q h⟩⟩
 have m:∀j,j<=c.length->at' ((List.range (c.length+1)).map b) (j:Int)=b j:=λj f=>kZ _ (by omega);unfold qT;rw[show fR 1000 (x.1,x.2.1,x.2.2.1,x.2.2.2.1,x.2.2.2.2.1,x.2.2.2.2.2) 6=some g from S,bD Z,bD agu,bD (show nU 1000 (g.1,g.2) f_ o=some w from Q),bD (show oS 1000=some Cq from rfl),bD (show iR 1000 (g.1,g.2)=_ from(Kb N).1),bD (show qW 1000 a 200=_ from G)];refine(bD (show xH 1000 Cq g 3 w c=_ from u)).trans ?_;rw[if_neg (show¬(!true)=true by decide),bD (show iR 1000 (g.1,g.2)=_ from(Kb N).1),bD (show vF 1000 (g.1,g.2)=_ from(Kb N).2),zA8 (by simp)];unfold lO;rw[if_neg (by decide)];refine eL (step:=jH 1000 (g.1,g.2) (l,s,true)) (K:=some true) (c.length+1) (λj=>((List.range j).map b,(j:Int))) (λj M f=> ?_) (λM=> ?_) 1000 (by omega)
 ·unfold jH;dsimp only;rw[if_pos (by omega),cB (by omega),bD (show eN 1000 (g.1,g.2) (at' l (j:Int))=_ from(y j (by omega)).1),cB (by simp;omega),fM (by omega)];have:(List.range (j+1)).map b=(List.range j).map b++[b j]:=by rw[List.range_succ,List.map_append,List.map_singleton]
  rw[this]
 ·unfold jH;dsimp only;rw[if_neg (by omega)];unfold pL;have O:wI .i64 ((l.length:Int) - 1)=(c.length:Int):=by rw[wr (by omega) (by omega)];omega
  dsimp only;rw[bD (show oS 1000=some Cq from rfl),bD (QZ 1000)];refine Ux λz H=> ?_;have H:z.map zJ=En RN:=H;obtain⟨e,R,C⟩:=ahY N H (A c.length (zAf _)).r;rw[O,cB (by omega)];refine(bD (show qV 1000 (pY z) g (at' l (c.length:Int))=_ from R)).trans ?_;rw[bD (show Co 1000=some true from rfl),if_pos Z,bD (show iR 1000 (g.1,g.2)=_ from(Kb N).1)];refine(bD (acB (k:=c.length) (by simp) D (by omega) (λj f h=> ?_) (λj f h=> ?_) (show(-1:Int)<0 by decide) λh=> ?_)).trans Z
  ·rw[m j (by omega)]at h;rw[m (j+1) (by omega)];exact(y (j+1) (by omega)).2.2 (t j f ((y j (by omega)).2.1 h))
  ·rw[m j f]at h;refine Int.not_lt.1 λq=> ?_;have:=(y j f).2.2 (Tx N.v N.dist N.d0 N.p (Jr N.v) N.e (A j f) q);rw[h]at this;cases this
  ·exact zA8 C
end Go.Proofs.YtlkhndebimcbbaaGreatDoor
namespace Go.Sx
open Go.RowKit Go.ChangeShapes Go.WideShapes Go.ChangeAt Go.Proofs Go.Joins Go.Deep
section
variable {H:Type} {enc:TypeId×Value->H} {P:Program} {w:World} {base:Nat} {spare:Nat->Bool} {held:Bool}
theorem Mm {a:Type} (l:List a) (d:a):l=(List.range l.length).map λi=>l.getD i d:=by
 apply List.ext_getElem?;intro i;by_cases h:i<l.length
 ·simp[h]
 ·simp[h]
theorem ZT {r:Reach} {x:Nat} {t:TypeId} {b:Array Field} {v:Value} {d:DataW H} {p:List MemPlace} (s:P.underlying t=some (.struct b)) (c:oneCellFields P b=true) (z:P.cellsOf t=b.size)
  (E:Value.okWide P w r x t v) (h:DataW.Trod enc P w base spare held t v d p):
  ∃(V:Nat->Value) (Y:Nat->DataW H×List MemPlace) (n:Nat),v = .agg ((List.range b.size).map V).toArray∧∀(i:Nat) (f:Field),b[i]? = some f->DataW.trod enc P w base spare held n f.type [V i]=some (Y i):=by
 obtain⟨a,rfl,l⟩:=okWide_struct s E;obtain⟨m,A⟩:=h;obtain⟨u,n,_,_,_,q,B⟩:=DataW.trod_struct s A;refine⟨λi=>a.toList.getD i undef,λi=>u.getD i (.nil,[]),n,?_,λi f j=> ?_⟩
 ·congr 1;apply Array.toList_inj.1;show a.toList=(List.range b.size).map λi=>a.toList.getD i undef;have y:b.size=a.toList.length:=by rw[<-z,<-l];rfl
  rw[y];exact Mm a.toList undef
 ·have D:i<b.size:=(zAb.1 j).1;obtain⟨o,k⟩:=hone_of c i f j;have g:=B i f j;have e:(Value.cells (.agg a)).toList=a.toList:=rfl;have C:i<a.toList.length:=by rw[Array.length_toList];omega
  rw[o,k,e,take1_drop _ _ undef C]at g;rw[g];have F:i<u.length:=by omega
  simp[F]
theorem Zx {k:IntKind} {e:TypeId} (a:P.underlying e=some (.int k)) {n:Nat} {v:Value} {x:DataW H×List MemPlace} (h:DataW.trod enc P w base spare held n e [v]=some x):∃y:Int,v = .int k y:=by
 obtain⟨y,b,_,_⟩:=DataW.trod_int a h;exact⟨y,by simpa using b⟩
theorem Nf {e:TypeId} (a:P.underlying e=some .bool) {n:Nat} {v:Value} {x:DataW H×List MemPlace} (h:DataW.trod enc P w base spare held n e [v]=some x):∃y:Bool,v = .bool y:=by
 obtain⟨y,b,_⟩:=DataW.trod_bool a h;exact⟨y,by simpa using b⟩
end
end Go.Sx
section
set_option maxRecDepth 100000
namespace Go.Sx
open Go.RowKit Go.ChangeShapes Go.WideShapes Go.ChangeAt Go.Proofs Go.Joins
theorem Tn {P:Program} {W:World} {n:String} {b m t B:Nat} {k:IntKind} {a:aR} (h:laidMet P [(n,.agg (a.map λx=> .lit (.int k x)))] W) (I:P.globalNamed n=some b)
  (ht:(P.globals[b]?).map (·.type)=some t) (hu:P.underlying t=some (.array m B)) (w:P.underlying B=some (.int k)) (S:P.cellsOf B=1) (u:P.cellsOf t=m) (hm:0<m):(Gb b (cellsOf (dD.int k) a)).p W (λ_=>True):=by
 obtain⟨ps,⟨g,t2,j,F,p,q,C,D,E,M,e5,N⟩,aa,d⟩:=h;rw[I]at C;cases C;rw[ht]at D;cases D;refine⟨trivial,?_⟩
 obtain⟨L,ml,_,l,Y,y,V⟩:=DataW.trod_array hu M;simp only[Prod.mk.injEq,DataW.agg.injEq]at l;have e:a.length=m:=by rw[<-y];simpa using congrArg List.length l.1
 have U:j.size=m:=by rw[<-u,<-Y];simp
 have v:j.toList=cellsOf (dD.int k) a:=by
  refine List.ext_getElem? λi=> ?_;by_cases X:i<m
  ·have o:=V i X;rw[S,Nat.mul_one]at o;have J:a[i]? = some (a[i]'(by omega)):=zA0 _;have G:=xA (dD.int k) a i _ J 0 _ Z;rw[show i*(dD.int k).sz+0=i from Nat.mul_one i]at G;rw[G];have K:L[i]? = some (L[i]'(by omega)):=zA0 _;rw[K]at o;obtain⟨z,hz,A,_⟩:=DataW.trod_int w o;have s:j.toList[i]? = some (.int k z):=by
    have:=congrArg (·[0]?) hz;simpa [zAt,zAu]using this
   rw[s];have r:=congrArg (·[i]?) l.1;simp only[List.getElem?_map,J,K,Option.map_some,Option.some.injEq]at r;rw[A]at r;have O:a[i]=z:=by simpa using r
   rw[O]
  ·rw[zAp (by simp;omega),zAp (by rw[eS,e];show m*1<=i;omega)]
 have f:MemPlace.cell b 0∈ps:=by
  rw[N];refine List.mem_append_left _ (List.mem_append_left _ ?_);exact zAw.2 ⟨0,by simp;omega,rfl⟩
 obtain⟨⟨c,T,H⟩,_⟩:=d b 0 f;refine⟨T,?_⟩
 have Q:c=j:=by
  have R:(W.var? P n)=some c:=by unfold World.var?;rw[I];simp[H]
  rw[R]at E;exact Option.some.inj E
 rw[H,Q,<-v]
theorem QD {H:Type} {enc:TypeId×Value->H} {os:Os} (D:List (String×DataW Unit)) (N:(D.all λx=>x.2.handleName?.isNone)=true) (l:os.Started) {f:FuncId} {c:Func} {s:ChangeSpec} {r:Bool} (L:Tryz.prog.funcs[f]? = some c) (n:Tryz.prog.inits.idxOf? f=none)
  (o:(c.params.toList.all λt=>Tryz.prog.readableRec t&&decide (t<Tryz.prog.types.size))=true) (A:c.resultTypes = #[4]) (k:s.vars=[])
  (u:∀a:List (DataW H),a.length=c.params.toList.length->s.fn H a={results:=[.lit (.bool true)],args:=a})
  (m:∃(w:World) (b:Tape) (i:Input),w.os=os∧(w.forCall b i).Shaped Tryz.prog∧i.vars=[]∧Input.okWide Tryz.prog (w.forCall b i) .any w.heap.size f i∧
   ((s.pre enc Tryz.prog c [] false (w.forCall b i).memory i.args∧laidMetH Tryz.prog D (w.forCall b i).memory)∧sizedMet enc Tryz.prog c (OpenSpec.ofChange s) false (w.forCall b i).memory i.args)∧({}:Assume).holds Tryz.prog (lone (Frame.enter Tryz.prog f i.args .normal) [] (w.forCall b i)))
  (E:∀(W:World) (g:Nat) (args:Array Value) (a:List (DataW H)) (p:List MemPlace),laidMetH Tryz.prog D W->(∀(j:Nat) t v,c.params[j]? = some t->args[j]? = some v->Value.okWide Tryz.prog W .any g t v)->
   DataW.TrodAll enc Tryz.prog W 0 (λ_=>true) true c.params.toList args.toList a p->Calls Tryz.prog f args W λe P=>e = .returned (.bool true)∧NN W P):
  ReturnsInHanded {} Go.Proofs.YtlkhndebimcbbaaGreatDoor.Tryz.pinned.checked os f .any (λw args=>(s.pre enc Tryz.prog c [] false w args∧laidMetH Tryz.prog D w)∧sizedMet enc Tryz.prog c (OpenSpec.ofChange s) false w args) (s.post enc Tryz.prog c false r false false):=by
 refine returnsInHanded_of_change_and (C:=Go.Proofs.YtlkhndebimcbbaaGreatDoor.Tryz.pinned.checked) (X:=λw _=>laidMetH Tryz.prog D w) (λ_ _ _ U h=>by rw[MakeChecks.laidMetH_plain _ _ _ N]at h ⊢;exact h.of_heap U) alu l n L m ?_;intro W g args a Y G B J _ _ T _;have M:=J.lt;have K:=J;obtain⟨p,q,I,Q,rfl,_,_⟩:=J;rw[k]at Q;obtain⟨rfl,rfl⟩:=trodVars_none Q;refine(E W g args a p T B I).mono ?_;rintro e P ⟨rfl,R⟩;refine⟨_,rfl,?_⟩
 have z:a.length=c.params.toList.length:=by
  have:∀(F:List TypeId) (y:fO) (a:List (DataW H)) (p:List MemPlace),DataW.TrodAll enc Tryz.prog W 0 (λ_=>true) true F y a p->a.length=F.length:=by
   intro F
   induction F with
   |nil=>intro y a p h;cases y<;>cases a<;>first|rfl|exact h.elim
   | cons t F ih =>
    intro y a p h;cases y with
    |nil=>exact h.elim
    |cons v y=>
     cases a with
     |nil=>exact h.elim
     |cons d a=>obtain⟨_,_,_,S,_⟩:=h;simp[ih y a _ S]
  exact this _ _ _ _ I
 have O:s.fn H (a++[])={results:=[.lit (.bool true)],args:=a}:=by rw[List.append_nil];exact u a z
 refine⟨a,[],p++[],[],p,[],K,?_,?_,?_,R.frame _,λh=>by cases h⟩
 ·rw[O,A];exact trodAll_mk1 (shut_bool Tryz.underlying4 true)
 ·rw[O];exact Gl air R _ _ _ _ o I (λx V=>M x (List.mem_append_left _ V))
 ·rw[O,k];exact rfl
theorem WP {P:Program} {n:String} {k:IntKind} {a:aR} {W:World} (h:laidMetH P [(n,.agg (a.map λx=> .lit (.int k x)))] W):laidMet P [(n,.agg (a.map λx=> .lit (.int k x)))] W:=by
 rw[MakeChecks.laidMetH_plain _ _ _ (by rfl)]at h;exact h
end Go.Sx
end
