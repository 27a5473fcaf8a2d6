/- Models and proofs. Conditions: none. -/
import Derived.Test.YtflciafboapaaaaGreatZRAr12
set_option linter.unusedVariables false
set_option linter.unusedSimpArgs false
set_option maxHeartbeats 4000000
set_option maxRecDepth 20000
open Go.Proofs.Tryz
namespace Go.Proofs.YtflciafboapaaaaGreat
open Go Go.Sx
theorem Nv {g:GR} {k v i:Int} (a:1<=k/\k<=4) (b:0<=v/\v<(g.2.length:Int)) (c:k=1\/(0<=i/\i<((at' g.2 v).length:Int))):LC g (k,v,i)=true:=zAe ⟨a,b,c⟩
theorem abB {g:GR} {k:V4} {y:zV} {v i:Nat} (h:[]=nZ y.2.2 (tE g v i) (EK g v i)):Aw g k y v i=y:=by unfold Aw;rw[<-h]
theorem Zc {g:GR} {k:V4} {y:zV} {v i:Nat} {s:aX} {r:bJ} (h:s::r=nZ y.2.2 (tE g v i) (EK g v i)):Aw g k y v i=(y.1,if k=true then JO y.2.1 v i s else y.2.1,JO y.2.2 (tE g v i) (EK g v i) r):=by unfold Aw;rw[<-h]
theorem ahX (l:aX) (h:l.length<=900):vN 1000 l=some l:=by
 unfold vN;rw[cR Q1,List.nil_append]
abbrev agX:=Hf
abbrev Lu:zV:=([],[],[])
section
variable {g:GR} {p:xO} {R:V6 RL} {cap:Int} {y:zV} {l:V6 (Int×Int×Int)}
theorem acR (hV:VG g) (hp:pV g p.2.1) (hz:p.2.2.map rS=Ge R) (hR:sK p.2.1.length R=true) (hcap:1<=cap/\cap<=8) {A:agX} (hA1:A.1=Cv g p.2.1) (hA2:A.2.1=fI g g.2.length) (hA3:A.2.2.2.1=kX g) (h:VY g p.2.1 cap.toNat y) {k:Nat} (hk:k<l.length) (hl:l.length<=900) (ag:Int×zV->Option (zV×Int)):
  gV 1000 p g cap l A ((k:Int),y) ag=if LC g (at' l (k:Int))=true then ag (((k+1:Nat):Int),kU g (Sj (bF p g) p.2.1 R) cap.toNat y (evN (at' l (k:Int))))else some (Lu,2):=by
 have h24:=hV.n24;have hvl:=hp.len;have lc:=h.sh.c;have la:=h.sh.a.len;have lw:=h.sh.w.len;obtain⟨e,he⟩:∃e,at' l (k:Int)=e:=⟨_,rfl⟩
 obtain⟨ek,ev,ei⟩:=e;have bad:s_ 1000 p g cap l A ((k:Int),y) ag true=some (Lu,2):=rfl;have bad8:AS 1000 g cap l ((k:Int),y) ag true=some (Lu,2):=rfl;unfold gV;simp only[he];rw[if_pos (by omega),cR (by omega),bad];by_cases k1:ek<1
 .rw[if_pos k1,if_neg (by unfold LC;rw[zA2];rintro⟨h,-,-⟩;simp only at h;omega)]
 rw[if_neg k1];by_cases k2:4<ek
 .rw[if_pos k2,if_neg (by unfold LC;rw[zA2];rintro⟨h,-,-⟩;simp only at h;omega)]
 rw[if_neg k2];by_cases k3:ev<0
 .rw[if_pos k3,if_neg (by unfold LC;rw[zA2];rintro⟨-,h,-⟩;simp only at h;omega)]
 rw[if_neg k3];by_cases k4:(g.2.length:Int)<=ev
 .rw[zAe k4,bad,if_neg (by unfold LC;rw[zA2];rintro⟨-,h,-⟩;simp only at h;omega)]
 rw[zA6 k4];obtain⟨v,rfl⟩:∃v:Nat,ev=(v:Int):=⟨ev.toNat,by omega⟩
 have hv:v<g.2.length:=by omega
 have hdeg:=(hV.node v hv).deg;have hrow:at' g.2 (v:Int)=row g v:=rfl;have rc:=h.rowc hv;have ra:=h.sh.a.row v hv;have rw':=h.sh.w.row v hv;have fin:∀c ca wi,nW ((k:Int),y) ag ((0:Int),c,wi,ca)=ag (((k+1:Nat):Int),c,ca,wi):=λc ca wi=>by
  unfold nW;rw[if_neg (by simp)];show ag (wI .i64 ((k:Int)+1),c,ca,wi)=_;rw[cW (by omega)]
 unfold s_;rw[if_neg (by decide)];simp only[he];by_cases hk1:ek=1
 .subst hk1;rw[if_pos Z,cR (by omega),cR (by omega),if_pos (Nv ⟨by decide,by decide⟩ ⟨by omega,by omega⟩ (.inl Z))];have hev:evN ((1:Int),(v:Int),ei)=(1,v,ei.toNat):=rfl;rw[hev];have hvw:=Se hV h.sh hv h.all;have hcw:=Rz hvw.1 hvw.2;refine(Qo (s:=AU 1000 p g l A ((k:Int),y) ag) (K:=AR 1000 p g l A ((k:Int),y) ag) hV h.sh hv (λi c ag2 hi hcl=>?_) (λc ag2 hcl=>?_)).trans ?_
  .have hto:=Dp hV hv hi;have hul:=(yH hV hv hi).ul;have hl1:at' (row g v) (i:Int)=gR (row g v) i:=rfl;unfold AU;simp only[he,hrow,hl1,hto];rw[if_pos (by omega),cR (by omega),cR (by omega),cR (by omega),cR (by omega),cW (by omega),zAf]
  .unfold AU;simp only[he,hrow];rw[if_neg (by omega)]
  .unfold AR FB;simp only[he,hA2,hA3,hA1];rw[bA (show h_ 1000 _ (vw g y v) (v:Int)=_ from XQ hV hcw.shape hv hz hR (Cv g p.2.1))];show(if 0<=lK (bF p g) R (vw g y v) v then _ else _)=ag (_,SX g (Sj (bF p g) p.2.1 R) y v);unfold SX Sj;by_cases h0:0<=lK (bF p g) R (vw g y v) v
   .obtain⟨i,hi,hil,_⟩:=(GJ (bF p g) R (vw g y v) v).resolve_left (λe=>by omega);have hi':lK (p,g,fI g g.2.length,kX g) R (vw g y v) v=(i:Int):=hi;rw[if_pos h0,if_pos h0,hi,hi',bA (show mU 1000 _ (vw g y v) (v:Int) (i:Int)=_ from afx (gr:=fI g g.2.length) hV hp hcw.shape hv hz hR hil),cR (by omega),zAf];exact fin _ _ _
   .rw[if_neg h0,if_neg h0];refine(fin _ _ _).trans ?_;have e1:at' (vw g y v) (v:Int)=at' y.1 (v:Int):=Yn hV h.sh hv _ (zAg _);rw[e1,Ul y.1 (by omega)]
 rw[if_neg hk1];by_cases i1:ei<0
 .rw[if_pos i1,bad8,if_neg (by unfold LC;rw[zA2];rintro⟨-,-,h⟩;simp only at h;omega)]
 rw[if_neg i1,cR (by omega),hrow];by_cases i2:((row g v).length:Int)<=ei
 .rw[zAe i2,bad8,if_neg (by unfold LC;rw[zA2];rintro⟨-,-,h⟩;simp only[hrow]at h;omega)]
 rw[zA6 i2];obtain⟨i,rfl⟩:∃i:Nat,ei=(i:Int):=⟨ei.toNat,by omega⟩
 have hi:i<(row g v).length:=by omega
 rw[if_pos (Nv (by omega) (by omega) (.inr (by rw[hrow];omega)))];have hev:evN (ek,(v:Int),(i:Int))=(ek.toNat,v,i):=rfl;rw[hev];have hwl:=h.cp v i hv hi;have e2:at' (at' y.2.2 (v:Int)) (i:Int)=nZ y.2.2 v i:=rfl;unfold AS;rw[if_neg (by decide)];simp only[he,e2];by_cases hk2:ek=2
 .subst hk2;rw[if_pos Z,cR (by omega),cR (by omega)];show _=ag (_,EM cap.toNat y v i);unfold EM;by_cases hc:(nZ y.2.2 v i).length<cap.toNat
  .rw[if_pos (show((nZ y.2.2 v i).length:Int)<cap by omega),if_pos hc,cR (by omega),bA (ahX _ (by omega)),cR (by simp;omega),zAf,zAf];exact fin _ _ _
  .rw[if_neg (show¬((nZ y.2.2 v i).length:Int)<cap by omega),if_neg hc];exact fin _ _ _
 rw[if_neg hk2];have hto:=Dp hV hv hi;have hpb:=yH hV hv hi;have hul:=hpb.ul;have hbl:=hpb.bl;have hdu:=(hV.node (tE g v i) hul).deg;have hwu:=h.sh.w.row (tE g v i) hul;have hl1:at' (row g v) (i:Int)=gR (row g v) i:=rfl;have e3:at' (at' y.2.2 ((tE g v i:Nat):Int)) ((EK g v i:Nat):Int)=nZ y.2.2 (tE g v i) (EK g v i):=rfl;simp only[hrow,hl1,hto];rw[cR (by omega),cR (by omega),cR (by omega),bA (show mV 1000 _ ((tE g v i:Nat):Int) (v:Int)=_ from PU g _ _ hul (by omega)),aiJ hV hv hi,cR (by omega)];simp only[e3];have hpf:kU g (Sj (bF p g) p.2.1 R) cap.toNat y (ek.toNat,v,i)=Aw g (decide (ek=3)) y v i:=by
  unfold kU;rw[if_neg (show¬ek.toNat=1 by omega),if_neg (show¬ek.toNat=2 by omega)];show Aw g (decide (ek.toNat=3)) y v i=_;by_cases q:ek=3
  .subst q;rfl
  .rw[zA6 q,zA6 (by omega)]
 rw[hpf];obtain⟨wl,hw⟩:∃wl,wl=nZ y.2.2 (tE g v i) (EK g v i):=⟨_,rfl⟩
 cases wl with
 |nil=>
  rw[if_pos (by rw[<-hw];rfl),abB hw];exact fin _ _ _
 | cons s r =>
  have hl:(nZ y.2.2 (tE g v i) (EK g v i)).length=r.length+1:=by rw[<-hw];rfl
  rw[if_neg (by omega),Zc hw];have k10:∀ca,AT g l ((k:Int),y) ag (EK g v i:Int) ca=ag (((k+1:Nat):Int),y.1,ca,JO y.2.2 (tE g v i) (EK g v i) r):=λca=>by
   unfold AT;simp only[he,hrow,hl1,hto,e3,<-hw];rw[cR (by simp;omega),zAf,zAf];exact fin _ _ _
  have hs:at' (nZ y.2.2 (tE g v i) (EK g v i)) 0=s:=by rw[<-hw];rfl
  by_cases q:ek=3
  .subst q;rw[if_pos Z,cR (by omega),cR (by omega),cR (by omega),k10,zAf,zAf,hs];rfl
  .rw[if_neg q,k10,zA6 q];rfl
end
def afN (g:GR) (b:V6 Ah) (c:bJ->Nat->aX) (a:Int) (y:zV) (l:nX):zV×Int:=
 if 1<=a/\a<=8 then(if ZE g b a y=true then(if Ee l.length (λk=>LC g (at' l (k:Int)))=true then(perfs g c a.toNat y l,0)else(Lu,2))else(Lu,7))else(Lu,2)
section
variable {g:GR} {p:xO} {R:V6 RL} {cap:Int} {y:zV} {l:V6 (Int×Int×Int)}
theorem aaQ (c:VG g) (d:pV g p.2.1) (cap:Int) (y:zV):yF 1000 p g cap y=some (if 1<=cap/\cap<=8 then(if ZE g p.2.1 cap y=true then 0 else 7)else 2):=by
 have e:wC 1000 p g cap y false=some (if ZE g p.2.1 cap y=true then 0 else 7):=by
  unfold wC;rw[if_neg Q2,bA (show qZ 1000 _ _ _ _=_ from UB c d cap y)];cases ZE g p.2.1 cap y<;>rfl
 unfold yF;rw[bA (show qV 1000 _ _=some 0 from Xp c d),if_neg Q2];by_cases a:cap<1
 .rw[if_pos a,Q0];rfl
 rw[if_neg a];by_cases b:8<cap
 .rw[zAe b,Q0];rfl
 rw[zA6 b,e,if_pos (show 1<=cap/\cap<=8 from V7)]
theorem acQ (j:VG g) (q:pV g p.2.1) (t:p.2.2.map rS=Ge R) (i:sK p.2.1.length R=true) (a:1<=cap/\cap<=8) {A:agX} (c:A.1=Cv g p.2.1) (d:A.2.1=fI g g.2.length) (e:A.2.2.2.1=kX g) (h:VY g p.2.1 cap.toNat y) (r:l.length<=900):
  bE (gV 1000 p g cap l A) 1000 ((0:Int),y)=some (if Ee l.length (λk=>LC g (at' l (k:Int)))=true then(perfs g (Sj (bF p g) p.2.1 R) cap.toNat y l,0)else(Lu,2)):=by
 have:=Zd (step:=gV 1000 p g cap l A) (n:=l.length) (b:=λk=>LC g (at' l (k:Int))) (λk=>((k:Int),perfs g (Sj (bF p g) p.2.1 R) cap.toNat y (l.take k))) (Z:=some (Lu,2)) (K:=some (perfs g (Sj (bF p g) p.2.1 R) cap.toNat y l,0)) (λk f o m=>by
  have s:=VY.perfs j h (VR (R:=R) q i) l k V7 m;rw[acR j q t i a c d e s o r f,NZ o]) (λm f=>by
  unfold gV CO;dsimp only;rw[Q0,List.take_length]) V7
 refine Eq.trans this ?_;split<;>rfl
theorem PT (e:VG g) (x:pV g p.2.1) {o:Nat} (A:o<=8) (h:VY g p.2.1 o y) (cap:Int):lA 1000 p g cap y=some (Cv g p.2.1,fI g g.2.length,y.1,kX g,y.2.1,y.2.2):=by
 have z:=e.n24;have s:=x.len;have F:=h.sh.a.len;have G:=h.sh.w.len;unfold lA;rw[Q7];refine(Vj (s1:=pD 1000 p g y) (s2:=zS 1000 g) (K:=pB 1000 p g y) e (λ_ _=>rfl) (λ_ _ _ _=>rfl)).trans ?_;unfold pB tC;rw[bA (show kZ 1000 _ _=_ from Ow e x)];unfold tA;rw[bA (Xj y.1 (by rw[h.sh.c];omega) λv i=>by rw[h.rowc (by rw[<-h.sh.c];exact i)];omega)];refine(Tj (cp:=qY 1000) (s3:=kH 1000 y (Cv g p.2.1,fI g g.2.length,kX g) y.1) (s4:=λa d r=>pC 1000 y a d r) (K:=tB (Cv g p.2.1,fI g g.2.length,kX g) y.1) e h A s (λc a b=>Xj c a b) (λk n t d u f B=>?_) (λn t d=>?_) (λk j n t d r b m u f E D=>?_) (λk n t d r b m u f C=>?_)).trans ?_
 .unfold kH;dsimp only;rw[Q3,Q7];refine congrArg (Option.bind _) (funext λr=>?_);rw[cR Q1,Q7]
 .unfold kH;dsimp only;rw[Q0]
 .unfold pC;dsimp only;rw[Q3,Q7];refine congrArg (Option.bind _) (funext λq=>?_);have:j<1000000:=by
   have i:k<g.2.length:=V7
   have:=h.sh.w.row k i;have:=(e.node k i).deg;omega
  rw[cR Q1,cW this]
 .unfold pC zQ;dsimp only;rw[Q0,cR Q1,Q8]
 .rfl
theorem aiQ (b:VG g) (c:pV g p.2.1) (i:p.2.2.map rS=Ge R) (d:sK p.2.1.length R=true) (cap:Int) (y:zV) (e:l.length<=900):sQ 1000 p g cap y l=some (afN g p.2.1 (Sj (bF p g) p.2.1 R) cap y l):=by
 unfold sQ afN;rw[bA (show yF 1000 _ _ _ _=_ from aaQ b c cap y)];by_cases a:1<=cap/\cap<=8
 rotate_left
 .rw[if_neg a,if_neg a];rfl
 rw[if_pos a,if_pos a];cases f:ZE g p.2.1 cap y
 .rfl
 have⟨_,h⟩:=MP.1 f;rw[if_pos Z,if_neg Q2,Q0,if_pos Z,bA (show lA 1000 _ _ _ _=_ from PT b c V7 h cap)];exact acQ b c i d a Z Z Z h e
def enR (S:Gc) (g:GR) (R:V6 RL) (y:zV):Nat:=Ab (λv=>decide (0<=lK S R (vw g y v) v)) g.2.length
end
theorem aec (p q:aX) (h:p.length=q.length):Ee p.length (λk=>decide (at' p (k:Int)=at' q (k:Int)))=decide (p=q):=by
 by_cases e:p=q
 .subst e;rw[zAe Z];exact qK.2 λk _=>zAe Z
 .rw[zA6 e];cases c:Ee p.length (λk=>decide (at' p (k:Int)=at' q (k:Int)))
  .rfl
  .refine absurd (List.ext_getElem h λk a b=>?_) e;have:=zB7 (qK.1 c k a);rwa[i_ a,i_ b]at this
theorem eqL (p q:aX) (h:q.length<900):jG 1000 p q=some (decide (p=q)):=by
 unfold jG;by_cases a:p.length=q.length
 .rw[Q0,<-aec p q a,<-ifB];refine Ax (λk b c=>?_) (λb=>?_) V7
  .unfold lL;rw[Q3,Q7,Q7,Q8];by_cases e:at' p (k:Int)=at' q (k:Int)
   .rw[if_neg (λh=>h e),zAe e,if_pos Z]
   .rw[if_pos e,zA6 e,if_neg Q2]
  .unfold lL zD;rw[Q0]
 .rw[Q3,zA6 (λe=>a (by rw[e]))]
def kwB (g:GR) (y:zV) (v i:Nat):Bool:=decide (nZ y.2.1 v i=at' y.1 (tE g v i:Int))&&Ee (nZ y.2.2 v i).length λk=>decide (at' (nZ y.2.2 v i) (k:Int)=at' y.1 (v:Int))
def knB (g:GR) (y:zV):V4:=Ee g.2.length λv=>Ee (row g v).length (kwB g y v)
section
variable {g:GR} {p:xO} {R:V6 RL} {y:zV}
theorem RH (hV:VG g) (hp:pV g p.2.1) (hz:p.2.2.map rS=Ge R) (hR:sK p.2.1.length R=true) {A:agX} (hA1:A.1=Cv g p.2.1) (hA2:A.2.1=fI g g.2.length) (hA3:A.2.2.2.1=kX g) (hA4:A.2.2.1=y.1) (hA5:A.2.2.2.2.1=y.2.1) {cp:Nat} (h:VY g p.2.1 cp y):
  bE (iL 1000 p g A) 1000 ((0:Int),(0:Int))=some (decide (((enR (bF p g) g R y:Nat):Int)=0)):=by
 have h24:=hV.n24;have hvl:=hp.len;have lc:=h.sh.c;have la:=h.sh.a.len;let q:Nat->Bool:=λv=>decide (0<=lK (bF p g) R (vw g y v) v);refine eJ (step:=iL 1000 p g A) (K:=some (decide (((Ab q g.2.length:Nat):Int)=0))) g.2.length (λk=>(((Ab q k:Nat):Int),(k:Int))) (λv ag hv=>?_) (λag=>?_) 1000 (by omega)
 rotate_left
 .unfold iL xA w_;dsimp only;rw[if_neg (by omega)]
 have hdeg:=(hV.node v hv).deg;have hrow:at' g.2 (v:Int)=row g v:=rfl;have ra:=h.sh.a.row v hv;have hm:=afv q (k:=v) (by omega);have hvw:=Se hV h.sh hv h.all;have hcw:=Rz hvw.1 hvw.2;unfold iL;simp only[hA4];rw[if_pos (by omega),cR (by omega),cR (by omega)];refine(Qo (s:=sG 1000 p g A (((Ab q v:Nat):Int),(v:Int)) ag) (K:=sD 1000 p g A (((Ab q v:Nat):Int),(v:Int)) ag) hV h.sh hv (λi c ag2 hi hcl=>?_) (λc ag2 hcl=>?_)).trans ?_
 .have hto:=Dp hV hv hi;have hul:=(yH hV hv hi).ul;have hl1:at' (row g v) (i:Int)=gR (row g v) i:=rfl;unfold sG;simp only[hrow,hl1,hto,hA5];rw[if_pos (by omega),cR (by omega),cR (by omega),cR (by omega),cR (by omega),cW (by omega),zAf]
 .unfold sG;simp only[hrow];rw[if_neg (by omega)]
 .unfold sD BC sC;simp only[hA2,hA3,hA1];rw[bA (show h_ 1000 _ (vw g y v) (v:Int)=_ from XQ hV hcw.shape hv hz hR (Cv g p.2.1)),cW (by omega)];show(if 0<=lK (bF p g) R (vw g y v) v then _ else _)=_;cases hq:q v with
  |true=>
   rw[if_pos (zB7 hq),cR (by omega),ahh hm (by omega)];simp only[Ab,hq,if_true]
  |false=>
   rw[if_neg (of_decide_eq_false hq)];simp only[Ab,hq];rfl
theorem Wc (hV:VG g) (hp:pV g p.2.1) (hz:p.2.2.map rS=Ge R) (hR:sK p.2.1.length R=true) (h:VY g p.2.1 8 y):wZ 1000 p g y ()=some (decide (((enR (bF p g) g R y:Nat):Int)=0)):=by
 unfold wZ;rw[bA (show lA 1000 _ _ _ _=_ from PT hV hp (by omega) h 8)];exact RH hV hp hz hR Z Z Z Z Z h
theorem Wd (hV:VG g) (hp:pV g p.2.1) (hz:p.2.2.map rS=Ge R) (hR:sK p.2.1.length R=true) (y:zV):qA 1000 p g y=some (ZE g p.2.1 8 y&&(knB g y&&decide (((enR (bF p g) g R y:Nat):Int)=0))):=by
 have h24:=hV.n24;have hvl:=hp.len;unfold qA;rw[bA (show qZ 1000 _ _ _ _=_ from UB hV hp 8 y)];cases hy:ZE g p.2.1 8 y
 .rfl
 obtain⟨_,h⟩:=MP.1 hy;have lc:=h.sh.c;have la:=h.sh.a.len;have lw:=h.sh.w.len;rw[if_neg (by decide),zBi];have key:bE (gG 1000 p g y) 1000 0=if knB g y=true then some (decide (((enR (bF p g) g R y:Nat):Int)=0))else some false:=by
  refine Ax (λv ag hv=>?_) (λag=>?_) (by omega)
  rotate_left
  .unfold gG;rw[if_neg (by omega)];exact Wc hV hp hz hR h
  have hdeg:=(hV.node v hv).deg;have hrow:at' g.2 (v:Int)=row g v:=rfl;have rc:=h.rowc hv;have ra:=h.sh.a.row v hv;have rw':=h.sh.w.row v hv;unfold gG;rw[if_pos (by omega),cR (by omega)];refine Ax (λi ag2 hi=>?_) (λag2=>?_) (by omega)
  rotate_left
  .unfold jN xB;rw[hrow,if_neg (by omega),cW (by omega)]
  have hto:=Dp hV hv hi;have hul:=(yH hV hv hi).ul;have rcu:=h.rowc hul;have hwl:=h.cp v i hv hi;have hl1:at' (row g v) (i:Int)=gR (row g v) i:=rfl;have e1:at' (at' y.2.1 (v:Int)) (i:Int)=nZ y.2.1 v i:=rfl;have e2:at' (at' y.2.2 (v:Int)) (i:Int)=nZ y.2.2 v i:=rfl;unfold jN kwB;rw[hrow,if_pos (by omega),cR (by omega),cR (by omega),cR (by omega),hl1,hto,cR (by omega),e1,bA (eqL _ _ (by omega))];cases decide (nZ y.2.1 v i=at' y.1 (tE g v i:Int))
  .rfl
  rw[if_neg (by decide),cR (by omega),cR (by omega),zBi];refine Eq.trans (b:=if Ee (nZ y.2.2 v i).length (λk=>decide (at' (nZ y.2.2 v i) (k:Int)=at' y.1 (v:Int)))=true then qQ (i:Int) ag2 ()else some false) (Ax (λk ag3 hk=>?_) (λag3=>?_) (by omega)) ?_
  .unfold xC AG;rw[e2,if_pos (by omega),cR (by omega)];dsimp only;rw[cR (by omega),bA (eqL _ _ (by omega)),bA Z];cases decide (at' (nZ y.2.2 v i) (k:Int)=at' y.1 (v:Int))
   .rw[if_pos (by decide),if_neg (by decide)];unfold nC sF sE;rw[if_pos (by rw[zA2];omega)]
   .rw[if_neg (by decide),if_pos (by decide),cW (by omega)]
  .unfold xC;rw[e2,if_neg (by omega)]
  .unfold qQ nC sF sE;rw[if_neg (show¬decide ((0:Int) <= -1)=true by decide),cW (by omega)]
 rw[key];cases knB g y<;>rfl
end
theorem LE (x:Int) (l:aX):iA (x::l)=if nz x=true then 0 else if iA l<0 then -1 else iA l+1:=by
 unfold iA;rw[List.findIdx?_cons];cases h:nz x with
 |true=>simp
 |false=>
  cases a:l.findIdx? nz with
  |none=>simp
  |some i=>simp<;>omega
def Lk (g:GR) (v i u:Nat) (w:Int):Prop:=i<(row g v).length/\u<g.2.length/\(gR (row g v) i).1=(u:Int)/\(gR (row g v) i).2=w
theorem VG.lk {g:GR} (c:VG g) {v i:Nat} (e:v<g.2.length) (b:i<(row g v).length):∃u w,Lk g v i u w:=by
 have⟨u,d,a,_⟩:=c.port e b;exact⟨u,_,b,d,a,rfl⟩
inductive Wv (g:GR) (F:Int->Int->Int):Nat->Int->Prop
 |zero:Wv g F 0 0
 |link {u v i:Nat} {y w:Int} (h:Wv g F u y) (hv:v<g.2.length) (hl:Lk g v i u w):Wv g F v (F y w)
structure nM (g:GR) (F:Int->Int->Int) (L:Int):Prop where
 L1:1<=L
 mono:∀y y' w,y<=y'->F y w<=F y' w
 up:∀v i u w y,v<g.2.length->Lk g v i u w->0<=y->y+L<=F y w
 reach:∀v,v<g.2.length->∃y,Wv g F v y
noncomputable def mI (g:GR) (F:Int->Int->Int) (v:Nat):Int:=open Classical in if h:∃y,Wv g F v y/\∀z,Wv g F v z->y<=z then Classical.choose h else 0
section
variable {g:GR} {F:Int->Int->Int} {L:Int}
theorem Wv.nonneg (a:nM g F L) {v:Nat} {y:Int} (h:Wv g F v y):0<=y:=by
 induction h with
 |zero=>exact Int.le_refl 0
 |link h c b d=>
  have:=a.up _ _ _ _ _ c b d;have:=a.L1;omega
theorem Dj (d:nM g F L) {v:Nat} (i:v<g.2.length):Wv g F v (mI g F v)/\∀z,Wv g F v z->mI g F v<=z:=by
 have e:∃y,Wv g F v y/\∀z,Wv g F v z->y<=z:=by
  have⟨y,b⟩:=d.reach v i;have c:∀n:Nat,∀y,y.toNat=n->Wv g F v y->∃y,Wv g F v y/\∀z,Wv g F v z->y<=z:=by
   intro n
   induction n using Nat.strongRecOn with
   | _ n ih =>
    intro y k b;by_cases h:∃z,Wv g F v z/\z<y
    .have⟨z,a,f⟩:=h;have j:=a.nonneg d;exact ih z.toNat V7 z Z a
    .exact⟨y,b,λz a=>Int.not_lt.1 λq=>h ⟨z,a,q⟩⟩
  exact c _ y Z b
 unfold mI;rw[dif_pos e];exact Classical.choose_spec e
theorem Dk (c:nM g F L) (d:0<g.2.length):mI g F 0=0:=by
 have⟨a,b⟩:=Dj c d;have:=b 0 .zero;have:=a.nonneg c;omega
theorem lZ (a:nM g F L) {v:Nat} (b:v<g.2.length):0<=mI g F v:=(Dj a b).1.nonneg a
theorem VL (a:nM g F L) {v i u:Nat} {w:Int} (c:v<g.2.length) (b:Lk g v i u w):mI g F v<=F (mI g F u) w:=
 (Dj a c).2 _ (.link (Dj a b.2.1).1 c b)
theorem JB (e:nM g F L) {v:Nat} (f:v<g.2.length) (j:v≠0):∃i u w,Lk g v i u w/\mI g F v=F (mI g F u) w/\mI g F u+L<=mI g F v:=by
 have h:=(Dj e f).1;generalize k:mI g F v=y at h;cases h with
 |zero=>exact absurd Z j
 | @link u _ i y w hu hv' hl=>
  have a:=(Dj e hl.2.1).2 _ hu;have b:=e.mono _ _ w a;have c:=VL e f hl;have d:=e.up _ _ _ _ _ f hl (lZ e hl.2.1);exact⟨i,u,w,hl,V7,V7⟩
def Cy (f:Nat->Int) (x:Int):Nat->Nat
 |0=>0
 |n+1=>Cy f x n+if f n<x then 1 else 0
theorem Ub {f:Nat->Int} {x:Int}:∀n,Cy f x n<=n
 |0=>zAg 0
 |n+1=>by
  have:=Ub (f:=f) (x:=x) n;unfold Cy;split<;>omega
theorem Ob {f:Nat->Int} {x y:Int} (h:x<=y):∀n,Cy f x n<=Cy f y n
 |0=>zAg 0
 |n+1=>by
  have:=Ob (f:=f) h n;unfold Cy;split<;>split<;>omega
theorem Uc {f:Nat->Int} {x y:Int} (h:x<=y) {u:Nat} (a:f u<y) (b:¬f u<x):∀{n},u<n->Cy f x n<Cy f y n
 | n + 1, hu =>by
  have c:=Ob (f:=f) h n;unfold Cy;by_cases e:u=n
  .subst e;rw[if_pos a,if_neg b];omega
  .have:=Uc h a b (n:=n) V7;split<;>split<;>omega
theorem Oc {f:Nat->Int} {v:Nat}:∀{n},v<n->Cy f (f v) n<n
 | n + 1, hv =>by
  have:=Ub (f:=f) (x:=f v) n;unfold Cy;by_cases e:v=n
  .subst e;rw[if_neg (Int.lt_irrefl _)];omega
  .have:=Oc (f:=f) (v:=v) (n:=n) V7;split<;>omega
noncomputable def rk (g:GR) (F:Int->Int->Int) (v:Nat):Nat:=Cy (mI g F) (mI g F v) g.2.length
theorem XN {v:Nat} (a:v<g.2.length):rk g F v<g.2.length:=Oc a
theorem V_ (a:nM g F L) {u v:Nat} (b:u<g.2.length) (h:mI g F u+L<=mI g F v):rk g F u<rk g F v:=by
 have:=a.L1;exact Uc V7 (u:=u) V7 V7 b
theorem XO (b:nM g F L) {v:Nat} (e:v<g.2.length) (h:rk g F v=0):v=0:=by
 refine Decidable.byContradiction λc=>?_;have⟨i,u,w,d,_,a⟩:=JB b e c;have:=V_ b d.2.1 a;omega
theorem ED (a:nM g F L) {b:Nat->Int} (c:0<=b 0) (d:∀v i u w k,v<g.2.length->Lk g v i u w->∀y,y<=b k->F y w<=b (k+1)) (j:∀k,b k<=b (k+1)):∀k v,v<g.2.length->rk g F v<=k->mI g F v<=b k
 |0,v,hv,h=>by
  obtain rfl:=XO a hv V7;rw[Dk a hv];exact c
 | k + 1, v, hv, h =>by
  by_cases m:v=0
  .have:=ED a c d j k 0 V7 (by
    have:rk g F 0=0:=by
     refine Decidable.byContradiction λq=>?_;have p:=Dk a (show 0<g.2.length by omega);have l:∀n,n<=g.2.length->Cy (mI g F) (mI g F 0) n=0:=by
      intro n
      induction n with
      |zero=>intro _;rfl
      |succ n r=>
       intro t;unfold Cy;rw[r V7,if_neg (by rw[p];have:=lZ a (show n<g.2.length by omega);omega)]
     exact q (l _ (zAg _))
    omega)
   subst m;have:=j k;omega
  .have⟨i,u,w,e,o,f⟩:=JB a hv m;have s:=V_ a e.2.1 f;have:=ED a c d j k u e.2.1 V7;rw[o];exact d v i u w k hv e _ this
def OE (g:GR) (F:Int->Int->Int) (d:Nat->Int) (x:Int):Prop:=∀v,v<g.2.length->min (d v) x=min (mI g F v) x
theorem OE.eq {d:Nat->Int} {x:Int} (h:OE g F d x) {v:Nat} (a:v<g.2.length) (b:d v<x\/mI g F v<x):d v=mI g F v:=by
 have:=h v a;omega
structure ZX (g:GR) (F:Int->Int->Int) (d:Nat->Int) (N:Int) (v:Nat) (X:Int):Prop where
 cap:X<=N
 le:∀i u w,Lk g v i u w->X<=F (d u) w
 eq:X=N\/∃i u w,Lk g v i u w/\X=F (d u) w
theorem Ni (j:nM g F L) {d c:Nat->Int} {N:Int} {r:Nat} (k:OE g F d ((r:Int)*L)) (p:∀v,v<g.2.length->0<=d v) (n:c 0=0) (o:∀v,v<g.2.length->mI g F v<=N) (s:∀v,v<g.2.length->v≠0->ZX g F d N v (c v)):OE g F c (((r+1:Nat):Int)*L):=by
 intro v f;have C:=j.L1;have y:((r+1:Nat):Int)*L=(r:Int)*L+L:=by push_cast;rw[Int.add_mul,Int.one_mul]
 rw[y];generalize (r:Int)*L=x at k;by_cases b:v=0
 .subst b;rw[n,Dk j f]
 .have⟨B,l,m⟩:=s v f b;have⟨i,u,w,a,D,q⟩:=JB j f b;have z:mI g F v<x+L->c v<=mI g F v:=λh=>by
   have e:=k.eq a.2.1 (.inr V7);have:=l i u w a;rw[e]at this;omega
  have A:mI g F v<=c v\/x+L<=c v:=by
   rcases m with e|⟨i,u,w,a,e⟩
   .left;rw[e];exact o v f
   .by_cases t:d u<x
    .left;rw[e,k.eq a.2.1 (.inl t)];exact VL j f a
    .right;rw[e];have:=j.up v i u w (d u) f a (p u a.2.1);omega
  omega
theorem TT (b:nM g F L) {d:Nat->Int} {x:Int} (c:OE g F d x) (f:∀v,v<g.2.length->0<=d v) {v i u:Nat} {w:Int} (e:v<g.2.length) (a:Lk g v i u w) (l:mI g F v<x+L):F (d u) w=mI g F v↔F (mI g F u) w=mI g F v:=by
 have j:=b.up v i u w (d u) e a (f u a.2.1);have k:=b.up v i u w (mI g F u) e a (lZ b a.2.1);constructor
 .intro h;rw[<-c.eq a.2.1 (.inl V7)];exact h
 .intro h;rw[c.eq a.2.1 (.inr V7)];exact h
end
def YX:E:= .bi 41 (.lf 10 0) (.bi 42 (.bi 36 (.lf 5 0) (.lf 1 0)) (.bi 36 (.lf 5 1) (.lf 4 0)))
def YW (eX eY:E):E:= .bi 41 (.un 19 (.lf 10 0)) (.bi 42 (.bi 36 (.lf 5 0) eX) (.bi 36 (.lf 5 1) eY))
def RY (eX eY:E):V6 RL:=[(YX,[(0,.lf 1 0),(1,.lf 4 0)]),(YW eX eY,[(0,eX),(1,eY)])]
def TU (c:bJ) (v:Nat):Int:=at' (at' c (v:Int)) 1
theorem vE (b:V4):yA b≠0↔b=true:=by cases b<;>simp[yA]
theorem ahf (b:V4):yA b=0↔b=false:=by cases b<;>simp[yA]
section
variable {p:xO} {g:GR} {c:V6 (V6 Int)} {v:Nat} {eX eY:E} {vars:V6 Ah}
def TY (p:xO) (g:GR) (c:V6 (V6 Int)) (v:Nat) (eX eY:E):Int×Int:=if v=0 then(0,-1)else(fY (bF p g) c v eX,fY (bF p g) c v eY)
theorem abv:fY (bF p g) c v YX≠0↔v=0/\(HR c v≠0\/TU c v ≠ -1):=by
 have e:fY (bF p g) c v YX=yA (decide (yA (decide ((v:Int)=0))≠0)&&decide (yA (decide (yA (decide (HR c v≠0))≠0)||decide (yA (decide (TU c v ≠ -1))≠0))≠0)):=rfl;rw[e,vE,zA8,zA2,zA2,vE,vE,zB5,zA2,zA2,zA2,vE,vE,zA2,zA2];constructor
 .rintro⟨a,b⟩;exact⟨V7,b⟩
 .rintro⟨a,b⟩;exact⟨V7,b⟩
theorem abu:fY (bF p g) c v (YW eX eY)≠0↔v≠0/\(HR c v≠fY (bF p g) c v eX\/TU c v≠fY (bF p g) c v eY):=by
 have e:fY (bF p g) c v (YW eX eY)=yA (decide (yA (decide (yA (decide ((v:Int)=0))=0))≠0)&&decide (yA (decide (yA (decide (HR c v≠fY (bF p g) c v eX))≠0)||decide (yA (decide (TU c v≠fY (bF p g) c v eY))≠0))≠0)):=rfl;rw[e,vE,zA8,zA2,zA2,vE,vE,zB5,zA2,zA2,zA2,ahf,vE,vE,zA2,zA2,decide_eq_false_iff_not];constructor
 .rintro⟨a,b⟩;exact⟨V7,b⟩
 .rintro⟨a,b⟩;exact⟨V7,b⟩
theorem agE:lK (bF p g) (RY eX eY) c v=if HR c v=(TY p g c v eX eY).1/\TU c v=(TY p g c v eX eY).2 then -1 else if v=0 then 0 else 1:=by
 have f:=abv (p:=p) (g:=g) (c:=c) (v:=v);have h:=abu (p:=p) (g:=g) (c:=c) (v:=v) (eX:=eX) (eY:=eY);unfold lK RY;simp only[zBd,List.map_nil];rw[LE,LE,show iA [] = -1 from rfl];have z:∀x:Int,nz x=true↔x≠0:=λx=>by simp[nz]
 unfold TY;by_cases b:v=0
 .rw[if_pos b,if_pos b];by_cases a:HR c v=0/\TU c v = -1
  .have d:¬nz (fY (bF p g) c v YX)=true:=by rw[z,f];rintro⟨_,q|q⟩;exact q a.1;exact q a.2
   have e:¬nz (fY (bF p g) c v (YW eX eY))=true:=by rw[z,h];exact λq=>q.1 b
   rw[if_pos a,if_neg d,if_neg e];rfl
  .have d:nz (fY (bF p g) c v YX)=true:=by
    rw[z,f];exact⟨b,Classical.byContradiction λq=>a ⟨Classical.not_not.1 λw=>q (.inl w),Classical.not_not.1 λw=>q (.inr w)⟩⟩
   rw[if_neg a,if_pos d]
 .rw[if_neg b,if_neg b];have d:¬nz (fY (bF p g) c v YX)=true:=by rw[z,f];exact λq=>b q.1
  by_cases a:HR c v=fY (bF p g) c v eX/\TU c v=fY (bF p g) c v eY
  .have e:¬nz (fY (bF p g) c v (YW eX eY))=true:=by rw[z,h];rintro⟨_,q|q⟩;exact q a.1;exact q a.2
   rw[if_pos a,if_neg d,if_neg e];rfl
  .have e:nz (fY (bF p g) c v (YW eX eY))=true:=by
    rw[z,h];exact⟨b,Classical.byContradiction λq=>a ⟨Classical.not_not.1 λw=>q (.inl w),Classical.not_not.1 λw=>q (.inr w)⟩⟩
   rw[if_neg a,if_neg d,if_pos e];rfl
theorem aiO (l:V6 Int) (h:l.length=2):∃a b,l=[a,b]:=by
 match l,h with
 | [a,b],_=>exact⟨a,b,rfl⟩
theorem Jm {k a b x:Int} (d:a<=x) (e:x<=b):rP k (a,b) x=x:=by unfold rP;rw[if_pos ⟨d,e⟩]
theorem akx (k:M_ g 2 c) (l:v<g.2.length) (d:lo g (at' vars ((0:Nat):Int)) v<=(TY p g c v eX eY).1/\(TY p g c v eX eY).1<=hi g (at' vars ((0:Nat):Int)) v) (f:lo g (at' vars ((1:Nat):Int)) v<=(TY p g c v eX eY).2/\(TY p g c v eX eY).2<=hi g (at' vars ((1:Nat):Int)) v):
  at' (DX (bF p g) vars (RY eX eY) c (Tm (bF p g) (RY eX eY) c)) (v:Int)=[(TY p g c v eX eY).1,(TY p g c v eX eY).2]:=by
 have o:=k.len;have⟨a,b,h⟩:=aiO _ (k.row v l);rw[Oi V7,My,zAe (show v<(bF p g).2.1.2.length from l),zBi,agE];have m:HR c v=a:=by unfold HR;rw[h];rfl
 have n:TU c v=b:=by unfold TU;rw[h];rfl
 by_cases j:HR c v=(TY p g c v eX eY).1/\TU c v=(TY p g c v eX eY).2
 .rw[if_pos j,if_neg Q2,h,<-j.1,<-j.2,m,n]
 .rw[if_neg j];by_cases i:v=0
  .rw[if_pos i,if_pos Q2];show((at' c (v:Int)).set 0 (rP (at' vars ((0:Nat):Int)).2.1 (lo g (at' vars ((0:Nat):Int)) v,hi g (at' vars ((0:Nat):Int)) v) 0)).set 1 (rP (at' vars ((1:Nat):Int)).2.1 (lo g (at' vars ((1:Nat):Int)) v,hi g (at' vars ((1:Nat):Int)) v) (-1))=_;have e:TY p g c v eX eY=(0,-1):=if_pos i;rw[e]at d f ⊢;rw[Jm d.1 d.2,Jm f.1 f.2,h];rfl
  .rw[if_neg i,if_pos Q2];show((at' c (v:Int)).set 0 (rP (at' vars ((0:Nat):Int)).2.1 (lo g (at' vars ((0:Nat):Int)) v,hi g (at' vars ((0:Nat):Int)) v) (fY (bF p g) c v eX))).set 1 (rP (at' vars ((1:Nat):Int)).2.1 (lo g (at' vars ((1:Nat):Int)) v,hi g (at' vars ((1:Nat):Int)) v) (fY (bF p g) c v eY))=_;have e:TY p g c v eX eY=(fY (bF p g) c v eX,fY (bF p g) c v eY):=if_neg i;rw[e]at d f ⊢;rw[Jm d.1 d.2,Jm f.1 f.2,h];rfl
end
def FL (g:GR) (F:Int->Int->Int) (c:bJ) (v:Nat):aX:=(List.range (row g v).length).map λi=>F (zO g c v i) (gR (row g v) i).2
noncomputable def LL (g:GR) (F:Int->Int->Int) (v:Nat):aX:=(List.range (row g v).length).map λi=>F (mI g F (gR (row g v) i).1.toNat) (gR (row g v) i).2
structure Pn (g:GR) (vars:List Ah) (eX eY:E) (F:Int->Int->Int) (L N:Int):Prop where
 grow:nM g F L
 cap:∀v,v<g.2.length->mI g F v<=N
 N0:0<=N/\N<1073741824
 len:vars.length=2
 ok:pV g vars
 lo0:∀v,lo g (at' vars ((0:Nat):Int)) v=0
 hi0:∀v,hi g (at' vars ((0:Nat):Int)) v=N
 lo1:∀v,lo g (at' vars ((1:Nat):Int)) v = -1
 hi1:∀v,hi g (at' vars ((1:Nat):Int)) v=((row g v).length:Int) - 1
 X:∀(p:xO) c v,FJ g c vars->v<g.2.length->v≠0->fY (bF p g) c v eX=min N (vV (FL g F c v))
 Y:∀(p:xO) c v,FJ g c vars->v<g.2.length->v≠0->fY (bF p g) c v eY=iA ((FL g F c v).map λy=>yA (decide (y=vV (FL g F c v))))
section
variable {p:xO} {g:GR} {vars:V6 Ah} {eX eY:E} {F:Int->Int->Int} {L N:Int} {c:V6 (V6 Int)} {v:Nat}
theorem LJ (h:VG g) {v i u:Nat} {w:Int} (d:Lk g v i u w) (c:V6 (V6 Int)):zO g c v i=HR c u/\(gR (row g v) i).2=w/\(gR (row g v) i).1.toNat=u:=by
 have⟨e,f,a,b⟩:=d;refine⟨?_,b,by rw[a];rfl⟩
 unfold zO HR;rw[a]
theorem ZT (e:VG g) {i u:Nat} {w:Int} (d:Lk g v i u w):F (HR c u) w∈FL g F c v:=by
 have⟨a,b,_⟩:=LJ e d c;exact zAr.2 ⟨i,zAj.2 d.1,by rw[a,b]⟩
theorem agc (d:VG g) (j:v<g.2.length) {y:Int} (h:y∈FL g F c v):∃i u w,Lk g v i u w/\y=F (HR c u) w:=by
 obtain⟨i,f,rfl⟩:=zAr.1 h;have⟨u,w,e⟩:=d.lk j (zAj.1 f);have⟨a,b,_⟩:=LJ d e c;exact⟨i,u,w,e,by rw[a,b]⟩
theorem Vu (l:V6 Int) : -1<=iA l/\iA l<=(l.length:Int) - 1:=by
 unfold iA;cases h:l.findIdx? nz with
 |none=>simp;omega
 |some i=>
  have:=(List.findIdx?_eq_some_iff_getElem.1 h).1;simp;omega
theorem Nr (S:Pn g vars eX eY F L N) (a:FJ g c vars) (b:v<g.2.length):0<=HR c v/\HR c v<=N:=by
 have:=a.ok v b 0 (by rw[S.len];omega);rw[S.lo0,S.hi0]at this;exact this
theorem agj (S:Pn g vars eX eY F L N) (j:VG g) (h:FJ g c vars) (f:v<g.2.length):(0<=(TY p g c v eX eY).1/\(TY p g c v eX eY).1<=N)/\(-1<=(TY p g c v eX eY).2/\(TY p g c v eX eY).2<=((row g v).length:Int) - 1):=by
 have m:=S.N0;unfold TY;by_cases b:v=0
 .rw[if_pos b];dsimp only;omega
 .rw[if_neg b];dsimp only;rw[S.X p c v h f b,S.Y p c v h f b];have n:0<=vV (FL g F c v):=by
   rcases Do (FL g F c v)with e|e
   .rw[e];decide
   .have⟨i,u,w,d,l⟩:=agc j f e;have a:=Nr S h d.2.1;have:=S.grow.up v i u w (HR c u) f d a.1;have:=S.grow.L1;omega
  have k:=Vu ((FL g F c v).map λy=>yA (decide (y=vV (FL g F c v))));have d:((FL g F c v).map λy=>yA (decide (y=vV (FL g F c v)))).length=(row g v).length:=by simp[FL]
  rw[d]at k;omega
theorem XE (S:Pn g vars eX eY F L N) (e:VG g) (a:FJ g c vars) (d:v<g.2.length):at' (DX (bF p g) vars (RY eX eY) c (Tm (bF p g) (RY eX eY) c)) (v:Int)=[(TY p g c v eX eY).1,(TY p g c v eX eY).2]:=by
 have h:=agj (p:=p) S e a d;have b:=a.shape;rw[S.len]at b;exact akx b d (by rw[S.lo0,S.hi0];exact h.1) (by rw[S.lo1,S.hi1];exact h.2)
theorem aci (S:Pn g vars eX eY F L N) (d:VG g) (a:FJ g c vars):FJ g (DX (bF p g) vars (RY eX eY) c (Tm (bF p g) (RY eX eY) c)) vars:=by
 have f:=a.len;refine⟨by rw[Zy];exact f,λv b=>?_,λv b x i=>?_⟩
 .rw[XE S d a b,S.len];rfl
 .have h:=agj (p:=p) S d a b;rw[S.len]at i;have e:val (DX (bF p g) vars (RY eX eY) c (Tm (bF p g) (RY eX eY) c)) v x=at' [(TY p g c v eX eY).1,(TY p g c v eX eY).2] (x:Int):=by
   show at' (at' _ (v:Int)) (x:Int)=_;rw[XE S d a b]
  rw[e];rcases(show x=0\/x=1 by omega)with rfl|rfl
  .rw[S.lo0,S.hi0];exact h.1
  .rw[S.lo1,S.hi1];exact h.2
theorem Ns (S:Pn g vars eX eY F L N) (a:VG g) (b:FJ g c vars) (d:v<g.2.length):HR (DX (bF p g) vars (RY eX eY) c (Tm (bF p g) (RY eX eY) c)) v=(TY p g c v eX eY).1/\TU (DX (bF p g) vars (RY eX eY) c (Tm (bF p g) (RY eX eY) c)) v=(TY p g c v eX eY).2:=by
 unfold HR TU;rw[XE S a b d];exact⟨rfl,rfl⟩
theorem agu (S:Pn g vars eX eY F L N) (d:VG g) (j:FJ g c vars) (f:v<g.2.length) (b:v≠0):ZX g F (HR c) N v (TY p g c v eX eY).1:=by
 have e:(TY p g c v eX eY).1=min N (vV (FL g F c v)):=by
  unfold TY;rw[if_neg b];exact S.X p c v j f b
 have l:=S.N0;rw[e];refine⟨V7,λi u w a=>?_,?_⟩
 .have:=CN (ZT (F:=F) (c:=c) d a);omega
 .by_cases h:N<=vV (FL g F c v)
  .left;omega
  .right;rcases Do (FL g F c v)with q|q
   .omega
   .have⟨i,u,w,a,k⟩:=agc d f q;exact⟨i,u,w,a,V7⟩
noncomputable def cS (p:xO) (g:GR) (vars:V6 Ah) (R:V6 RL) (a:V6 (V6 Int)):Nat->V6 (V6 Int)
 |0=>a
 |k+1=>DX (bF p g) vars R (cS p g vars R a k) (Tm (bF p g) R (cS p g vars R a k))
theorem Tb (S:Pn g vars eX eY F L N) (f:VG g) {d:V6 (V6 Int)} (i:FJ g d vars):∀r,FJ g (cS p g vars (RY eX eY) d r) vars/\OE g F (HR (cS p g vars (RY eX eY) d r)) ((r:Int)*L)
 |0=>⟨i,λv e=>by
  have a:=Nr S i e;have b:=lZ S.grow e;show min (HR d v) (((0:Nat):Int)*L)=min (mI g F v) (((0:Nat):Int)*L);rw[show((0:Nat):Int)=0 from rfl,Int.zero_mul];omega⟩
 | r + 1 =>by
  have⟨h,k⟩:=Tb S f i r;have l:=f.n1;refine⟨aci S f h,Ni S.grow k (N:=N) (λv e=>(Nr S h e).1) ?_ S.cap λv e j=>?_⟩
  .have:=(Ns (p:=p) S f h (v:=0) V7).1;exact this.trans (by unfold TY;rw[if_pos Z])
  .have:=(Ns (p:=p) S f h e).1;show ZX g F (HR (cS p g vars (RY eX eY) d r)) N v (HR (DX (bF p g) vars (RY eX eY) (cS p g vars (RY eX eY) d r) (Tm (bF p g) (RY eX eY) (cS p g vars (RY eX eY) d r))) v);rw[this];exact agu S f h e j
theorem MG {a:Type} [Inhabited a] (f:Nat->a) {n i:Nat} (h:i<n):at' ((List.range n).map f) (i:Int)=f i:=by
 rw[i_ (by simpa using h)];simp
theorem KR (S:Pn g vars eX eY F L N) (n:VG g) {k:Nat} (m:FJ g c vars) (o:OE g F (HR c) ((k:Int)*L)) (j:v<g.2.length) (l:mI g F v<((k+1:Nat):Int)*L) (f:(TY p g c v eX eY).1=mI g F v):
  (TY p g c v eX eY).2=if v=0 then -1 else iA ((LL g F v).map λy=>yA (decide (y=mI g F v))):=by
 by_cases e:v=0
 .unfold TY;rw[if_pos e,if_pos e]
 .unfold TY at f ⊢;rw[if_neg e]at f;rw[if_neg e,if_neg e];dsimp only at f ⊢;rw[S.X p c v m j e]at f;rw[S.Y p c v m j e];have x:((k+1:Nat):Int)*L=(k:Int)*L+L:=by push_cast;rw[Int.add_mul,Int.one_mul]
  rw[x]at l;have q:∀v,v<g.2.length->0<=HR c v:=λv j=>(Nr S m j).1;have r:vV (FL g F c v)=mI g F v:=by
   have⟨i,u,w,h,s,_⟩:=JB S.grow j e;have:=(TT S.grow o q j h l).2 s.symm;have:=CN (ZT (F:=F) (c:=c) n h);omega
  rw[r];congr 1;unfold FL LL;rw[List.map_map,List.map_map];refine zBa λi t=>?_;have⟨u,w,h⟩:=n.lk j (zAj.1 t);have⟨a,b,d⟩:=LJ n h c;show yA (decide (F (zO g c v i) (gR (row g v) i).2=mI g F v))=yA (decide (F (mI g F (gR (row g v) i).1.toNat) (gR (row g v) i).2=mI g F v));rw[a,b,d,decide_eq_decide.2 (TT S.grow o q j h l)]
theorem ahN (S:Pn g vars eX eY F L N) (e:VG g) {b:V6 (V6 Int)} (f:FJ g b vars) {K:Nat} (o:1<=K) (i:∀v,v<g.2.length->mI g F v<(K:Int)*L) (d:v<g.2.length):
  HR (cS p g vars (RY eX eY) b K) v=mI g F v/\TU (cS p g vars (RY eX eY) b K) v=if v=0 then -1 else iA ((LL g F v).map λy=>yA (decide (y=mI g F v))):=by
 obtain⟨k,rfl⟩:∃k,K=k+1:=⟨K - 1,V7⟩
 have a:=(Tb (p:=p) S e f (k+1)).2.eq d (.inr (i v d));have⟨h,n⟩:=Tb (p:=p) S e f k;have j:=Ns (p:=p) S e h d;have l:HR (cS p g vars (RY eX eY) b (k+1)) v=(TY p g (cS p g vars (RY eX eY) b k) v eX eY).1:=j.1;have m:TU (cS p g vars (RY eX eY) b (k+1)) v=(TY p g (cS p g vars (RY eX eY) b k) v eX eY).2:=j.2;exact⟨a,by rw[m,KR S e h n d (i v d) (l.symm.trans a)]⟩
end
def YP (a b:E):E:= .ite (.bi 37 (.ag 24 a) b) (.ag 24 a) b
def Tl (a:E):E:= .ag 23 (.bi 35 a (.ag 24 a))
section
variable {p:xO} {g:GR} {c:V6 (V6 Int)} {v:Nat} {F:Int->Int->Int} {eF eN:E} {N:Int}
def Yx (p:xO) (g:GR) (c:V6 (V6 Int)) (v:Nat) (eF:E) (F:Int->Int->Int):Prop:=∀i:Nat,i<(row g v).length->eF.den (KL (bF p g,c,(v:Int),[])) (row g v).length (i:Int)=F (zO g c v i) (gR (row g v) i).2
theorem P_ (h:Yx p g c v eF F):((List.range (row g v).length).map λq=>eF.den (KL (bF p g,c,(v:Int),[])) (row g v).length ((q:Nat):Int))=FL g F c v:=zBa λi a=>h i (zAj.1 a)
theorem Xm (h:Yx p g c v eF F) (a:fY (bF p g) c v eN=N):fY (bF p g) c v (YP eF eN)=min N (vV (FL g F c v)):=by
 have e:fY (bF p g) c v (YP eF eN)=if yA (decide (vV ((List.range (row g v).length).map λq=>eF.den (KL (bF p g,c,(v:Int),[])) (row g v).length ((q:Nat):Int))<fY (bF p g) c v eN))≠0 then vV ((List.range (row g v).length).map λq=>eF.den (KL (bF p g,c,(v:Int),[])) (row g v).length ((q:Nat):Int))else fY (bF p g) c v eN:=rfl;rw[e,P_ h,a];by_cases q:vV (FL g F c v)<N
 .rw[if_pos (by rw[vE];exact zAe q)];omega
 .rw[if_neg (by rw[vE];simpa using q)];omega
theorem QX (h:Yx p g c v eF F):fY (bF p g) c v (Tl eF)=iA ((FL g F c v).map λy=>yA (decide (y=vV (FL g F c v)))):=by
 have e:fY (bF p g) c v (Tl eF)=iA ((List.range (row g v).length).map λi=>yA (decide (eF.den (KL (bF p g,c,(v:Int),[])) (row g v).length ((i:Nat):Int)=vV ((List.range (row g v).length).map λq=>eF.den (KL (bF p g,c,(v:Int),[])) (row g v).length ((q:Nat):Int))))):=rfl;rw[e,P_ h];congr 1;have:FL g F c v=(List.range (row g v).length).map λi=>F (zO g c v i) (gR (row g v) i).2:=rfl
 conv=>rhs;rw[this,List.map_map]
 refine zBa λi a=>?_;show _=yA (decide (F (zO g c v i) (gR (row g v) i).2=_));rw[h i (zAj.1 a)];rfl
end
theorem C_ {x:Int} (a : -1000000<=x) (b:x<=1000000):KZ (wI .i64 x)=x:=by
 rw[Q9];unfold KZ;omega
theorem uD {g:GR} (b:VG g) {v i u:Nat} {w:Int} (d:v<g.2.length) (c:Lk g v i u w):1<=w/\w<=15:=by
 obtain⟨a,_,_,rfl⟩:=c;exact((b.node v d).links i a).2.2.1
theorem Od {g:GR} (a:VG g) (j:Ep g) (F:Int->Int->Int):∀v,v<g.2.length->∃y,Wv g F v y:=by
 have e:∀k v,xZ g 0 k v->∃y,Wv g F v y:=by
  intro k
  induction k with
  |zero=>rintro v ⟨rfl,_⟩;exact⟨0,.zero⟩
  |succ k o=>
   rintro v ⟨u,f,h⟩;have⟨y,n⟩:=o u f;have c:=xZ.lt a f;have d:=a.adj_lt c h;have⟨i,l,b⟩:=a.back c h;exact⟨_,.link (u:=u) (v:=v) (i:=i) (w:=(gR (row g v) i).2) n d ⟨l,c,b,rfl⟩⟩
 intro v d;have⟨k,m⟩:=j 0 v (by have:=a.n1;omega) d;exact e k v m
def eBX:E:= .ite (.bi 37 (.ag 24 (.lf 12 0)) (.lf 6 0)) (.bi 33 (.ag 24 (.lf 12 0)) (.lf 1 1)) (.lf 6 0)
def eBY:E:=Tl (.lf 12 0)
def fB (y _w:Int):Int:=y+1
def fP (y w:Int):Int:=y+w
def fW (n:Nat) (y w:Int):Int:=max (y+1) (w*(n:Int))
def ePF:E:= .bi 33 (.lf 12 0) (.lf 16 0)
def ePN:E:= .bi 30 (.lf 1 15) (.lf 6 0)
def eWF:E:= .ite (.bi 39 (.bi 33 (.lf 12 0) (.lf 1 1)) (.bi 30 (.lf 16 0) (.lf 6 0))) (.bi 33 (.lf 12 0) (.lf 1 1)) (.bi 30 (.lf 16 0) (.lf 6 0))
def eWN:E:= .bi 30 (.lf 1 16) (.lf 6 0)
def RBf:V6 RL:=RY eBX eBY
def RPa:V6 RL:=RY (YP ePF ePN) (Tl ePF)
def RWi:V6 RL:=RY (YP eWF eWN) (Tl eWF)
theorem XR:sK 2 RBf=true:=by decide +kernel
theorem XS:sK 2 RPa=true:=by decide +kernel
theorem XU:sK 2 RWi=true:=by decide +kernel
def Bi (a b:ByteArray) (k:Int):V6 Ah:=[(a,1,0,0,k,0),(b,3,0,0,0,0)]
theorem adC {g:GR} (e:VG g) (a b:ByteArray) {k:Int} (f:0<=k) (h:k<=16):pV g (Bi a b k):=by
 have i:=e.n24;have l:=e.n1;have m:k*(g.2.length:Int)<=16*24:=Int.mul_le_mul h V7 V7 V7;have j:0<=k*(g.2.length:Int):=zBh f V7;refine⟨by show 2<=20;omega,λx c=>?_,λx c=>?_,λx c d=>?_⟩
 .have c:x<2:=c;rcases(show x=0\/x=1 by omega)with rfl|rfl
  .show(-100000<=(0:Int)/\(0:Int)<=100000)/\(0<=k/\k<=100000)/\(0<=(0:Int)/\(0:Int)<=100000)
   omega
  .show(-100000<=(0:Int)/\(0:Int)<=100000)/\(0<=(0:Int)/\(0:Int)<=100000)/\(0<=(0:Int)/\(0:Int)<=100000)
   omega
 .have c:x<2:=c;rcases(show x=0\/x=1 by omega)with rfl|rfl
  .exact .inl Z
  .exact .inr (.inr Z)
 .have c:x<2:=c;rcases(show x=0\/x=1 by omega)with rfl|rfl
  .show -100000<=(0:Int)/\(0:Int)<=(0:Int)+k*(g.2.length:Int)+0*fI g g.1.length/\(0:Int)+k*(g.2.length:Int)+0*fI g g.1.length - 0+1<=4096;rw[Int.zero_mul];omega
  .exact absurd d (by show¬(3:Int)=1;decide)
theorem IW (a b:ByteArray) {k:Int} (d:0<=k) (e:k<=16):∀x,x<(Bi a b k).length->Eu (at' (Bi a b k) (x:Int)) /\ -100000<=(at' (Bi a b k) (x:Int)).2.2.1/\(at' (Bi a b k) (x:Int)).2.2.1<=(at' (Bi a b k) (x:Int)).2.2.2.1:=λx c=>by
 have c:x<2:=c;rcases(show x=0\/x=1 by omega)with rfl|rfl
 .show((-100000<=(0:Int)/\(0:Int)<=100000)/\(0<=k/\k<=100000)/\(0<=(0:Int)/\(0:Int)<=100000)) /\ -100000<=(0:Int)/\(0:Int)<=0;omega
 .show((-100000<=(0:Int)/\(0:Int)<=100000)/\(0<=(0:Int)/\(0:Int)<=100000)/\(0<=(0:Int)/\(0:Int)<=100000)) /\ -100000<=(0:Int)/\(0:Int)<=0;omega
theorem aff (g:GR) (a b:ByteArray) (k:Int) (v:Nat):hi g (at' (Bi a b k) ((0:Nat):Int)) v=k*(g.2.length:Int):=by
 show(0:Int)+k*(g.2.length:Int)+0*fI g g.1.length=_;rw[Int.zero_mul];omega
theorem JD {g:GR} (d:VG g) {a b:ByteArray} {k:Int} {c:V6 (V6 Int)} (h:FJ g c (Bi a b k)) {v i:Nat} (l:v<g.2.length) (j:i<(row g v).length):0<=zO g c v i/\zO g c v i<=k*(g.2.length:Int):=by
 have⟨u,w,f⟩:=d.lk l j;have⟨e,_⟩:=LJ d f c;have:=h.ok u f.2.1 0 (by show 0<2;omega);rw[aff]at this;rw[e];exact this
theorem aiX {g:GR} (j:VG g) (I:Ep g) (a b:ByteArray):Pn g (Bi a b 1) eBX eBY fB 1 (1*(g.2.length:Int)):=by
 have H:=j.n24;have K:=j.n1;have F:nM g fB 1:=⟨V7,λy N w h=>by unfold fB;omega,λv i u w y _ _ h=>by unfold fB;omega,Od j I fB⟩
 refine⟨F,λv m=>?_,V7,rfl,adC j a b V7 V7,λv=>rfl,aff g a b 1,λv=>rfl,λv=>rfl,λp c v D m t=>?_,λp c v D m t=>?_⟩
 .have:=ED F (b:=λk=>(k:Int)) V8 (λv i u w k _ _ y s=>by unfold fB;push_cast;omega) (λk=>by push_cast;omega) g.2.length v m (Nat.le_of_lt (XN m));omega
 .have C:((List.range (row g v).length).map λq=>zO g c v q).map (· + 1)=FL g fB c v:=by rw[List.map_map];rfl
  have e:fY (bF p g) c v eBX=if yA (decide (vV ((List.range (row g v).length).map λq=>zO g c v q)<(g.1.length:Int)))≠0 then KZ (wI .i64 (vV ((List.range (row g v).length).map λq=>zO g c v q)+1))else(g.1.length:Int):=rfl;rw[e,j.len,<-C];have d:∀x∈(List.range (row g v).length).map λq=>zO g c v q,0<=x/\x<=(g.2.length:Int):=λx n=>by
   obtain⟨i,f,rfl⟩:=zAr.1 n;have:=JD j D m (zAj.1 f);omega
  generalize (List.range (row g v).length).map (λq=>zO g c v q)=l at d ⊢;rcases Do l with q|q
  .have J:l=[]\/∃x,x∈l:=by cases l with|nil=>exact .inl Z|cons x r=>exact .inr ⟨x,zAd⟩
   rcases J with rfl|⟨x,n⟩
   .have t:vV []=1073741824:=rfl;have A:vV (([]:V6 Int).map (· + 1))=1073741824:=rfl;rw[t,A,if_neg (by rw[vE,zA2];omega)];omega
   .have:=CN n;have:=d x n;omega
  .have A:=d _ q;have B:vV (l.map (· + 1))=vV l+1:=by
    have G:=CN (zAr.2 ⟨_,q,rfl⟩:vV l+1∈l.map (· + 1));rcases Do (l.map (· + 1))with z|z
    .omega
    .have⟨y,s,e⟩:=zAr.1 z;have:=CN s;omega
   rw[B];by_cases o:vV l<(g.2.length:Int)
   .rw[if_pos (by rw[vE];exact zAe o),C_ V7 V7];omega
   .rw[if_neg (by rw[vE];simpa using o)];omega
 .have L:Yx p g c v (.lf 12 0) (λy _=>y):=λi f=>rfl;have e:=QX L;show fY (bF p g) c v (Tl (.lf 12 0))=_;rw[e];congr 1;unfold FL;rw[List.map_map,List.map_map];refine zBa λi f=>?_;have f:=zAj.1 f;show yA (decide (zO g c v i=vV ((List.range (row g v).length).map λi=>zO g c v i)))=yA (decide (zO g c v i+1=vV ((List.range (row g v).length).map λi=>zO g c v i+1)));have C:((List.range (row g v).length).map λq=>zO g c v q).map (· + 1)=(List.range (row g v).length).map λi=>zO g c v i+1:=by rw[List.map_map];rfl
  rw[<-C];have E:zO g c v i∈(List.range (row g v).length).map λq=>zO g c v q:=zAr.2 ⟨i,zAj.2 f,rfl⟩;have d:∀x∈(List.range (row g v).length).map λq=>zO g c v q,0<=x/\x<=(g.2.length:Int):=λx n=>by
   obtain⟨i,f,rfl⟩:=zAr.1 n;have:=JD j D m (zAj.1 f);omega
  generalize (List.range (row g v).length).map (λq=>zO g c v q)=l at d E ⊢;have B:vV (l.map (· + 1))=vV l+1:=by
   have A:=CN E;have M:=d _ E;rcases Do l with q|q
   .omega
   .have G:=CN (zAr.2 ⟨_,q,rfl⟩:vV l+1∈l.map (· + 1));rcases Do (l.map (· + 1))with z|z
    .have:=d _ q;omega
    .have⟨y,s,e⟩:=zAr.1 z;have:=CN s;omega
  rw[B];congr 1;exact decide_eq_decide.2 V7
theorem aky {g:GR} (e:VG g) (r:Ep g) (a b:ByteArray) {L:Int} (s:1<=L) (z:∀v i u w,v<g.2.length->Lk g v i u w->L<=w):Pn g (Bi a b 15) (YP ePF ePN) (Tl ePF) fP L (15*(g.2.length:Int)):=by
 have q:=e.n24;have x:=e.n1;have l:nM g fP L:=⟨s,λy D w h=>by unfold fP;omega,λv i u w y d f h=>by have:=z v i u w d f;unfold fP;omega,Od e r fP⟩
 have m:∀(p:xO) c v,FJ g c (Bi a b 15)->v<g.2.length->Yx p g c v ePF fP:=λp c v j d i n=>by
  show KZ (wI .i64 (zO g c v i+(gR (row g v) i).2))=zO g c v i+(gR (row g v) i).2;have A:=JD e j d n;have⟨u,w,f⟩:=e.lk d n;have B:=uD e d f;rw[f.2.2.2];exact C_ V7 V7
 have t:∀(p:xO) c (v:Nat),fY (bF p g) c v ePN=15*(g.2.length:Int):=λp c v=>by
  show KZ (wI .i64 (15*(g.1.length:Int)))=_;rw[e.len];exact C_ V7 V7
 refine⟨l,λv d=>?_,V7,rfl,adC e a b V7 V7,λv=>rfl,aff g a b 15,λv=>rfl,λv=>rfl,λp c v j d o=>Xm (m p c v j d) (t p c v),λp c v j d o=>QX (m p c v j d)⟩
 have:=ED l (b:=λk=>15*(k:Int)) V8 (λv i u w k d f y C=>by have:=uD e d f;unfold fP;push_cast;omega) (λk=>by push_cast;omega) g.2.length v d (Nat.le_of_lt (XN d));exact this
theorem akz {g:GR} (e:VG g) (A:Ep g) (a b:ByteArray):Pn g (Bi a b 16) (YP eWF eWN) (Tl eWF) (fW g.2.length) 1 (16*(g.2.length:Int)):=by
 have z:=e.n24;have C:=e.n1;have m:∀w:Int,1<=w->w<=15->0<=w*(g.2.length:Int)/\w*(g.2.length:Int)<=15*(g.2.length:Int):=λw t f=>⟨zBh V7 V7,Int.mul_le_mul_of_nonneg_right f V7⟩
 have n:nM g (fW g.2.length) 1:=⟨V7,λy F w h=>by unfold fW;omega,λv i u w y d l h=>by unfold fW;omega,Od e A _⟩
 have o:∀(p:xO) c v,FJ g c (Bi a b 16)->v<g.2.length->Yx p g c v eWF (fW g.2.length):=λp c v j d i r=>by
  have t:=JD e j d r;have⟨u,w,l⟩:=e.lk d r;have f:=uD e d l;have D:=m w f.1 f.2;show(if yA (decide (KZ (wI .i64 ((gR (row g v) i).2*(g.1.length:Int)))<KZ (wI .i64 (zO g c v i+1))))≠0 then KZ (wI .i64 (zO g c v i+1))else KZ (wI .i64 ((gR (row g v) i).2*(g.1.length:Int))))=fW g.2.length (zO g c v i) (gR (row g v) i).2;rw[l.2.2.2,e.len,C_ (x:=w*_) V7 V7,C_ (x:=zO g c v i+1) V7 V7];unfold fW;by_cases q:w*(g.2.length:Int)<zO g c v i+1
  .rw[if_pos (by rw[vE];exact zAe q)];omega
  .rw[if_neg (by rw[vE];simpa using q)];omega
 have B:∀(p:xO) c (v:Nat),fY (bF p g) c v eWN=16*(g.2.length:Int):=λp c v=>by
  show KZ (wI .i64 (16*(g.1.length:Int)))=_;rw[e.len];exact C_ V7 V7
 refine⟨n,λv d=>?_,V7,rfl,adC e a b V7 V7,λv=>rfl,aff g a b 16,λv=>rfl,λv=>rfl,λp c v j d s=>Xm (o p c v j d) (B p c v),λp c v j d s=>QX (o p c v j d)⟩
 have:=ED n (b:=λk=>15*(g.2.length:Int)+(k:Int)) Q1 (λv i u w k d l y E=>by
  have f:=uD e d l;have:=m w f.1 f.2;unfold fW;push_cast;omega) (λk=>by push_cast;omega) g.2.length v d (Nat.le_of_lt (XN d))
 omega
end Go.Proofs.YtflciafboapaaaaGreat