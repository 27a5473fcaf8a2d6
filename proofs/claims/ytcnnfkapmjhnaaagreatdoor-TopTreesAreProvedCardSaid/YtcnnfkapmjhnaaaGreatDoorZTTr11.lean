/- Models and proofs. Conditions: none. -/
import Derived.Test.YtcnnfkapmjhnaaaGreatDoorZTTr9
import Derived.Test.YtcnnfkapmjhnaaaGreatDoorZTTr10
import Derived.Test.YtcnnfkapmjhnaaaGreatDoorZTTr8
import Derived.Test.YtcnnfkapmjhnaaaGreatDoorZTTr2
set_option linter.unusedVariables false
set_option linter.unusedSimpArgs false
set_option maxHeartbeats 4000000
set_option maxRecDepth 20000
namespace Go.Proofs.YtcnnfkapmjhnaaaGreatDoor
open Go Go.Sx
noncomputable def PE (m:Nat):Nat:=open Classical in if h:∃k,Ku m k then 2^Classical.choose h else 0
theorem Ku.det {m k j:Nat} (h:Ku m k) (a:Ku m j):k=j:=by
 rcases zB0 k j with q|q|q
 ·have:=a.low k q;rw[h.bit]at this;cases this
 ·exact q
 ·have:=h.low j q;rw[a.bit]at this;cases this
theorem PG {m k:Nat} (h:Ku m k):PE m=2^k:=by
 unfold PE;have e:∃k,Ku m k:=⟨k,h⟩
 rw[dif_pos e,(Classical.choose_spec e).det h]
theorem Jw:PE 0=0:=by
 unfold PE;rw[dif_neg];rintro⟨k,h⟩;have:=h.bit;simp at this
noncomputable def IZ (g:GR) (W:Nat):Nat->Nat
 |0=>0
 |v+1=>open Classical in if W.testBit v=true∧∀u,(IZ g W v).testBit u=true->¬KH g v u then IZ g W v ||| 2^v else IZ g W v
theorem Mg {g:GR} {W s:Nat}:∀{k:Nat},s<=k->(∀i,s<=i->i<k->W.testBit i=false)->IZ g W k=IZ g W s
 |0,h,_=>by rw[show s=0 by omega]
 |k+1,h,hb=>by
  by_cases e:s=k+1
  ·rw[e]
  ·rw[IZ,if_neg (λq=>by have:=hb k (by omega) (by omega);rw[this]at q;exact absurd q.1 (by decide)),Mg (by omega) λi a b=>hb i a (by omega)]
theorem Pr {g:GR} {W:Nat}:∀{k i:Nat},(IZ g W k).testBit i=true->W.testBit i=true∧i<k
 |0,i,h=>by simp[IZ]at h
 | k + 1, i, h => by
  rw[IZ]at h;split at h
  ·rename_i q;rw[Nat.testBit_or,zAu,zAx,zA1]at h;rcases h with h|rfl
   ·obtain⟨a,b⟩:=Pr h;exact⟨a,by omega⟩
   ·exact⟨q.1,by omega⟩
  ·obtain⟨a,b⟩:=Pr h;exact⟨a,by omega⟩
theorem afB {g:GR} {W k:Nat} (c:k<=32):IZ g W k<4294967296:=by
 refine zAo (Nat.lt_pow_two_of_testBit (n:=32) _ λi b=> ?_) (zAe _);cases a:(IZ g W k).testBit i with
 |false=>rfl
 |true=>have:=(Pr a).2;omega
theorem acL {g:GR} (hV:VG g) {r:aO} (hN:Ly g r) {W:Nat} (hW:Qp g W) (F:Nat):∀(d s fuel rest:Nat),s+d=32->rest<4294967296->(∀i,rest.testBit i=(decide (s<=i)&&W.testBit i))->d<fuel->
  bH (cI F r) fuel ((rest:Int),((IZ g W s:Nat):Int))=some ((IZ g W 32:Nat):Int):=by
 have h24:=hV.n24;intro d
 induction d using Nat.strongRecOn with
 | _ d ih =>
  intro s fuel rest hs hr hb hf;obtain⟨fuel,rfl⟩:∃f,fuel=f+1:=⟨fuel - 1,by omega⟩
  have hun:bH (cI F r) (fuel+1) ((rest:Int),((IZ g W s:Nat):Int))=cI F r ((rest:Int),((IZ g W s:Nat):Int)) (bH (cI F r) fuel):=rfl;rw[hun];unfold cI kC iD;dsimp only;by_cases h0:rest=0
  ·rw[if_neg (by omega),Mg (s:=s) (k:=32) (by omega) λi h1 _=>by
    have:=hb i;rw[h0,Nat.zero_testBit,zA9 h1,Bool.true_and]at this;exact this.symm]
  obtain⟨k,hk⟩:=Fx h0;have hkb:=hb k;rw[hk.bit]at hkb;have hks:s<=k:=by
   rcases zAp k s with q|q
   ·rw[zA8 (by omega)]at hkb;cases hkb
   ·exact q
  have hkW:W.testBit k=true:=by
   rw[zA9 hks,Bool.true_and]at hkb;exact hkb.symm
  have hkn:=hW k hkW;have hk32:k<32:=by omega
  have hgk:IZ g W k=IZ g W s:=Mg hks λi h1 h2=>by
   have h3:=hk.low i h2;rw[hb i,zA9 h1,Bool.true_and]at h3;exact h3
  have ht32:=afB (g:=g) (W:=W) (k:=s) (by omega);obtain⟨m,hm,hm32,hbits⟩:=hN.at' k hkn;obtain⟨m',e1,e2,e3⟩:=Pe hr hk;have hb':∀i,m'.testBit i=(decide (k+1<=i)&&W.testBit i):=λi=>by
   rw[e3,hb];rcases zB0 i k with q|q|q
   ·have h3:=hk.low i q;rw[hb]at h3;rw[h3,zA8 (show¬k+1<=i by omega)];simp
   ·rw[q,zA8 (show¬k+1<=k by omega)];simp
   ·rw[zA9 (show s<=i by omega),zA9 (show k+1<=i by omega),zA9 (show i≠k by omega)];simp
  have hcond:m &&& IZ g W s=0↔∀u,(IZ g W k).testBit u=true->¬KH g k u:=by
   rw[hgk];constructor
   ·intro hz u hu ha;have:=congrArg (λq=>q.testBit u) hz;simp only[Nat.testBit_and,Nat.zero_testBit,(hbits u).2 ha,hu]at this;cases this
   ·intro h;refine zBa λi=> ?_;rw[Nat.testBit_and,Nat.zero_testBit];cases h1:m.testBit i with
    |false=>rfl
    |true=>
     cases h2:(IZ g W s).testBit i with
     |false=>rfl
     |true=>exact absurd ((hbits i).1 h1) (h i h2)
  rw[if_pos (by omega),bB (aaw F hr hk),cK (by have:=hN.len;omega),hm,CJ hm32 ht32,e1];by_cases hz:m &&& IZ g W s=0
  ·have hn:IZ g W (k+1)=IZ g W s ||| 2^k:=by rw[IZ,if_pos ⟨hkW,hcond.1 hz⟩,hgk]
   rw[hz,if_pos (by rfl),cK (by omega),LG ht32 hk32,<-hn];exact ih (32 - (k+1)) (by omega) (k+1) fuel m' (by omega) e2 hb' (by omega)
  ·have hn:IZ g W (k+1)=IZ g W s:=by rw[IZ,if_neg (λq=>hz (hcond.2 q.2)),hgk]
   rw[if_neg (by omega),<-hn];exact ih (32 - (k+1)) (by omega) (k+1) fuel m' (by omega) e2 hb' (by omega)
noncomputable def IV (e w:Nat):Nat:=if w &&& e=0 then PE e else w &&& e
noncomputable def af_ (g:GR) (a:Int) (e W:Nat):Nat:=if a=1 then PE W else if a=2 then IZ g W 32 else if a=4 then e else W
noncomputable def MH (g:GR) (a:Int) (e w:Nat):Nat:=af_ g a e (IV e w)
theorem ahr {m:Nat} (hm:m<4294967296):eW .u32 (m:Int) (wI .u32 (0 - (m:Int)))=((PE m:Nat):Int):=by
 by_cases h0:m=0
 ·rw[h0,Jw];rfl
 ·obtain⟨k,hk⟩:=Fx h0;rw[ada hm hk,PG hk]
theorem Zt {m i:Nat} (h:(PE m).testBit i=true):m.testBit i=true:=by
 by_cases a:m=0
 ·rw[a,Jw]at h;simp at h
 ·obtain⟨k,b⟩:=Fx a;rw[PG b,zAu,zA1]at h;rw[<-h];exact b.bit
theorem Xu {e w i:Nat} (h:(IV e w).testBit i=true):e.testBit i=true:=by
 unfold IV at h;split at h
 ·exact Zt h
 ·rw[Nat.testBit_and,zA4]at h;exact h.2
theorem ac_ {m:Nat} (c:m<4294967296):PE m<4294967296:=by
 by_cases a:m=0
 ·rw[a,Jw];omega
 ·obtain⟨k,b⟩:=Fx a;rw[PG b];exact IA (Hn c b.bit)
theorem aaO {e w:Nat} (a:e<4294967296) (b:w<4294967296):IV e w<4294967296:=by
 unfold IV;split
 ·exact ac_ a
 ·exact OP b
theorem aah {g:GR} (hV:VG g) {r:aO} (hN:Ly g r) (kind:Int) {e w:Nat} (he:Qp g e) (hw:w<4294967296):dO 1000 r kind (e:Int) (w:Int)=some ((MH g kind e w:Nat):Int):=by
 have he24:=he.lt hV;have hW32:=aaO (e:=e) (w:=w) (by omega) hw;have hWG:Qp g (IV e w):=λi hi=>he i (Xu hi);have e1:dO 1000 r kind (e:Int) (w:Int)=f_ 1000 r kind (e:Int) ((IV e w:Nat):Int):=by
  unfold dO IV;rw[CJ hw (by omega)];by_cases h0:w &&& e=0
  ·rw[h0,if_pos (show((0:Nat):Int)=0 from rfl),if_pos Z,ahr (by omega)]
  ·rw[if_neg (by omega),if_neg h0]
 rw[e1];unfold MH;generalize IV e w=W at hW32 hWG ⊢;unfold af_;unfold f_ mX;by_cases k1:kind=1
 ·rw[if_pos k1,if_pos k1,ahr hW32]
 rw[if_neg k1,if_neg k1];by_cases k2:kind=2
 ·rw[if_pos k2,if_pos k2];exact acL hV hN hWG 1000 32 0 1000 W (by omega) hW32 (λi=>by simp) (by omega)
 rw[if_neg k2,if_neg k2];by_cases k4:kind=4
 ·rw[if_pos k4,if_pos k4]
 ·rw[if_neg k4,if_neg k4]
section
variable {p:Ap} {g:GR} {R:List RL}
theorem TH (hV:VG g) (hp:CW g p.2.1) (hz:p.2.2.map uF=Gv R) (hR:wL p.2.1.length R=true) {kind:Int} (hk1:1<=kind) (hk4:kind<=4) {c0:List (List Int)} (hc0:HU g c0 p.2.1) {ws:List Int} (hws:ws.length<=900) (hw:∀k:Nat,k<ws.length->∃m:Nat,at' ws (k:Int)=(m:Int)∧m<4294967296)
  (P:Nat->List (List Int)->List Nat->CT->List Int->Prop) (h0:P 0 c0 [] (0,0,0,0,eW .u32 ((Dh (bO p g) R (pK g) c0:Nat):Int) 16777215) [((Dh (bO p g) R (pK g) c0:Nat):Int)])
  (hstep:∀k c ch cnt ens t cnt' err,k<ws.length->yL g p.2.1.length c->P k c ch cnt ens->Dh (bO p g) R (pK g) c≠0->t≠0->(∀i,t.testBit i=true->(Dh (bO p g) R (pK g) c).testBit i=true)->(kind<=2->∀v u,t.testBit v=true->t.testBit u=true->¬KH g v u)->(kind=4->t=Dh (bO p g) R (pK g) c)->(∃net,pQ 1000 g=some net∧dO 1000 net kind ((Dh (bO p g) R (pK g) c:Nat):Int) (at' ws (k:Int))=some (t:Int))->
   jH 1000 cnt (t:Int) ((Dh (bO p g) R (pK g) (kU (bO p g) p.2.1 R c t):Nat):Int)=some (cnt',err)->P (k+1) (kU (bO p g) p.2.1 R c t) (ch++[t]) cnt' (ens++[((Dh (bO p g) R (pK g) (kU (bO p g) p.2.1 R c t):Nat):Int)])):
  ∃k c ch cnt ens,mB 1000 p g kind c0 ws=some ((Rj ch,ens,c,cnt),0)∧P k c ch cnt ens∧yL g p.2.1.length c∧k<=ws.length∧ch.length=k∧ens.length=k+1∧at' ens (k:Int)=((Dh (bO p g) R (pK g) c:Nat):Int)∧(k=ws.length∨Dh (bO p g) R (pK g) c=0):=by
 have h24:=hV.n24;have hvl:=hp.len;let S:=bO p g;have hVS:VG S.2.1:=hV;obtain⟨net,hnet,hN⟩:=ZE hV;have hcheck:Bb 1000 p g kind c0 (ws.length:Int)=some 0:=by
  unfold Bb;rw[bB (show uL 1000 _ _ c0=_ from YA hV hp hc0),if_neg (by decide)];have:zP 1000 kind=some true:=by
   unfold zP sP;rw[if_pos hk1,zA9 hk4]
  rw[bB this,if_neg (by decide),if_neg (by omega)]
 unfold mB;rw[bB (show Bb 1000 _ _ kind c0 _=_ from hcheck),if_neg (by decide),cK (by omega),Xk hV p kind c0 ws];unfold wY AL;rw[bB (show oZ 1000 _ _=_ from Su hV hp)];unfold AK;rw[bB (show pQ 1000 _=_ from hnet),bB (show A_ 1000 _=some ((pK g:Nat):Int)from aeB hV)];have hen:∀c,yL g p.2.1.length c->fE 1000 (p,(p,g,lY g g.2.length,gR g),Ey g p.2.1) c=some ((Rc S R c:Nat):Int):=λc hc=>TF hV hc hz hR (by simp[Ey]);have hand:∀c,eW .u32 ((Rc S R c:Nat):Int) ((pK g:Nat):Int)=((Dh S R (pK g) c:Nat):Int):=λc=>CJ (afr hVS R c) (abn hV);unfold Dc;dsimp only;rw[bB (Vf c0 (by rw[hc0.len];omega) (λv hv=>by rw[hc0.row v (by rw[<-hc0.len];exact hv)];omega)),bB (show fE 1000 _ c0=_ from hen c0 hc0.shape),hand,bB (show xO 1000 _=some (0,0,0,0,eW .u32 ((Dh S R (pK g) c0:Nat):Int) 16777215)from rfl),bB (show vK 1000 _ _ _=some ()from rfl),cK (by simp),List.nil_append];let A20:Int×List Int×(List (List (Int×Int)))×Int×List (List Int):=(((pK g:Nat):Int),net,Ey g p.2.1,lY g g.2.length,gR g)
 have fin:∀k c ch cnt ens,P k c ch cnt ens->yL g p.2.1.length c->k<=ws.length->ch.length=k->ens.length=k+1->at' ens (k:Int)=((Dh S R (pK g) c:Nat):Int)->(k=ws.length∨Dh S R (pK g) c=0)->
   OK (λr:(List Int×List Int×List (List Int)×CT)×Int=>∃k c ch cnt ens,r=((Rj ch,ens,c,cnt),0)∧P k c ch cnt ens∧yL g p.2.1.length c∧k<=ws.length∧ch.length=k∧ens.length=k+1∧at' ens (k:Int)=((Dh S R (pK g) c:Nat):Int)∧(k=ws.length∨Dh S R (pK g) c=0)) (wX (ens,cnt.1,cnt.2.1,cnt.2.2.1,cnt.2.2.2.1,cnt.2.2.2.2,c,Rj ch)):=
  λk c ch cnt ens a1 a2 a3 a4 a5 a6 a7=>⟨_,rfl,k,c,ch,cnt,ens,rfl,a1,a2,a3,a4,a5,a6,a7⟩
 have key:=vJ (step:=wZ 1000 p g kind ws A20) (Q:=λr:(List Int×List Int×List (List Int)×CT)×Int=>∃k c ch cnt ens,r=((Rj ch,ens,c,cnt),0)∧P k c ch cnt ens∧yL g p.2.1.length c∧k<=ws.length∧ch.length=k∧ens.length=k+1∧at' ens (k:Int)=((Dh S R (pK g) c:Nat):Int)∧(k=ws.length∨Dh S R (pK g) c=0))
  (λx=>∃(k:Nat) (c:List (List Int)) (ch:List Nat) (cnt:CT) (ens:List Int),x=(((Dh S R (pK g) c:Nat):Int),ens,(k:Int),cnt.1,cnt.2.1,cnt.2.2.1,cnt.2.2.2.1,cnt.2.2.2.2,c,Rj ch)∧P k c ch cnt ens∧yL g p.2.1.length c∧k<=ws.length∧ch.length=k∧ens.length=k+1∧at' ens (k:Int)=((Dh S R (pK g) c:Nat):Int)) (λx=>ws.length - x.2.2.1.toNat) (λx ag hI hrec=>by
  obtain⟨k,c,ch,cnt,ens,rfl,b1,b2,b3,b4,b5,b6⟩:=hI;unfold wZ;dsimp only;by_cases hlt:k<ws.length
  rotate_left
  ·rw[if_neg (by omega)];exact fin k c ch cnt ens b1 b2 b3 b4 b5 b6 (.inl (by omega))
  obtain⟨w,hwe,hw32⟩:=hw k hlt;have hin:Qp g (Dh S R (pK g) c):=TE S R (pK g) c;obtain⟨t,ht,hsub,hne⟩:=Uc hV hN hk1 hk4 hin hw32;rw[if_pos (by omega),cK (by omega),hwe,bB (show dO 1000 net kind _ _=_ from ht)];unfold De;dsimp only;by_cases he0:Dh S R (pK g) c=0
  ·rw[if_pos (by omega)];exact fin k c ch cnt ens b1 b2 b3 b4 b5 b6 (.inr he0)
  obtain⟨ht0,hperm,hk2,hk4'⟩:=hne he0;have ht32:t<4294967296:=by have:=Qp.lt hV (λi hi=>hin i (hsub i hi));omega
  rw[if_neg (by omega),bB (show gQ 1000 net kind _ _=_ from hperm),if_neg (by decide)];have hst:kF 1000 (p,(p,g,lY g g.2.length,gR g),Ey g p.2.1) c (t:Int)=some (kU S p.2.1 R c t):=adD (gr:=lY g g.2.length) hV hp b2 hz hR ht32 (λv hv=>((Pn S R (pK g) c v).1 (hsub v hv)).2.1);have hsh:yL g p.2.1.length (kU S p.2.1 R c t):=b2.step;obtain⟨⟨cnt',err⟩,hadd⟩:=Yh cnt ht32 ((Dh S R (pK g) (kU S p.2.1 R c t):Nat):Int);rw[bB (show kF 1000 _ c (t:Int)=_ from hst),bB (show fE 1000 _ _=_ from hen _ hsh),hand,bB (show jH 1000 _ (t:Int) _=_ from hadd),bB (show vK 1000 _ _ _=some ()from rfl),cK (by simp[Rj];omega),cK (by simp;omega),dL (by omega)];refine hrec _ ⟨k+1,kU S p.2.1 R c t,ch++[t],cnt',ens++[((Dh S R (pK g) (kU S p.2.1 R c t):Nat):Int)],by simp[Rj],hstep k c ch cnt ens t cnt' err hlt b2 b1 he0 ht0 hsub hk2 hk4' ⟨net,hnet,by rw[hwe];exact ht⟩ hadd,hsh,by omega,by simp[b4],by simp[b5],?_⟩ (by dsimp only;omega);exact OS (pre:=ens) (rest:=[]) (by simp) b5) 1000 (((Dh S R (pK g) c0:Nat):Int),[((Dh S R (pK g) c0:Nat):Int)],(0:Int),0,0,0,0,eW .u32 ((Dh S R (pK g) c0:Nat):Int) 16777215,c0,[])
  ⟨0,c0,[],(0,0,0,0,eW .u32 ((Dh S R (pK g) c0:Nat):Int) 16777215),[((Dh S R (pK g) c0:Nat):Int)],rfl,h0,hc0.shape,by omega,rfl,rfl,rfl⟩ (by dsimp only;omega)
 obtain⟨r,hr,k,c,ch,cnt,ens,rfl,hrest⟩:=key;exact⟨k,c,ch,cnt,ens,hr,hrest⟩
end
theorem Tv:∀i,i<256->0<=at' IY ((i:Nat):Int)∧at' IY ((i:Nat):Int)<=8∧(i≠0->1<=at' IY ((i:Nat):Int)):=by
 have h:((List.range 256).all λi=>decide (0<=at' IY ((i:Nat):Int)∧at' IY ((i:Nat):Int)<=8∧(i≠0->1<=at' IY ((i:Nat):Int))))=true:=by decide +kernel
 intro i a;exact of_decide_eq_true (zA5.1 h i (zAf.2 a))
theorem adk {t:Nat} (I:t<16777216) (F:t≠0):∃n:Nat,iP 1000 (t:Int)=some (n:Int)∧1<=n∧n<=24:=by
 have q:(IY.length:Int)=256:=by decide +kernel
 have b:∀a:Nat,a<4294967296->eW .u32 (a:Int) 255=((a%256:Nat):Int):=λa p=>by
  rw[show(255:Int)=((255:Nat):Int)from rfl,CJ p (by omega),show(255:Nat)=2^8 - 1 from rfl,Nat.and_two_pow_sub_one_eq_mod]
 have c:∀k:Nat,k<32->sG .u32 (t:Int) (k:Int)=((t / 2^k:Nat):Int):=λk r=>KU r;have e:sG .u32 (t:Int) 24=((t / 2^24:Nat):Int):=c 24 (by omega);have d:sG .u32 (t:Int) 16=((t / 2^16:Nat):Int):=c 16 (by omega);have s:sG .u32 (t:Int) 8=((t / 2^8:Nat):Int):=c 8 (by omega);have g:t / 2^24=0:=Nat.div_eq_of_lt (by omega);unfold iP;rw[q,e,d,s,b _ (by omega),b _ (by omega),b _ (by omega),g,cK (by decide),cK (by omega),cK (by decide),cK (by omega),cK (by decide),cK (by omega),cK (by omega)];obtain⟨v,w,i⟩:=Tv (t / 2^16%256) (by omega);obtain⟨y,z,j⟩:=Tv (t / 2^8%256) (by omega);obtain⟨D,E,l⟩:=Tv (t%256) (by omega);have u:at' IY ((0:Nat):Int)=0:=rfl;have h:1<=at' IY ((t / 2^16%256:Nat):Int)+at' IY ((t / 2^8%256:Nat):Int)+at' IY ((t%256:Nat):Int):=by
  by_cases m:t / 2^16%256=0
  ·by_cases o:t / 2^8%256=0
   ·have:=l (by omega);omega
   ·have:=j o;omega
  ·have:=i m;omega
 have f:∀x:Int,0<=x->x<=100->wI .u8 x=x:=λx G H=>by
  rw[DJ];have:IntKind.u8.wrap x=x%256:=rfl;rw[this];omega
 generalize at' IY ((t / 2^16%256:Nat):Int)=A at *
 generalize at' IY ((t / 2^8%256:Nat):Int)=B at *
 generalize at' IY ((t%256:Nat):Int)=C at *
 rw[u,f (0+A) (by omega) (by omega),f (0+A+B) (by omega) (by omega),f (0+A+B+C) (by omega) (by omega),wr (by omega) (by omega)];exact⟨(0+A+B+C).toNat,by congr 1;omega,by omega,by omega⟩
theorem Fz (l:aO) (j:l.length<=900) (h:∀x∈l,∃a:Nat,x=(a:Int)∧a<16777216):iO 1000 l=some true:=by
 unfold iO;refine fM (step:=iY l) (K:=some true) l.length (λk=>(k:Int)) (λk f d=> ?_) (λf=> ?_) 1000 (by omega)
 ·obtain⟨a,g,b⟩:=h (at' l (k:Int)) (by rw[lD d];exact List.getElem_mem d);unfold iY;rw[if_pos (by omega),cK (by omega),g,dL (by omega)];have:xF .u32 (a:Int) (16777215:Int)=0:=(Yo _ _).2 λi c=>by
   rw[AB (by omega)]at c;have e:Qx 16777215=2^24 - 1:=AB (a:=16777215) (by omega);rw[e,Nat.testBit_two_pow_sub_one,zA1];by_cases h:i<24
   ·exact h
   ·have:=Nat.testBit_lt_two_pow (x:=a) (i:=i) (zAo b (Nat.pow_le_pow_right (n:=2) (by omega) (show 24<=i by omega)));rw[this]at c;cases c
  rw[this,if_neg (by simp)]
 ·unfold iY nK;rw[if_neg (by omega)]
structure HO (k:Nat) (cnt:CT) (R B pe:Nat):Prop where
 steps:cnt.1=(k:Int)
 moves:(k:Int)<=cnt.2.1∧cnt.2.1<=24*(k:Int)
 rounds:cnt.2.2.1=(R:Int)
 begun:cnt.2.2.2.1=(B:Int)
 pend:cnt.2.2.2.2=(pe:Int)
 le:R<=B∧B<=k∧B<=R+1
 p24:pe<16777216
theorem HO.valid {k:Nat} {i:CT} {R B j:Nat} (h:HO k i R B j) (n:k<=1000):jQ 1000 i=some true:=by
 obtain⟨a,b,c,d,e,f,g⟩:=h;have m:=Fz [(j:Int)] (by simp) λx l=>by
  have l:x=(j:Int):=by simpa using l
  exact⟨j,l,g⟩
 unfold jQ;rw[a,c,d,if_neg (by omega),if_neg (by omega),if_neg (by omega),if_neg (by omega),zA8 (by omega)];unfold iW lQ;rw[a,c,d,e,if_neg (by decide),dL (by omega),if_neg (by omega),if_pos b.1,wr (by omega) (by omega),if_pos b.2,bB m]
theorem HO.add {k:Nat} {r:CT} {R B o:Nat} (h:HO k r R B o) (I:k<900) {t l:Nat} (A:t<16777216) (C:t≠0) (q:l<16777216) {m:CT} {u:Int} (j:jH 1000 r (t:Int) (l:Int)=some (m,u)):
  ∃p:Nat,(∀i,p.testBit i=(o.testBit i && !t.testBit i&&l.testBit i))∧((p=0∧HO (k+1) m (R+1) (R+1) l)∨(p≠0∧HO (k+1) m R (R+1) p)):=by
 have H:=h.valid (by omega);obtain⟨a,b,c,d,e,f,g⟩:=h;obtain⟨n,D,E,F⟩:=adk A C;have G:=Fz [(t:Int),(l:Int)] (by simp) λx y=>by
  have y:x=(t:Int)∨x=(l:Int):=by simpa using y
  rcases y with rfl|rfl
  ·exact⟨t,rfl,A⟩
  ·exact⟨l,rfl,q⟩
 have v:BN o t<4294967296:=LW o t;have w:∀i,(BN o t &&& l).testBit i=(o.testBit i && !t.testBit i&&l.testBit i):=λi=>by
  rw[Nat.testBit_and,NS (by omega) (by omega)]
 have s:BN o t &&& l<16777216:=Nat.lt_of_le_of_lt Nat.and_le_right q;unfold jH at j;rw[bB (show jQ 1000 _=some true from H),if_neg (by decide),if_neg (by omega),bB G]at j;unfold oI oJ at j;dsimp only at j;rw[a,c,e,if_neg (by decide),if_neg (by omega),bB D,LF,CJ v (by omega),dL (by omega),dL (by omega),wr (by omega) (by omega)]at j;refine⟨BN o t &&& l,w,?_⟩
 by_cases z:BN o t &&& l=0
 ·rw[if_pos (by rw[z];rfl)]at j;have:=Option.some.inj j;obtain⟨rfl,_⟩:=Prod.mk.inj this;exact .inl ⟨z,rfl,⟨by dsimp only;omega,by dsimp only;omega⟩,rfl,rfl,rfl,by omega,q⟩
 ·rw[if_neg (by omega)]at j;have:=Option.some.inj j;obtain⟨rfl,_⟩:=Prod.mk.inj this;exact .inr ⟨z,rfl,⟨by dsimp only;omega,by dsimp only;omega⟩,rfl,rfl,rfl,by omega,s⟩
def guL:E:= .bi 41 (.lf 5 0) (.ag 21 (.lf 12 0))
def guE:E:= .bi 41 (.un 19 (.lf 5 0)) (.un 19 (.ag 21 (.lf 12 0)))
def RM:List RL:=[(guL,[(0,.lf 3 0)]),(guE,[(0,.lf 2 0)])]
def nbM (g:GR) (c:bX) (v:Nat):Prop:=∃i,i<(row g v).length∧sW g c v i≠0
section
variable {p:Ap} {g:GR} {c:List (List Int)} {v:Nat}
theorem afH:iF (bO p g) c v guL=sO (decide (BM c v≠0)&&decide (sO (((List.range (row g v).length).map λq=>sW g c v q).any nz)≠0)):=rfl
theorem afG:iF (bO p g) c v guE=sO (decide (sO (decide (BM c v=0))≠0)&&decide (sO (decide (sO (((List.range (row g v).length).map λq=>sW g c v q).any nz)=0))≠0)):=rfl
theorem LE (b:Bool):sO b≠0↔b=true:=by cases b<;>simp[sO]
theorem agN (b:Bool):sO b=0↔b=false:=by cases b<;>simp[sO]
theorem Yk:((List.range (row g v).length).map λq=>sW g c v q).any nz=true↔nbM g c v:=by
 unfold nbM;rw[List.any_eq_true];constructor
 ·rintro⟨x,d,b⟩;obtain⟨i,a,rfl⟩:=zAn.1 d;exact⟨i,zAf.1 a,by simpa [nz]using b⟩
 ·rintro⟨i,a,b⟩;exact⟨_,zAn.2 ⟨i,zAf.2 a,rfl⟩,by simpa [nz]using b⟩
theorem abp:((List.range (row g v).length).map λq=>sW g c v q).any nz=false↔¬nbM g c v:=by
 rw[<-Yk];simp
theorem acN:iF (bO p g) c v guL≠0↔BM c v≠0∧nbM g c v:=by
 rw[afH,LE,zA4,zA1,zA1,LE,Yk]
theorem acM:iF (bO p g) c v guE≠0↔BM c v=0∧¬nbM g c v:=by
 rw[afG,LE,zA4,zA1,zA1,LE,LE,zA1,zA1,agN,abp]
theorem aal (h:0<=Am (bO p g) RM c v):(Am (bO p g) RM c v=0∧BM c v≠0∧nbM g c v)∨(Am (bO p g) RM c v=1∧BM c v=0∧¬nbM g c v):=by
 obtain⟨i,b,a,d⟩:=(Sb (bO p g) RM c v).resolve_left (λe=>by omega);have a:i<2:=a
 match i,a with
 |0,_=>exact .inl ⟨b,acN.1 d⟩
 |1,_=>exact .inr ⟨b,acM.1 d⟩
theorem ahv (a:(at' c (v:Int)).length=1):at' (ED (bO p g) KF RM c v 0) 0=0:=by
 have e:ED (bO p g) KF RM c v 0=(at' c (v:Int)).set 0 0:=rfl;rw[e];have:=qQ (at' c (v:Int)) 0 0 (0:Int) (by omega);rw[if_pos Z]at this;exact this
theorem ahw (a:(at' c (v:Int)).length=1):at' (ED (bO p g) KF RM c v 1) 0=1:=by
 have e:ED (bO p g) KF RM c v 1=(at' c (v:Int)).set 0 1:=rfl;rw[e];have:=qQ (at' c (v:Int)) 0 0 (1:Int) (by omega);rw[if_pos Z]at this;exact this
end
def StM (g:GR) (c:bX) (v:Nat):Prop:=BM c v≠0∧¬nbM g c v
section
variable {p:Ap} {g:GR} {c:List (List Int)} {lv t:Nat}
theorem Xm (l:HU g c KF) (h:∀i,t.testBit i=true->(Dh (bO p g) RM lv c).testBit i=true):
  (∀v,t.testBit v=true->v<g.2.length∧((BM c v≠0∧nbM g c v∧BM (kU (bO p g) KF RM c t) v=0)∨(BM c v=0∧¬nbM g c v∧BM (kU (bO p g) KF RM c t) v=1)))∧∀v,v<g.2.length->t.testBit v=false->BM (kU (bO p g) KF RM c t) v=BM c v:=by
 have k:=l.len;have f:∀v,v<g.2.length->at' (kU (bO p g) KF RM c t) (v:Int)=if t.testBit v=true then ED (bO p g) KF RM c v (Am (bO p g) RM c v)else at' c (v:Int):=λv d=>ML (by rw[k];exact d);refine⟨λv d=> ?_,λv d n=> ?_⟩
 ·obtain⟨j,m,_⟩:=(Pn (bO p g) RM lv c v).1 (h v d);refine⟨j,?_⟩
  unfold BM;rw[f v j,if_pos d];rcases aal m with⟨e,a,b⟩|⟨e,a,b⟩
  ·rw[e];exact .inl ⟨a,b,ahv (l.row v j)⟩
  ·rw[e];exact .inr ⟨a,b,ahw (l.row v j)⟩
 ·unfold BM;rw[f v d,if_neg (by rw[n];decide)]
variable (hV:VG g) (hr:HU g c KF) (hsub:∀i,t.testBit i=true->(Dh (bO p g) RM lv c).testBit i=true)
 include hV hr hsub
theorem enterM (b:∀v u,t.testBit v=true->t.testBit u=true->¬KH g v u) {v:Nat} (j:t.testBit v=true) (h:BM c v=0):StM g (kU (bO p g) KF RM c t) v:=by
 obtain⟨n,m⟩:=Xm hr hsub;obtain⟨w,q⟩:=n v j;rcases q with⟨q,_⟩|⟨_,o,e⟩
 ·exact absurd h q
 ·refine⟨by rw[e];decide,?_⟩
  rintro⟨i,l,k⟩;obtain⟨u,s,d,a⟩:=hV.port w l;have f:t.testBit u=false:=by
   cases r:t.testBit u with
   |false=>rfl
   |true=>exact absurd a (b v u j r)
  rw[Vx d,m u s f]at k;exact o ⟨i,l,by rw[Vx d];exact k⟩
end
theorem JO {f h:Nat->Nat}:∀{n:Nat},(∀v,v<n->f v=h v)->Xn f n=Xn h n
 |0,_=>rfl
 |n+1,k=>by simp only[Xn];rw[JO λv a=>k v (by omega),k n (by omega)]
theorem JP (f:Nat->Nat) (a:Nat):∀b,Xn f (a+b)=Xn f a+Xn (λv=>f (a+v)) b
 |0=>rfl
 |b+1=>by show Xn f (a+b)+f (a+b)=_;rw[JP f a b];simp only[Xn];omega
def Br (t n:Nat):Nat:=Xn (λv=>if t.testBit v=true then 1 else 0) n
theorem Ib (t:Nat) (n:Nat):Br t n<=n:=aas λv _=>by split<;>omega
theorem Tw:∀i,i<256->at' IY ((i:Nat):Int)=((Br i 8:Nat):Int):=by
 have h:((List.range 256).all λi=>decide (at' IY ((i:Nat):Int)=((Br i 8:Nat):Int)))=true:=by decide +kernel
 intro i hi;exact of_decide_eq_true (zA5.1 h i (zAf.2 hi))
theorem Tu (t:Nat):Br t 24=Br (t / 2^16%256) 8+Br (t / 2^8%256) 8+Br (t%256) 8:=by
 have c:∀x,Br (x%256) 8=Br x 8:=λx=>JO λv e=>by
  rw[show(256:Nat)=2^8 from rfl,Nat.testBit_mod_two_pow,zA9 e,Bool.true_and]
 have d:∀k,Br (t / 2^k) 8=Xn (λv=>if t.testBit (k+v)=true then 1 else 0) 8:=λk=>JO λv _=>by
  rw[Nat.testBit_div_two_pow,Nat.add_comm]
 rw[c,c,c,d,d];have a:=JP (λv=>if t.testBit v=true then 1 else 0) 16 8;have b:=JP (λv=>if t.testBit v=true then 1 else 0) 8 8;unfold Br;rw[show(24:Nat)=16+8 from rfl,a,show(16:Nat)=8+8 from rfl,b];omega
theorem adj {t:Nat} (ht:t<16777216):iP 1000 (t:Int)=some ((Br t 24:Nat):Int):=by
 have hb:(IY.length:Int)=256:=by decide +kernel
 have h255:∀a:Nat,a<4294967296->eW .u32 (a:Int) 255=((a%256:Nat):Int):=λa ha=>by
  rw[show(255:Int)=((255:Nat):Int)from rfl,CJ ha (by omega),show(255:Nat)=2^8 - 1 from rfl,Nat.and_two_pow_sub_one_eq_mod]
 have hs:∀k:Nat,k<32->sG .u32 (t:Int) (k:Int)=((t / 2^k:Nat):Int):=λk hk=>KU hk;have s24:sG .u32 (t:Int) 24=((t / 2^24:Nat):Int):=hs 24 (by omega);have s16:sG .u32 (t:Int) 16=((t / 2^16:Nat):Int):=hs 16 (by omega);have s8:sG .u32 (t:Int) 8=((t / 2^8:Nat):Int):=hs 8 (by omega);have z24:t / 2^24=0:=Nat.div_eq_of_lt (by omega);unfold iP;rw[hb,s24,s16,s8,h255 _ (by omega),h255 _ (by omega),h255 _ (by omega),z24,cK (by decide),cK (by omega),cK (by decide),cK (by omega),cK (by decide),cK (by omega),cK (by omega)];have z0:at' IY ((0:Nat):Int)=0:=rfl;have w8:∀x:Int,0<=x->x<=100->wI .u8 x=x:=λx h1 h2=>by
  rw[DJ];have:IntKind.u8.wrap x=x%256:=rfl;rw[this];omega
 have la:=Ib (t / 2^16%256) 8;have lb:=Ib (t / 2^8%256) 8;have lc:=Ib (t%256) 8;rw[Tu,Tw _ (show t / 2^16%256<256 by omega),Tw _ (show t / 2^8%256<256 by omega),Tw _ (show t%256<256 by omega),z0];generalize Br (t / 2^16%256) 8=A at *
 generalize Br (t / 2^8%256) 8=B at *
 generalize Br (t%256) 8=C at *
 rw[w8 (0+(A:Int)) (by omega) (by omega),w8 (0+(A:Int)+B) (by omega) (by omega),w8 (0+(A:Int)+B+C) (by omega) (by omega),wr (by omega) (by omega)];congr 1;omega
def Wr (cnt:CT) (t en:Nat):CT:=
 (cnt.1+1,cnt.2.1+((Br t 24:Nat):Int),(if BN cnt.2.2.2.2.toNat t &&& en=0 then cnt.2.2.1+1 else cnt.2.2.1),cnt.2.2.1+1,(if BN cnt.2.2.2.2.toNat t &&& en=0 then(en:Int)else((BN cnt.2.2.2.2.toNat t &&& en:Nat):Int)))
theorem abm {k:Nat} {cnt:CT} {R B pe:Nat} (h:HO k cnt R B pe) (hk:k<900) {t en:Nat} (ht:t<16777216) (h0:t≠0) (hen:en<16777216):jH 1000 cnt (t:Int) (en:Int)=some (Wr cnt t en,0)∧∃R' B' pe',HO (k+1) (Wr cnt t en) R' B' pe':=by
 have hv:=h.valid (by omega);have key:jH 1000 cnt (t:Int) (en:Int)=some (Wr cnt t en,0):=by
  obtain⟨a,b,c,d,e,f,g⟩:=h;have hn:=adj ht;have hn2:=Ib t 24;have hp:=Fz [(t:Int),(en:Int)] (by simp) λx hx=>by
   have hx:x=(t:Int)∨x=(en:Int):=by simpa using hx
   rcases hx with rfl|rfl
   ·exact⟨t,rfl,ht⟩
   ·exact⟨en,rfl,hen⟩
  have hdl:BN pe t<4294967296:=LW pe t;unfold jH;rw[bB (show jQ 1000 _=some true from hv),if_neg (by decide),if_neg (by omega),bB hp];unfold oI oJ Wr;dsimp only;rw[a,c,e,zAc,if_neg (by decide),if_neg (by omega),bB hn,LF,CJ hdl (by omega),dL (by omega),dL (by omega),wr (by omega) (by omega)];by_cases hz:BN pe t &&& en=0
  ·rw[if_pos (by rw[hz];rfl),if_pos hz,if_pos hz];rfl
  ·rw[if_neg (by omega),if_neg hz,if_neg hz];rfl
 refine⟨key,?_⟩
 obtain⟨pe',_,q|q⟩:=h.add hk ht h0 hen key
 ·exact⟨_,_,_,q.2⟩
 ·exact⟨_,_,_,q.2⟩
section
variable {C:Type} (en:C->Nat) (st:C->Nat->C) (rs:Nat->Int->Nat) (ws:List Int) (c0:C)
def cX:Nat->C
 |0=>c0
 |k+1=>st (cX k) (rs (en (cX k)) (at' ws (k:Int)))
def YL (k:Nat):Nat:=en (cX en st rs ws c0 k)
def tX (k:Nat):Nat:=rs (YL en st rs ws c0 k) (at' ws (k:Int))
def WF:Nat->CT
 |0=>(0,0,0,0,((en c0:Nat):Int))
 |k+1=>Wr (WF k) (tX en st rs ws c0 k) (YL en st rs ws c0 (k+1))
def agJ (k:Nat):Prop:=k<=ws.length∧(k=ws.length∨YL en st rs ws c0 k=0)∧∀j,j<k->YL en st rs ws c0 j≠0
def aat (k:Nat):List Int×List Int×C×CT:=(Rj ((List.range k).map (tX en st rs ws c0)),(List.range (k+1)).map (λj=>((YL en st rs ws c0 j:Nat):Int)),cX en st rs ws c0 k,WF en st rs ws c0 k)
end
section
variable {p:Ap} {g:GR} {R:List RL}
theorem TI (hV:VG g) (hp:CW g p.2.1) (hz:p.2.2.map uF=Gv R) (hR:wL p.2.1.length R=true) {kind:Int} (hk1:1<=kind) (hk4:kind<=4) {c0:List (List Int)} (hc0:HU g c0 p.2.1) {ws:List Int} (hws:ws.length<=800) (hw:∀k:Nat,k<ws.length->∃m:Nat,at' ws (k:Int)=(m:Int)∧m<4294967296):
  ∃k,agJ (Dh (bO p g) R (pK g)) (kU (bO p g) p.2.1 R) (λe w=>MH g kind e w.toNat) ws c0 k∧
   mB 1000 p g kind c0 ws=some (aat (Dh (bO p g) R (pK g)) (kU (bO p g) p.2.1 R) (λe w=>MH g kind e w.toNat) ws c0 k,0):=by
 let en:=Dh (bO p g) R (pK g);let st:=kU (bO p g) p.2.1 R;let rs:Nat->Int->Nat:=λe w=>MH g kind e w.toNat;have en24:∀c,en c<16777216:=λc=>Qp.lt (g:=g) hV (TE (bO p g) R (pK g) c);obtain⟨net,hnet,hN⟩:=ZE hV;obtain⟨k,c,ch,cnt,ens,h1,⟨h2,h3,h4,h5,h6,_⟩,h7,h8,h9,h10,h11,h12⟩:=TH hV hp hz hR hk1 hk4 hc0 (ws:=ws) (by omega) hw
  (λk c ch cnt ens=>c=cX en st rs ws c0 k∧ch=(List.range k).map (tX en st rs ws c0)∧cnt=WF en st rs ws c0 k∧ens=(List.range (k+1)).map (λj=>((YL en st rs ws c0 j:Nat):Int))∧(∀j,j<k->YL en st rs ws c0 j≠0)∧∃R' B pe,HO k cnt R' B pe)
  (by
   have hpe:eW .u32 ((en c0:Nat):Int) 16777215=((en c0:Nat):Int):=by
    have:=en24 c0;rw[show(16777215:Int)=((16777215:Nat):Int)from rfl,CJ (by omega) (by omega),show(16777215:Nat)=2^24 - 1 from rfl,Nat.and_two_pow_sub_one_eq_mod,Nat.mod_eq_of_lt (by omega)]
   refine⟨rfl,rfl,?_,rfl,λj hj=>by omega,0,0,en c0,?_⟩
   ·show((0,0,0,0,eW .u32 ((en c0:Nat):Int) 16777215):CT)=_;rw[hpe];rfl
   ·refine⟨rfl,by dsimp only;omega,rfl,rfl,hpe,by omega,en24 c0⟩)
  (λk c ch cnt ens t cnt' err hk hsh hI hne ht0 hsub hind _ hres hadd=>by
   obtain⟨rfl,rfl,rfl,rfl,a5,R',B,pe,hc⟩:=hI;obtain⟨net',hn',hr'⟩:=hres;obtain rfl:net=net':=Option.some.inj (hnet.symm.trans hn');obtain⟨w,hwe,hw32⟩:=hw k hk;have heG:Qp g (en (cX en st rs ws c0 k)):=TE (bO p g) R (pK g) _;have ht:t=tX en st rs ws c0 k:=by
    have hX:=aah hV hN kind heG hw32;rw[hwe]at hr';have:=Option.some.inj (hr'.symm.trans hX);have e2:tX en st rs ws c0 k=MH g kind (en (cX en st rs ws c0 k)) w:=by
     show MH g kind _ (at' ws (k:Int)).toNat=_;rw[hwe];rfl
    rw[e2];omega
   have htG:Qp g t:=λi hi=>heG i (hsub i hi);have ht24:=Qp.lt hV htG;have hc1:kU (bO p g) p.2.1 R (cX en st rs ws c0 k) t=cX en st rs ws c0 (k+1):=by rw[ht];rfl
   rw[hc1]at hadd ⊢;have hen1:Dh (bO p g) R (pK g) (cX en st rs ws c0 (k+1))=YL en st rs ws c0 (k+1):=rfl;rw[hen1]at hadd ⊢;obtain⟨q1,q2⟩:=abm hc (by omega) ht24 ht0 (en24 _) (en:=YL en st rs ws c0 (k+1));have hcc:cnt'=WF en st rs ws c0 (k+1):=by
    have:=Option.some.inj (hadd.symm.trans q1);rw[(Prod.mk.inj this).1,ht];rfl
   refine⟨rfl,?_,hcc,?_,λj hj=> ?_,?_⟩
   ·rw[ht,List.range_succ,List.map_append,List.map_singleton]
   ·rw[List.range_succ (n:=k+1),List.map_append,List.map_singleton]
   ·by_cases e:j<k
    ·exact a5 j e
    ·obtain rfl:j=k:=by omega
     exact hne
   ·rw[hcc,show WF en st rs ws c0 (k+1)=Wr (WF en st rs ws c0 k) t (YL en st rs ws c0 (k+1)) by rw[ht];rfl];exact q2)
 subst h2 h3 h4 h5;exact⟨k,⟨h8,h12,h6⟩,h1⟩
end
theorem Ui {S:Dm} {a:List Gu} {R:List RL} {c:bX}:kU S a R c 0=c:=by
 unfold kU;refine List.ext_getElem (by simp) λi d b=> ?_;simp[lD b]
theorem ahA (g:GR) (e w:Nat):MH g 4 e w=e:=by
 unfold MH af_;rw[if_neg (by decide),if_neg (by decide),if_pos Z]
section
variable {p:Ap} {g:GR} {R:List RL}
theorem Vi (c:List (List Int)):Dh (bO p g) R (pK g) c=Rc (bO p g) R c:=by
 refine zBa λi=> ?_;unfold Dh pK;rw[Nat.testBit_and,Nat.testBit_two_pow_sub_one,Pm];show(decide (i<g.2.length)&&_&&_)=(decide (i<g.2.length)&&_)
 cases decide (i<g.2.length)<;>simp
theorem Pb {b:List Int} {a:List (List Int)}:∀k,cX (Dh (bO p g) R (pK g)) (kU (bO p g) p.2.1 R) (λe w=>MH g 4 e w.toNat) b a k=cS p g p.2.1 R a k
 |0=>rfl
 |k+1=>by
  show kU (bO p g) p.2.1 R (cX _ _ _ b a k) (MH g 4 (Dh (bO p g) R (pK g) (cX _ _ _ b a k)) _)=kU (bO p g) p.2.1 R (cS p g p.2.1 R a k) _;rw[Pb k,ahA,Vi]
theorem Rf (hV:VG g) (hp:CW g p.2.1) (hz:p.2.2.map uF=Gv R) (hR:wL p.2.1.length R=true) {c0:List (List Int)} (hc0:HU g c0 p.2.1) {ws:List Int} (hws:ws.length<=800) (hw:∀k:Nat,k<ws.length->∃m:Nat,at' ws (k:Int)=(m:Int)∧m<4294967296):
  ∃(a b:List Int) (cnt:CT),mB 1000 p g 4 c0 ws=some ((a,b,cS p g p.2.1 R c0 ws.length,cnt),0):=by
 obtain⟨k,⟨h1,h2,h3⟩,hrun⟩:=TI hV hp hz hR (kind:=4) (by omega) (by omega) hc0 hws hw;unfold aat at hrun;rw[Pb]at hrun;have e:cS p g p.2.1 R c0 k=cS p g p.2.1 R c0 ws.length:=by
  rcases h2 with q|q
  ·rw[<-q]
  ·unfold YL at q;rw[Pb,Vi]at q;obtain⟨m,hm⟩:∃m,ws.length=k+m:=⟨ws.length - k,by omega⟩
   rw[hm];exact(Va (by rw[q,Ui]) m).symm
 rw[e]at hrun;exact⟨_,_,_,hrun⟩
end
noncomputable def PP (g:GR) (F:Int->Int->Int) (v:Nat):Int:=if v=0 then -1 else iL ((LL g F v).map λy=>sO (decide (y=jP g F v)))
noncomputable def cE (g:GR) (F:Int->Int->Int):bX:=(List.range g.2.length).map λv=>[jP g F v,PP g F v]
section
variable {p:Ap} {g:GR} {vars:List Gu} {eX eY:E} {F:Int->Int->Int} {L N:Int}
theorem NP {v:Nat} (a:v<g.2.length):at' (cE g F) (v:Int)=[jP g F v,PP g F v]:=Eh _ a
theorem Jh:(cE g F).length=g.2.length:=by simp[cE]
theorem Yy (S:Tm g vars eX eY F L N) (j:VG g) {c:List (List Int)} (h:HU g c vars) {K:Nat} (q:1<=K) (r:∀v,v<g.2.length->jP g F v<(K:Int)*L):cS p g vars (RY eX eY) c K=cE g F:=by
 have k:=(QS (p:=p) S j h K).1;have d:=k.len;refine List.ext_getElem (by rw[d,Jh]) λi n o=> ?_;have f:i<g.2.length:=by omega
 obtain⟨a,b⟩:=afe (p:=p) S j h q r f;obtain⟨x,y,e⟩:=ahC (at' (cS p g vars (RY eX eY) c K) (i:Int)) (by rw[k.shape.row i f];exact S.len);rw[<-lD n,<-lD o,NP f,e];have l:BM (cS p g vars (RY eX eY) c K) i=x:=by unfold BM;rw[e];rfl
 have m:SR (cS p g vars (RY eX eY) c K) i=y:=by unfold SR;rw[e];rfl
 rw[l]at a;rw[m]at b;rw[a,b];rfl
theorem afd (S:Tm g vars eX eY F L N) (b:VG g) {c:List (List Int)} (a:HU g c vars) {K:Nat} (d:1<=K) (e:∀v,v<g.2.length->jP g F v<(K:Int)*L):HU g (cE g F) vars:=by
 rw[<-Yy (p:=default) S b a d e];exact(QS (p:=default) S b a K).1
end
theorem Mm {B:Type} {n:Nat} {P:Nat->Prop} [DecidablePred P] {step:Int->(Int->Option B)->Option B} {Kf:Int->Option B} (c:∀(i:Nat) k,i<n->step (i:Int) k=if P i then Kf (i:Int)else k ((i+1:Nat):Int)) (g:∀k,step (n:Int) k=Kf (-1)) (b:Nat) (m:n<b):bH step b 0=Kf (iL ((List.range n).map λq=>sO (decide (P q)))):=by
 have o:∀(d a b:Nat),a+d=n->d<b->(∀j,j<a->¬P j)->bH step b (a:Int)=Kf (iL ((List.range n).map λq=>sO (decide (P q)))):=by
  intro d
  induction d with
  |zero=>
   intro a b r m l;obtain rfl:a=n:=by omega
   obtain⟨f,rfl⟩:∃f,b=f+1:=⟨b - 1,by omega⟩
   show step (a:Int) (bH step f)=_;rw[g,Mc l]
  | succ d ih =>
   intro a b r m l;obtain⟨f,rfl⟩:∃f,b=f+1:=⟨b - 1,by omega⟩
   show step (a:Int) (bH step f)=_;rw[c a _ (by omega)];by_cases h:P a
   ·rw[if_pos h,Re (by omega) h l]
   ·rw[if_neg h];refine ih (a+1) f (by omega) (by omega) λj p=> ?_;by_cases e:j=a
    ·rw[e];exact h
    ·exact l j (by omega)
 exact o n 0 b (by omega) m λj p=>absurd p (Nat.not_lt_zero j)
section
variable {g:GR} {F:Int->Int->Int} {L:Int}
theorem PQ {v:Nat} (a:v≠0):PP g F v=iL ((List.range (row g v).length).map λi=>sO (decide (F (jP g F (fU (row g v) i).1.toNat) (fU (row g v) i).2=jP g F v))):=by
 unfold PP;rw[if_neg a];unfold LL;rw[List.map_map];rfl
theorem Lg:PP g F 0 = -1:=if_pos Z
theorem adp (a:kZ g F L) (h:VG g) {v:Nat} (e:v<g.2.length):PP g F v=iL ((List.range (row g v).length).map λi=>sO (decide (F (jP g F (fU (row g v) i).1.toNat) (fU (row g v) i).2=jP g F v))):=by
 by_cases f:v=0
 ·subst f;rw[Lg];refine(Mc (P:=λi=>F (jP g F (fU (row g 0) i).1.toNat) (fU (row g 0) i).2=jP g F 0) λj k l=> ?_).symm;obtain⟨u,w,c⟩:=h.lk e k;obtain⟨_,b,d⟩:=Iq h c [];rw[b,d,Cb a e]at l;have:=a.up _ _ _ _ _ e c (lV a c.2.1);have:=lV a c.2.1;have:=a.L1;omega
 ·exact PQ f
noncomputable def No (g:GR) (F:Int->Int->Int):List Int:=(List.range g.2.length).map (PP g F)
end
def tP (a:Int) (g:GR) (v:Nat) (x:Int):Prop:=if a=1∨a=4 then -1<=x∧x<((row g v).length:Int)else if a=2 then x=0∨x=1 else x=0
def PR (g:GR) (a:aO) (v:Nat):Int:=if 0<=at' a (v:Int)then(at' (at' g.2 (v:Int)) (at' a (v:Int))).1 else -1
def Tg (c:aO) (x:Int) (a:Nat):Prop:=a<c.length∧at' c (a:Int)=x∧∀b:Nat,b<c.length->at' c (b:Int)=x->b=a
def go (g:GR) (a:aO):Nat->Nat->Nat
 |0,v=>v
 |k+1,v=>go g a k (PR g a v).toNat
structure NK (g:GR) (st:aO) (r:Nat):Prop where
 root:Tg st (-1) r
 all:∀v,v<g.2.length->∃k,go g st k v=r
section
variable {g:GR} {F:Int->Int->Int} {L:Int} {st:List Int}
structure SY (g:GR) (F:Int->Int->Int) (st:List Int):Prop where
 len:st.length=g.2.length
 top:at' st ((0:Nat):Int) = -1
 low:∀v:Nat,v<g.2.length->v≠0->at' st (v:Int)=iL ((LL g F v).map λy=>sO (decide (y=jP g F v)))
theorem SY.port (d:kZ g F L) (e:VG g) (h:SY g F st) {v:Nat} (c:v<g.2.length) (b:v≠0):∃i u w,Lk g v i u w∧at' st (v:Int)=(i:Int)∧jP g F u+L<=jP g F v:=by
 obtain⟨i,u,w,j,f,a⟩:=ZU d e c b;exact⟨i,u,w,j,by rw[h.low v c b,f],a⟩
theorem SY.fit (b:kZ g F L) (c:VG g) (h:SY g F st) {v:Nat} (j:v<g.2.length):tP 1 g v (at' st (v:Int)):=by
 rw[tP,if_pos (.inl Z)];have e:(at' g.2 (v:Int)).length=(row g v).length:=rfl;by_cases a:v=0
 ·subst a;rw[h.top];omega
 ·obtain⟨i,u,w,f,d,_⟩:=h.port b c j a;have:=f.1;rw[d];omega
theorem SY.tree (c:kZ g F L) (f:VG g) (h:SY g F st):NK g st 0:=by
 have x:=f.n1;have p:=h.len;refine⟨⟨by omega,h.top,λb y z=>Classical.byContradiction λq=> ?_⟩,?_⟩
 ·obtain⟨i,u,w,d,o,_⟩:=h.port c f (show b<g.2.length by omega) q;omega
 ·have l:∀m v,v<g.2.length->rk g F v<=m->∃k,go g st k v=0:=by
   intro m
   induction m with
   |zero=>intro v a s;exact⟨0,show v=0 from PU c a (by omega)⟩
   | succ m ih =>
    intro v a s;by_cases n:v=0
    ·exact⟨0,n⟩
    ·obtain⟨i,u,w,d,o,j⟩:=h.port c f a n;have t:=PT c d.2.1 j;obtain⟨k,r⟩:=ih u d.2.1 (by omega);refine⟨k+1,?_⟩
     show go g st k (PR g st v).toNat=0;have e:(PR g st v).toNat=u:=by
      unfold PR;rw[o,if_pos (by omega)];have:(at' (at' g.2 (v:Int)) (i:Int)).1=(u:Int):=d.2.2.1;omega
     rw[e];exact r
  intro v a;exact l (rk g F v) v a (zAe _)
end
section
variable {g:GR} {st:List Int} {l:List (Int×Int)}
theorem acy {x:Int} (h:1<=x):wI .i64 (x - 1)<x:=by
 by_cases q:x<=9223372036854775807
 ·rw[wr (by omega) (by omega)];omega
 ·have:wI .i64 (x - 1)<=9223372036854775807:=by
   rw[DJ];unfold IntKind.wrap;simp only[IntKind.bits,IntKind.signed];simp;omega
  omega
theorem Rm (c:VG g) (b:∀v,v<g.2.length->∀i,i<(row g v).length->(at' l (fU (row g v) i).1).1=(at' l (v:Int)).1) {s:Nat}:∀{k v:Nat},uY g s k v->(at' l (v:Int)).1=(at' l (s:Int)).1
 |0,v,h=>by obtain⟨rfl,_⟩:=h;rfl
 |k+1,v,h=>by
  obtain⟨u,a,i,e,d⟩:=h;have f:=uY.lt c a;have:=b u f i e;rw[d]at this;rw[this];exact Rm c b a
theorem afI (b:VG g) {u v:Nat} (c:u<g.2.length) (d:v<g.2.length) (h:at' g.1 (u:Int)=at' g.1 (v:Int)):u=v:=by
 rcases zB0 u v with a|a|a
 ·exact absurd h ((b.node v d).ids u a)
 ·exact a
 ·exact absurd h.symm ((b.node u c).ids v a)
theorem Up (hV:VG g) (hC:Cv g) (hst:st.length=g.2.length) (hft:∀v:Nat,v<g.2.length -> -1<=at' st (v:Int)∧at' st (v:Int)<((row g v).length:Int))
  (hA:∀v,v<g.2.length->∀i,i<(row g v).length->(at' l (fU (row g v) i).1).1=(at' l (v:Int)).1)
  (hroot:∀v:Nat,v<g.2.length->at' st (v:Int)<0->(at' l (v:Int)).1=at' g.1 (v:Int)∧(at' l (v:Int)).2=0)
  (hport:∀v:Nat,v<g.2.length->¬at' st (v:Int)<0->∃i:Nat,i<(row g v).length∧(i:Int)=at' st (v:Int)∧1<=(at' l (v:Int)).2∧(at' l (fU (row g v) i).1).2=wI .i64 ((at' l (v:Int)).2 - 1)):∃r,NK g st r:=by
 have h1:=hV.n1;have hdown:∀v,v<g.2.length->¬at' st (v:Int)<0->∃u:Nat,u<g.2.length∧PR g st v=(u:Int)∧1<=(at' l (v:Int)).2∧(at' l (u:Int)).2<(at' l (v:Int)).2:=by
  intro v hv hx;obtain⟨i,hi,hie,hy,hn⟩:=hport v hv hx;obtain⟨u,hu,he,_⟩:=hV.port hv hi;refine⟨u,hu,?_,hy,?_⟩
  ·unfold PR;rw[if_pos (by omega),<-hie];exact he
  ·rw[he]at hn;rw[hn];exact acy hy
 have pos:∀m v:Nat,v<g.2.length->(at' l (v:Int)).2<=(m:Int)->∃k,go g st k v<g.2.length∧at' st (go g st k v:Int)<0:=by
  intro m
  induction m with
  |zero=>
   intro v hv hm;by_cases hx:at' st (v:Int)<0
   ·exact⟨0,hv,hx⟩
   ·obtain⟨u,_,_,h2,_⟩:=hdown v hv hx;omega
  | succ m ih =>
   intro v hv hm;by_cases hx:at' st (v:Int)<0
   ·exact⟨0,hv,hx⟩
   ·obtain⟨u,hu,hp,h2,h3⟩:=hdown v hv hx;obtain⟨k,hk⟩:=ih u hu (by omega);refine⟨k+1,?_⟩
    show go g st k (PR g st v).toNat<_∧at' st (go g st k (PR g st v).toNat:Int)<0;rw[hp];exact hk
 have one:∀a b:Nat,a<g.2.length->b<g.2.length->at' st (a:Int)<0->at' st (b:Int)<0->b=a:=by
  intro a b ha hb hxa hxb;obtain⟨k,hw⟩:=hC a b ha hb;have:=Rm hV hA hw;refine afI hV hb ha ?_;rw[<-(hroot b hb hxb).1,<-(hroot a ha hxa).1];exact this
 obtain⟨k0,ha,hna⟩:=pos (at' l ((0:Nat):Int)).2.toNat 0 (by omega) (by omega);refine⟨go g st k0 0,⟨by omega,by have:=hft _ ha;omega,λb hb hx=>one _ b ha (by omega) hna (by omega)⟩,λv hv=> ?_⟩
 obtain⟨k,hk1,hk2⟩:=pos (at' l (v:Int)).2.toNat v hv (by omega);exact⟨k,one _ _ ha hk1 hna hk2⟩
end
theorem Pv (g:GR) (c:aO):∀a b v,go g c (a+b) v=go g c b (go g c a v)
 |0,b,v=>by simp[go]
 |a+1,b,v=>by
  have e:a+1+b=(a+b)+1:=by omega
  rw[e];show go g c (a+b) _=_;rw[Pv g c a b];rfl
theorem acJ (g:GR) (a:aO) (k v:Nat):go g a (k+1) v=(PR g a (go g a k v)).toNat:=by
 rw[Pv g a k 1];rfl
def Yc (g:GR) (a:aO):Prop:=∃r,NK g a r
def J_ (g:GR) (a:aO) (r v k:Nat):Prop:=go g a k v=r∧∀j,j<k->go g a j v≠r
def Uz (g:GR) (st:aO) (r:Nat) (l:cC):Prop:=l.length=g.2.length∧∀v:Nat,v<g.2.length->∃k:Nat,at' l (v:Int)=(at' g.1 (r:Int),(k:Int))∧J_ g st r v k
section
variable {g:GR} {st:List Int} {l:List (Int×Int)}
theorem RR (a:VG g) {v:Nat} (f:v<g.2.length) (b:tP 1 g v (at' st (v:Int))) : -1<=PR g st v∧PR g st v<=(g.2.length:Int) - 1∧(0<=PR g st v↔0<=at' st (v:Int)):=by
 rw[tP,if_pos (.inl Z)]at b;have e:(at' g.2 (v:Int)).length=(row g v).length:=rfl;have:=a.n1;unfold PR;by_cases h:0<=at' st (v:Int)
 ·rw[if_pos h];obtain⟨k,c⟩:∃k:Nat,at' st (v:Int)=k:=⟨(at' st (v:Int)).toNat,by omega⟩
  rw[c]at b ⊢;have d:=(a.node v f).links k (by omega);have i:=d.1;have j:(at' (at' g.2 (v:Int)) (k:Int)).1=(fU (row g v) k).1:=rfl;omega
 ·rw[if_neg h];omega
theorem TM (a:VG g) (b:∀v:Nat,v<g.2.length->tP 1 g v (at' st (v:Int))):∀k v,v<g.2.length->go g st k v<g.2.length
 |0,v,hv=>hv
 |k+1,v,hv=>TM a b k _ (by have:=RR a hv (b v hv);have:=a.n1;omega)
theorem Sk (d:VG g) (c:∀v:Nat,v<g.2.length->tP 1 g v (at' st (v:Int))) {r v k:Nat} (m:v<g.2.length) (h:J_ g st r v k):k<g.2.length:=by
 refine MC g.2.length (λi=>go g st i v) (k+1) (λi _=>TM d c i v m) ?_;intro i j f n e;have a:k=j+(k - j):=by omega
 have b:go g st (i+(k - j)) v=r:=by
  rw[Pv,e,<-Pv,<-a];exact h.1
 exact h.2 _ (by omega) b
theorem J_.det {r v k j:Nat} (h:J_ g st r v k) (b:J_ g st r v j):k=j:=by
 rcases zB0 k j with a|a|a
 ·exact absurd h.1 (b.2 k a)
 ·exact a
 ·exact absurd b.1 (h.2 j a)
theorem ahq (a:VG g) {v i:Nat} (e:v<g.2.length) (c:i<(row g v).length):∃u:Nat,u<g.2.length∧(fU (row g v) i).1=(u:Int):=by
 obtain⟨u,d,b,_⟩:=a.port e c;exact⟨u,d,b⟩
theorem ajd {v i:Nat} (a:(i:Int)=at' st (v:Int)):PR g st v=(fU (row g v) i).1:=by
 unfold PR;rw[if_pos (by omega),<-a]
def SU (g:GR) (st:List Int) (l:List (Int×Int)) (v:Nat):Prop:=(∀i,i<(row g v).length->(at' l (fU (row g v) i).1).1=(at' l (v:Int)).1)∧
 if at' st (v:Int)<0 then(at' l (v:Int)).1=at' g.1 (v:Int)∧(at' l (v:Int)).2=0 else∃i:Nat,i<(row g v).length∧(i:Int)=at' st (v:Int)∧1<=(at' l (v:Int)).2∧(at' l (fU (row g v) i).1).2=wI .i64 ((at' l (v:Int)).2 - 1)
theorem NC (d:VG g) (J:st.length=g.2.length) (b:∀v:Nat,v<g.2.length->tP 1 g v (at' st (v:Int))) {r:Nat} (D:NK g st r) (h:Uz g st r l):∀v,v<g.2.length->SU g st l v:=by
 have K:=d.n1;have F:=d.n24;obtain⟨M,a⟩:=h;intro v n;obtain⟨k,s,m⟩:=a v n;refine⟨λi p=> ?_,?_⟩
 ·obtain⟨u,C,o⟩:=ahq d n p;obtain⟨q,z,_⟩:=a u C;show(at' l (fU (row g v) i).1).1=(at' l (v:Int)).1;rw[o,z,s]
 ·have t:=b v n;rw[tP,if_pos (.inl Z)]at t;by_cases E:at' st (v:Int)<0
  ·rw[if_pos E];have c:v=r:=D.root.2.2 v (by omega) (by omega);subst c;have w:k=0:=Classical.byContradiction λx=>m.2 0 (by omega) Z;subst w;show(at' l (v:Int)).1=_∧(at' l (v:Int)).2=0;rw[s];exact⟨rfl,rfl⟩
  ·rw[if_neg E];have c:v≠r:=λh=>by subst h;have:=D.root.2.1;omega
   have G:1<=k:=by
    apply Classical.byContradiction;intro x;have:k=0:=by omega
    subst this;exact c m.1
   obtain⟨i,p⟩:∃i:Nat,(i:Int)=at' st (v:Int):=⟨(at' st (v:Int)).toNat,by omega⟩
   have f:i<(row g v).length:=by omega
   obtain⟨u,C,o⟩:=ahq d n f;obtain⟨q,z,B⟩:=a u C;have y:PR g st v=(u:Int):=by rw[ajd p,o]
   have A:J_ g st r u (k - 1):=by
    have e:∀j,go g st (j+1) v=go g st j u:=λj=>by
     show go g st j (PR g st v).toNat=_;rw[y];have:((u:Int)).toNat=u:=by omega
     rw[this]
    refine⟨?_,λj L=> ?_⟩
    ·have:=m.1;rw[show k=(k - 1)+1 by omega,e]at this;exact this
    ·rw[<-e];exact m.2 (j+1) (by omega)
   have I:q=k - 1:=B.det A;have H:=Sk d b n m;refine⟨i,f,p,?_,?_⟩
   ·show 1<=(at' l (v:Int)).2;rw[s];dsimp only;omega
   ·show(at' l (fU (row g v) i).1).2=wI .i64 ((at' l (v:Int)).2 - 1);rw[o,z,s];dsimp only;rw[wr (by omega) (by omega)];omega
theorem Xo (f:VG g) (e:Cv g) (c:st.length=g.2.length) (b:∀v:Nat,v<g.2.length->tP 1 g v (at' st (v:Int))) (h:∀v,v<g.2.length->SU g st l v):Yc g st:=
 Up (l:=l) f e c (λv a=>by
  have:=b v a;rw[tP,if_pos (.inl Z)]at this;exact this) (λv a=>(h v a).1) (λv a d=>by
  have:=(h v a).2;rw[if_pos d]at this;exact this) (λv a d=>by
  have:=(h v a).2;rw[if_neg d]at this;exact this)
theorem aab (b:VG g) (F:Int->Int->Int):SY g F (No g F):=by
 have d:=b.n1;refine⟨by simp[No],(Eh (PP g F) (show 0<g.2.length by omega)).trans Lg,λv c a=>(Eh (PP g F) c).trans ?_⟩
 unfold PP;rw[if_neg a]
end
section
variable {g:GR} {F:Int->Int->Int} {L N:Int} {r v j:Nat} {R:List Int}
structure LT (g:GR) (v j:Nat) (L:Int):Prop where
 nn:0<=L
 hi:L<=15
 seen:∀x i u w,(x<v∨x=v∧i<j)->x<g.2.length->Lk g x i u w->1<=L∧L<=w
theorem LT.start:LT g 0 0 0:=⟨Int.le_refl _,by omega,λx i u w h=>by omega⟩
theorem LT.link (f:VG g) (k:v<g.2.length) (h:LT g v j L) {u:Nat} {w:Int} (b:Lk g v j u w):LT g v (j+1) (if L=0∨w<L then w else L):=by
 have p:=tJ f k b;have n:=h.nn;have d:=h.hi;refine⟨by split<;>omega,by split<;>omega,λx i m c o l a=> ?_⟩
 by_cases e:x=v∧i=j
 ·obtain⟨rfl,rfl⟩:=e;have:c=w:=by rw[<-b.2.2.2,a.2.2.2]
  split<;>omega
 ·have:=h.seen x i m c (by omega) l a;split<;>omega
theorem LT.node (h:LT g v (row g v).length L):LT g (v+1) 0 L:=⟨h.nn,h.hi,λx i u w c b a=>by
 refine h.seen x i u w ?_ b a;by_cases e:x=v
 ·subst e;exact .inr ⟨rfl,a.1⟩
 ·exact .inl (by omega)⟩
theorem LT.fin (h:LT g g.2.length 0 L):1<=max L 1∧max L 1<=15∧∀x i u w,x<g.2.length->Lk g x i u w->1<=w->max L 1<=w:=by
 have:=h.nn;have:=h.hi;refine⟨by omega,by omega,λx i u w a b c=> ?_⟩
 have:=h.seen x i u w (.inl a) a b;omega
structure Gr (g:GR) (F:Int->Int->Int) (N:Int) (r v j:Nat) (R:List Int):Prop where
 bf:BF g F r v j R
 hi:∀x:Nat,x<g.2.length->at' R (x:Int)<=N
theorem Gr.lo (b:kZ g F L) (h:Gr g F N r v j R) {x:Nat} (a:x<g.2.length):0<=at' R (x:Int):=Int.le_trans (lV b a) (h.bf.ge x a)
theorem Gr.relax (c:kZ g F L) (b:v<g.2.length) (h:Gr g F N r v j R) {u:Nat} {w:Int} (d:Lk g v j u w):Gr g F N r v (j+1) (R.set v (min (at' R (v:Int)) (F (at' R (u:Int)) w))):=by
 refine⟨h.bf.relax c b d,λx e=> ?_⟩
 have a:=h.bf.len;rw[qQ _ _ _ _ (by omega)];have:=h.hi x e;have:=h.hi v b;split<;>omega
theorem Gr.node (a:kZ g F L) (b:v<g.2.length) (h:Gr g F N r v (row g v).length R):Gr g F N r (v+1) 0 R:=⟨h.bf.node a b,h.hi⟩
theorem Gr.round (h:Gr g F N r g.2.length 0 R):Gr g F N (r+1) 0 0 R:=⟨h.bf.round,h.hi⟩
noncomputable def Ct (g:GR) (F:Int->Int->Int):List Int:=(List.range g.2.length).map (jP g F)
theorem IX:(Ct g F).length=g.2.length:=by simp[Ct]
theorem BE {v:Nat} (a:v<g.2.length):at' (Ct g F) (v:Int)=jP g F v:=Eh _ a
theorem Gr.fin (h:Gr g F N g.2.length 0 0 R):R=Ct g F:=by
 have a:=h.bf.len;refine List.ext_getElem (by rw[a,IX]) λi b c=> ?_;rw[<-lD b,<-lD c,BE (by omega)];exact h.bf.fin (by omega)
theorem Gr.start (c:kZ g F L) (d:∀v,v<g.2.length->jP g F v<=N) (i:R.length=g.2.length) (b:0<g.2.length) (h:at' R 0=0) (f:∀x:Nat,x<g.2.length->x≠0->at' R (x:Int)=N):Gr g F N 0 0 0 R:=by
 refine⟨BF.start c i b h λx a e=>by rw[f x a e];exact d x a,λx a=> ?_⟩
 by_cases e:x=0
 ·subst e;rw[show at' R ((0:Nat):Int)=0 from h];have:=d 0 b;rw[Cb c b]at this;exact this
 ·rw[f x a e];exact Int.le_refl _
end
end Go.Proofs.YtcnnfkapmjhnaaaGreatDoor
namespace Go.Proofs.YtcnnfkapmjhnaaaGreatDoor
open Go.Sx
def Ba (U:Nat) (a:b_):Option Bool:=
 Option.bind (cW U ((a.1,a.2))) λb=>(some (b))
theorem UJ:aS Tryz.prog 115:=Tryz.call115
theorem Kq (U:Nat) {d:b_} (a:Value)  (b:Value)  (e:jO) (r:Bool) (h:Ba U d=some r):
  aY Tryz.prog 115 #[Value.agg #[a,b]] [Sl bP a d.1,S2 aV b e d.2] (λx:Unit=>vB (r)) (λx l=>l) (λ_ l=>l):=by
 refine aY.of Tryz.func115 Z Tryz.ntmps115 Z λc=>?_;refine aP<|aG (aI.box (cs:=[a,b]) Z Z) Z λi=>aC Z<|aJ<|aP<|cA 0 Z<|dV h λf g h=>aG (zBb LK (qH U a b e f g) Z (kA [0,1] Z)) Z λj=>aC Z<|aJ<|aU ?_;cases h;exact sB Z
def vR  (a:aO):Option aO:=
 some (a)
def vT (b:lZ) (a:rZ->Option aO) (c:aO):Option aO:=
 a ((wI .i64 (b.1+(1:Int))),c)
def vW (b:lZ) (a:rZ->Option aO) (c:aO):Option aO:=
 a ((wI .i64 (b.1+(1:Int))),c)
def oD (c:b_) (b:lZ) (d:rZ->Option aO) (a:lZ) (e:rZ->Option aO):Option aO:=
 if a.1<((at' c.2 b.1).length:Int)then(ck (0<=a.1∧a.1<((at' c.2 b.1).length:Int)) (ck (0<=b.1∧b.1<(a.2.length:Int)) (ck (0<=((at' (at' c.2 b.1) a.1).1)∧((at' (at' c.2 b.1) a.1).1)<(a.2.length:Int)) (ck (0<=b.1∧b.1<(a.2.length:Int)) (e ((wI .i64 (a.1+(1:Int))),(List.set a.2 (Int.toNat b.1) (min (at' a.2 b.1) (wI .i64 ((at' a.2 ((at' (at' c.2 b.1) a.1).1))+((at' (at' c.2 b.1) a.1).2)))))))))))else(vW b d (a.2))
def kJ (U:Nat) (e:b_) (d:lZ) (b:rZ->Option aO) (a:lZ) (c:rZ->Option aO):Option aO:=
 if a.1<(e.2.length:Int)then(ck (0<=a.1∧a.1<(e.2.length:Int)) (bH (oD e a c) U ((0:Int),a.2)))else(vT d b (a.2))
def vV (U:Nat) (d:b_) (a:lZ) (b:rZ->Option aO) (c:Unit):Option aO:=
 bH (kJ U d a b) U ((0:Int),a.2)
def gC (U:Nat) (c:b_) (a:lZ) (b:rZ->Option aO):Option aO:=
 if a.1<(c.1.length:Int)then(vV U c a b (()))else(vR  (a.2))
def vQ (U:Nat) (b:b_) (a:aO):Option aO:=
 ck (0<=(0:Int)∧(0:Int)<(a.length:Int)) (bH (gC U b) U ((0:Int),(List.set a (Int.toNat (0:Int)) (0:Int))))
def rY (U:Nat) (c:b_) (a:lZ) (b:rZ->Option aO):Option aO:=
 if a.1<((List.replicate (Int.toNat (List.length c.1:Int)) (0:Int)).length:Int)then(ck (0<=a.1∧a.1<(a.2.length:Int)) (b ((wI .i64 (a.1+(1:Int))),(List.set a.2 (Int.toNat a.1) (wI .i64 ((15:Int)*(c.1.length:Int)))))))else(vQ U c (a.2))
def nF (U:Nat) (a:b_):Option aO:=
 ck (0<=(a.1.length:Int)∧(a.1.length:Int)<=1099511627) (bH (rY U a) U ((0:Int),(List.replicate (Int.toNat (a.1.length:Int)) (0:Int))))
theorem UK:aS Tryz.prog 118:=Tryz.call118
theorem EI (U:Nat) {b:b_} (k:Value)  (j:Value)  (I:jO) (r:aO) (h:nF U b=some r):
  aY Tryz.prog 118 #[Value.agg #[k,j]] [Sl bP k b.1,S2 aV j I b.2] (λx:Value=>x) (λx l=>Ar cB x r::l) (λ_ l=>l):=by
 refine aY.of Tryz.func118 Z Tryz.ntmps118 Z λc=>?_;refine jT Fb<|aP<|aG (aI.box (cs:=[k,j]) Z Z) Z λC=>aC Z<|aJ<|aP<|bY Z<|cR 0 Z<|gS (aE.fact 0 Z) Z<|dQ h λj3 h=>aG (qO (e:=cB) (0:Int) Z Z Z Z j3 Z Z Z) Z λo=>aG (aI.alloc (cs:=[lE]) Z Z) Z λv=>dH (Know.one ((aT (aE.res 1 Z) cD))) λY=>fK 0 Z Z Y Z Z Z<|aJ<|aK<|CU (A:=aO) (B:=Unit) (λH X=>⟨53,Al ([]:eT)⟩) (λH=>vQ U b H=some r) (λH X=>[(1,vP C),(2,lE),(3,vP v)]) (λH X=>[bM v [o] 22,Ar cB o H,bM C [k,j] 29,Cz ([]:eT)]) (λH X=>[Sl bP k b.1,S2 aV j I b.2]) ?_ ?_
 ·refine aP<|cR 0 Z<|aD (fF Z (aT (aE.res 1 Z) cD) Z) Z<|aA Z<|aJ<|aR<|KM (A:=lZ) (B:=Unit) (λm G=>⟨53,Al ([]:eT)⟩) (rY U b) (λm G=>[(1,vP C),(2,lE),(3,vP v),(12,vI ((List.replicate (Int.toNat (List.length b.1:Int)) (0:Int)).length:Int)),(13,vI (m.1))]) (λm G=>[bM v [o] 22,Ar cB o m.2,bM C [k,j] 29,Cz ([]:eT)]) (λm G=>[Sl bP k b.1,S2 aV j I b.2]) ((0:Int),(List.replicate (Int.toNat (b.1.length:Int)) (0:Int))) () Z h SF (a_.refl _) (aB.refl _ _) ?_;intro ad m G h;refine aP<|cO Z<|aJ<|aK ?_;refine dK h Z (λh=>?_) λh=>?_
  ·refine cG<|aK<|aR<|aP<|aA Z<|aC Z<|aJ<|aQ<|cR 0 Z<|aA Z<|bY Z<|cR 2 Z<|gS (aE.fact 0 Z) Z<|aD (zA Z Z) Z<|dQ h λV h=>aD (aZ Z Z (aT (aE.res 1 Z) cD) Z Z V) Z<|t_ 1 (wI .i64 ((15:Int)*(b.1.length:Int))) V Z Z Z Z Z Z Z<|eV<|lU<|aQ<|cH Z<|aA Z<|aJ ?_;exact HR ((wI .i64 (m.1+(1:Int))),(List.set m.2 (Int.toNat m.1) (wI .i64 ((15:Int)*(b.1.length:Int))))) () Z h SF (a_.refl _) (aB.refl _ _)
  refine fL ?_;exact yZ (m.2) () Z h SF (a_.refl _) (aB.refl _ _)
 intro H X h;refine aP<|cR 0 Z<|dQ h λP h=>aD (aZ Z Z (aT (aE.res 1 Z) cD) Z Z P) Z<|t_ 1 (0:Int) P Z Z Z Z Z Z Z<|aJ<|aK<|CU (A:=aO) (B:=eT) (λs t=>⟨53,Al t⟩) (λs=>vR  s=some r) (λs t=>[(3,vP v)]) (λs t=>[bM v [o] 22,Ar cB o s,Cz t]) (λs t=>[Sl bP k b.1,S2 aV j I b.2]) ?_ ?_
 ·refine aP<|bY Z<|cR 2 Z<|gS (aE.fact 0 Z) Z<|aA Z<|aJ<|aR<|KM (A:=lZ) (B:=eT) (λf g=>⟨53,Al g⟩) (gC U b) (λf g=>[(1,vP C),(2,lE),(3,vP v),(28,vI (b.1.length:Int)),(29,vI (f.1))]) (λf g=>[bM v [o] 22,Ar cB o f.2,bM C [k,j] 29,Cz g]) (λf g=>[Sl bP k b.1,S2 aV j I b.2]) ((0:Int),(List.set H (Int.toNat (0:Int)) (0:Int))) ([]:eT) Z h SF (a_.refl _) (aB.refl _ _) ?_;intro E f g h;refine aP<|cO Z<|aJ<|aK ?_;refine dK h Z (λh=>?_) λh=>?_
  ·refine cG<|aK<|CU (A:=aO) (B:=eT) (λp u=>⟨53,Al u⟩) (λp=>vT f (bH (gC U b) E) p=some r) (λp u=>[(1,vP C),(2,lE),(3,vP v),(28,vI (b.1.length:Int)),(29,vI (f.1))]) (λp u=>[bM v [o] 22,Ar cB o p,bM C [k,j] 29,Cz u]) (λp u=>[Sl bP k b.1,S2 aV j I b.2]) ?_ ?_
   ·refine aR<|aP<|cA 2 Z<|qN (A:=Unit) (B:=Nat) (vs:=[Value.agg #[k,j]]) (λD=>vV U b f (bH (gC U b) E) D=some r) (λD n=>Value.func (.func 208) #[] #[vP n]) (λD n=>[bM n [k,j] 29,bM v [o] 22,Ar cB o f.2,bM C [k,j] 29,Cz g]) (λD n=>[Sl bP k b.1,S2 aV j I b.2]) (nT.fn (show aS Tryz.prog 116 from Tryz.call116) Z) Tryz.func116 Z Tryz.ntmps116 Z Z ?_ ?_
    ·refine aP<|aG (aI.box (cs:=[k,j]) Z Z) Z λN=>aC Z<|aJ<|aP<|aD (gX (cs:=[.tmp 1]) (vs:=[vP N]) Z) Z<|aC Z<|aJ<|aU ?_;exact jV () (N) h (.inl Z) (Cu.r1 Z (RV.tmp Z)) Z (a_.refl _) (aB.refl _ _)
    intro D n h;unfold vV at h;refine aJ<|aR<|y_ (i:=4) (cs:=[vP n]) g Z (show aS Tryz.prog 208 from Tryz.call208) Z Tryz.func208 Z Tryz.ntmps208 Z λy F J O=>aP<|bY Z<|cR 1 Z<|aD (jW Z (aE.fact 1 Z) Z) Z<|aA Z<|aJ<|aR<|eO (kJ U b f (bH (gC U b) E)) (λa K=>[(0,nS y),(8,j),(9,vI (b.2.length:Int)),(10,vI (a.1))]) (λa K=>[Lp y J LoopState.ready none,bM n [k,j] 29,bM v [o] 22,Ar cB o a.2,bM C [k,j] 29,Cz (List.cons F g)]) ((0:Int),f.2) () h SF (a_.refl _) ?_;intro W a K h;refine aP<|cO Z<|aJ<|aK ?_;refine dK h Z (λh=>?_) λh=>?_
    ·refine cG<|aK<|eJ (λw=>vW a (bH (kJ U b f (bH (gC U b) E)) W) w=some r) (λw L=>[(0,nS y),(8,j),(9,vI (b.2.length:Int)),(10,vI (a.1))]) (λw L=>[Lp y J LoopState.ready none,bM n [k,j] 29,bM v [o] 22,Ar cB o w,bM C [k,j] 29,Cz (List.cons F g)]) ?_ ?_
     ·refine aR<|aP<|aA Z<|dQ h λq h=>aD (cV Z Z (aE.fact 1 Z) Z Z q) Z<|aD (cP Z (aE.fact 1 Z) Z Z q) Z<|aC Z<|aC Z<|aJ<|aP<|aA Z<|aD (fF Z (zBd (aE.fact 1 Z) q.1 q.2) Z) Z<|aA Z<|aJ<|aR<|eO (oD b a (bH (kJ U b f (bH (gC U b) E)) W)) (λd M=>[(0,nS y),(3,vI (a.1)),(8,j),(9,vI (b.2.length:Int)),(10,vI (a.1)),(15,(at' I a.1).1),(16,vI ((at' b.2 a.1).length:Int)),(17,vI (d.1))]) (λd M=>[Lp y J LoopState.ready none,bM n [k,j] 29,bM v [o] 22,Ar cB o d.2,bM C [k,j] 29,Cz (List.cons F g)]) ((0:Int),a.2) () h SF (a_.refl _) ?_;intro ac d M h;refine aP<|cO Z<|aJ<|aK ?_;refine dK h Z (λh=>?_) λh=>?_
      ·refine cG<|aK<|aR<|aP<|dQ h λQ h=>aD (aZ Z Z (zBd (aE.fact 1 Z) q.1 q.2) Z Z Q) Z<|aD (eM (cs:=[vI ((at' (at' b.2 a.1) d.1).1),vI ((at' (at' b.2 a.1) d.1).2)]) Z (zBd (aE.fact 1 Z) q.1 q.2) bD Z Z Z Z Q) Z<|aG (aI.alloc (cs:=Ni) Z Z) Z λaa=>bK 0 (vs:=[vI ((at' (at' b.2 a.1) d.1).1),vI ((at' (at' b.2 a.1) d.1).2)]) Z Z Z Z Z Z<|aJ<|aP<|aA Z<|aA Z<|cA 0 Z<|EW (us:=[vI (a.1),Value.agg #[vI ((at' (at' b.2 a.1) d.1).1),vI ((at' (at' b.2 a.1) d.1).2)]]) (i:=1) O Z Z Z Z Z Z<|aP<|aC Z<|aJ<|aQ<|aG (aI.alloc (cs:=Ni) Z Z) Z λab=>bK 0 (vs:=[vI ((at' (at' b.2 a.1) d.1).1),vI ((at' (at' b.2 a.1) d.1).2)]) Z Z Z Z Z Z<|aJ<|HS (i:=2) Z<|aR ?_;refine JR.start [0,0,0,0,12,28,0,0,128,448,960,0,2048,8128,16380,32767,65535] 15 mixedOrders (by decide +kernel) ?_;refine zBe (by exact rfl) ?_;refine fG 4 Z<|bA Z<|fG 4 Z<|bA Z<|dQ h λR h=>bG Z (a_.cons 5 Z .nil) .nil (aZ Z Z (aT (aE.res 0 Z) cD) Z Z R) aN.z<|bG Z (a_.cons 5 Z .nil) .nil (bV Z (aT (aE.res 0 Z) cD) Z Z Z cT R) aN.z<|fG 4 Z<|dJ Z<|fG 0 Z<|dQ h λS h=>bG Z (a_.cons 5 Z .nil) .nil (aZ Z Z (aT (aE.res 0 Z) cD) Z Z S) aN.z<|bG Z (a_.cons 5 Z .nil) .nil (bV Z (aT (aE.res 0 Z) cD) Z Z Z cT S) aN.z<|dJ Z<|fG 0 Z<|gO Z (yE Z Z)<|gO Z (UB Z Z)<|bR 15 Z Z<|dQ h λT h=>aD (aZ Z Z (aT (aE.res 5 Z) cD) Z Z T) Z<|t_ 5 (min (at' d.2 a.1) (wI .i64 ((at' d.2 ((at' (at' b.2 a.1) d.1).1))+((at' (at' b.2 a.1) d.1).2)))) T Z Z Z Z Z Z Z<|eV<|HT<|BL (i:=2) Z<|aD (kB Z) Z<|aJ<|CC Z<|dD<|lU<|aQ<|cH Z<|aA Z<|aJ ?_;exact kO ((wI .i64 (d.1+(1:Int))),(List.set d.2 (Int.toNat a.1) (min (at' d.2 a.1) (wI .i64 ((at' d.2 ((at' (at' b.2 a.1) d.1).1))+((at' (at' b.2 a.1) d.1).2)))))) () h SF (a_.ix [2,3,4,5,6,7] Z Z) (aB.refl _ _)
      refine sD<|fD<|fD<|yY<|lU ?_;exact iH (d.2) () h SF Z
     intro w L h;unfold vW at h;refine aQ<|cH Z<|aA Z<|aJ ?_;exact AS ((wI .i64 (a.1+(1:Int))),w) () h SF Z
    refine sD<|fD<|fD<|yY<|Lr (i:=0) (.inr Z) Z (Cu.r0 Z)<|HT<|lU ?_;exact yZ (a.2) (List.cons F g) Z h SF (a_.ix [2,3,4,5] Z Z) (aB.refl _ _)
   intro p u h;unfold vT at h;refine aQ<|cH Z<|aA Z<|aJ ?_;exact HR ((wI .i64 (f.1+(1:Int))),p) (u) Z h SF (a_.refl _) (aB.refl _ _)
  refine fL ?_;exact yZ (f.2) (g) Z h SF (a_.ix [0,1,3] Z Z) (aB.refl _ _)
 intro s t h;unfold vR at h;refine aP<|cR 0 Z<|aC Z<|aJ<|aU<|mG (i:=2) (Ds:=(t)) (.inl Z) Z ?_;cases h;exact eR (o) Z Z (RV.tmp Z) (a_.ix [1] Z Z) aB.nil
def uS (U:Nat) (d:b_) (a:Int):Option Bd:=
 Option.bind (nF U ((d.1,d.2))) λb=>(Option.bind (nP U b) λc=>(ck ((max a (1:Int))≠0) (some (((3:Int),false,true,(wI .i64 ((wI .i64 (Int.tdiv c (max a (1:Int))))+(1:Int))),(-1:Int))))))
def zZ (b:eC) (a:gW->Option Bd) (c:Int):Option Bd:=
 a ((wI .i64 (b.1+(1:Int))),c)
def uT (b:eC) (a:gW->Option Bd) (c:Int):Option Bd:=
 a ((wI .i64 (b.1+(1:Int))),c)
def z_ (e:b_) (c:eC) (a:eC) (b:gW->Option Bd) (d:Bool):Option Bd:=
 if d=true then(uT a b ((at' (at' e.2 c.1) a.1).2))else(uT a b (a.2))
def pB (e:b_) (b:eC) (d:gW->Option Bd) (a:eC) (c:gW->Option Bd):Option Bd:=
 if a.1<((at' e.2 b.1).length:Int)then(ck (0<=a.1∧a.1<((at' e.2 b.1).length:Int)) (if a.2=(0:Int)then(z_ e b a c (true))else(z_ e b a c (decide (((at' (at' e.2 b.1) a.1).2)<a.2)))))else(zZ b d (a.2))
def kT (U:Nat) (c:b_) (a:eC) (b:gW->Option Bd):Option Bd:=
 if a.1<(c.2.length:Int)then(ck (0<=a.1∧a.1<(c.2.length:Int)) (bH (pB c a b) U ((0:Int),a.2)))else(uS U c (a.2))
def zY (U:Nat) (b:b_) (a:Unit):Option Bd:=
 bH (kT U b) U ((0:Int),(0:Int))
def tF (U:Nat) (a:b_):Option Bd:=
 Option.bind (Ba U ((a.1,a.2))) λb=>(if(!b)=true then(some (((0:Int),false,false,(0:Int),(0:Int))))else(zY U a (())))
theorem aeS:aS Tryz.prog 58:=Tryz.call58
theorem Nx (U:Nat) {d:b_} (g:Value)  (e:Value)  (F:jO) (r:(Int×Bool×Bool×Int×Int)) (h:tF U d=some r):
  aY Tryz.prog 58 #[Value.agg #[g,e]] [Sl bP g d.1,S2 aV e F d.2] (λx:Unit=>Value.agg #[vI (r.1),vB (r.2.1),vB (r.2.2.1),vI (r.2.2.2.1),vI (r.2.2.2.2)]) (λx l=>l) (λ_ l=>l):=by
 refine aY.of Tryz.func58 Z Tryz.ntmps58 Z λc=>?_;refine jT Fb<|aP<|aG (aI.box (cs:=[g,e]) Z Z) Z λD=>aG (aI.alloc (cs:=VX) Z Z) Z λv=>aJ<|aK<|aP<|cA 1 Z<|dV h λY w5 h=>aG (zBb UJ (Kq U g e F Y w5) Z (kA [0,1] Z)) Z λx6=>aD (kB Z) Z<|aJ ?_;refine yW h Z (λ_ h=>?_) λ_ h=>?_
 ·refine aP ?_;refine aD (Fc (r:=Value.agg #[vI (0:Int),vB (false),vB (false),vI (0:Int),vI (0:Int)]) (by intro w;simp[Instr.build,Instr.fill,dX,dA,cM,dY,dZ,dB,eQ])) Z ?_;refine bK 0 (vs:=VX) Z Z Z Z Z Z<|aJ<|aU<|aH<|mG (i:=2) (Ds:=([]:eT)) (.inl Z) Z ?_;cases h;exact eR () Z Z (RV.cell 0 Z Z Z Z) .nil aB.nil
 refine cG<|aP<|aG (aI.alloc (cs:=[vI (0:Int)]) Z Z) Z λy=>fK 0 Z Z Z Z Z Z<|aJ<|aK<|CU (A:=Int) (B:=eT) (λj n=>⟨34,Al n⟩) (λj=>uS U d j=some r) (λj n=>[(1,vP D),(2,vP v),(3,vP y)]) (λj n=>[bM y [vI (j)] 3,bM v VX 51,bM D [g,e] 29,Cz n]) (λj n=>[Sl bP g d.1,S2 aV e F d.2]) ?_ ?_
 ·refine aP<|cA 2 Z<|qN (A:=Unit) (B:=Nat) (vs:=[Value.agg #[g,e]]) (λt=>zY U d t=some r) (λt f=>Value.func (.func 208) #[] #[vP f]) (λt f=>[bM f [g,e] 29,bM y [vI (0:Int)] 3,bM v VX 51,bM D [g,e] 29,Cz ([]:eT)]) (λt f=>[Sl bP g d.1,S2 aV e F d.2]) (nT.fn (show aS Tryz.prog 116 from Tryz.call116) Z) Tryz.func116 Z Tryz.ntmps116 Z Z ?_ ?_
  ·refine aP<|aG (aI.box (cs:=[g,e]) Z Z) Z λM=>aC Z<|aJ<|aP<|aD (gX (cs:=[.tmp 1]) (vs:=[vP M]) Z) Z<|aC Z<|aJ<|aU ?_;exact jV () (M) h (.inl Z) (Cu.r1 Z (RV.tmp Z)) Z (a_.refl _) (aB.refl _ _)
  intro t f h;unfold zY at h;refine aJ<|aR<|y_ (i:=4) (cs:=[vP f]) ([]:eT) Z (show aS Tryz.prog 208 from Tryz.call208) Z Tryz.func208 Z Tryz.ntmps208 Z λk o s N=>aP<|bY Z<|cR 1 Z<|aD (jW Z (aE.fact 1 Z) Z) Z<|aA Z<|aJ<|aR<|eO (kT U d) (λa G=>[(0,nS k),(8,e),(9,vI (d.2.length:Int)),(10,vI (a.1))]) (λa G=>[Lp k s LoopState.ready none,bM f [g,e] 29,bM y [vI (a.2)] 3,bM v VX 51,bM D [g,e] 29,Cz (List.cons o ([]:eT))]) ((0:Int),(0:Int)) () h SF (a_.refl _) ?_;intro C a G h;refine aP<|cO Z<|aJ<|aK ?_;refine dK h Z (λh=>?_) λh=>?_
  ·refine cG<|aK<|eJ (λp=>zZ a (bH (kT U d) C) p=some r) (λp H=>[(0,nS k),(8,e),(9,vI (d.2.length:Int)),(10,vI (a.1))]) (λp H=>[Lp k s LoopState.ready none,bM f [g,e] 29,bM y [vI (p)] 3,bM v VX 51,bM D [g,e] 29,Cz (List.cons o ([]:eT))]) ?_ ?_
   ·refine aR<|aP<|aA Z<|dQ h λm h=>aD (cV Z Z (aE.fact 1 Z) Z Z m) Z<|aD (cP Z (aE.fact 1 Z) Z Z m) Z<|aC Z<|aC Z<|aJ<|aP<|aA Z<|aD (fF Z (zBd (aE.fact 1 Z) m.1 m.2) Z) Z<|aA Z<|aJ<|aR<|eO (pB d a (bH (kT U d) C)) (λb I=>[(0,nS k),(3,vI (a.1)),(8,e),(9,vI (d.2.length:Int)),(10,vI (a.1)),(15,(at' F a.1).1),(16,vI ((at' d.2 a.1).length:Int)),(17,vI (b.1))]) (λb I=>[Lp k s LoopState.ready none,bM f [g,e] 29,bM y [vI (b.2)] 3,bM v VX 51,bM D [g,e] 29,Cz (List.cons o ([]:eT))]) ((0:Int),a.2) () h SF (a_.refl _) ?_;intro P b I h;refine aP<|cO Z<|aJ<|aK ?_;refine dK h Z (λh=>?_) λh=>?_
    ·refine cG<|aK<|eJ (λq=>uT b (bH (pB d a (bH (kT U d) C)) P) q=some r) (λq J=>[(0,nS k),(3,vI (a.1)),(8,e),(9,vI (d.2.length:Int)),(10,vI (a.1)),(15,(at' F a.1).1),(16,vI ((at' d.2 a.1).length:Int)),(17,vI (b.1))]) (λq J=>[Lp k s LoopState.ready none,bM f [g,e] 29,bM y [vI (q)] 3,bM v VX 51,bM D [g,e] 29,Cz (List.cons o ([]:eT))]) ?_ ?_
     ·refine aR<|aP<|dQ h λO h=>aD (aZ Z Z (zBd (aE.fact 1 Z) m.1 m.2) Z Z O) Z<|aD (eM (cs:=[vI ((at' (at' d.2 a.1) b.1).1),vI ((at' (at' d.2 a.1) b.1).2)]) Z (zBd (aE.fact 1 Z) m.1 m.2) bD Z Z Z Z O) Z<|aG (aI.alloc (cs:=Ni) Z Z) Z λX=>bK 0 (vs:=[vI ((at' (at' d.2 a.1) b.1).1),vI ((at' (at' d.2 a.1) b.1).2)]) Z Z Z Z Z Z<|aJ<|aP<|aA Z<|aA Z<|cA 0 Z<|EW (us:=[vI (a.1),Value.agg #[vI ((at' (at' d.2 a.1) b.1).1),vI ((at' (at' d.2 a.1) b.1).2)]]) (i:=1) N Z Z Z Z Z Z<|aQ<|aG (aI.alloc (cs:=Ni) Z Z) Z λK=>bK 0 (vs:=[vI ((at' (at' d.2 a.1) b.1).1),vI ((at' (at' d.2 a.1) b.1).2)]) Z Z Z Z Z Z<|aJ<|HS (i:=2) Z<|aR<|aK<|eJ (λu=>z_ d a b (bH (pB d a (bH (kT U d) C)) P) u=some r) (λu L=>[(2,vP v),(3,vP y),(5,vP K),(22,vB (u))]) (λu L=>[bM K [vI ((at' (at' d.2 a.1) b.1).1),vI ((at' (at' d.2 a.1) b.1).2)] 115,Lp k s LoopState.busy none,bM f [g,e] 29,bM y [vI (b.2)] 3,bM v VX 51,bM D [g,e] 29,Cz (List.cons o ([]:eT))]) ?_ ?_
      ·refine aQ<|cR 4 Z<|bS Z<|aA Z ?_;refine Eb h Z (λ_ h=>?_) λ_ h=>?_
       ·refine aL Z<|aL Z<|aL Z<|aL Z<|eK Z<|aJ ?_;exact bW (true) () h SF (a_.ix [0,2,3,4,5,6,7] Z Z) (aB.refl _ _)
       refine aW Z (eI Z Z Z Z Z) Z<|aW Z (d_ 0 Z Z Z Z Z) Z<|aW Z (d_ 4 Z Z Z Z Z) Z<|aW Z (GN Z Z) Z<|fY Z<|aJ ?_;exact bW (decide (((at' (at' d.2 a.1) b.1).2)<b.2)) () h SF (a_.ix [0,2,3,4,5,6,7] Z Z) (aB.refl _ _)
      intro u L h;refine yW h Z (λ_ h=>?_) λ_ h=>?_
      ·refine aQ<|bY Z<|cR 0 Z<|fK 3 Z Z Z Z Z Z<|eV<|HT<|BL (i:=1) Z<|aD (kB Z) Z<|aJ<|CC Z<|dD<|lU ?_;exact bW ((at' (at' d.2 a.1) b.1).2) () h SF (a_.ix [1,2,3,4,5,6] Z Z) (aB.refl _ _)
      refine dD<|HT<|BL (i:=1) Z<|aD (kB Z) Z<|aJ<|CC Z<|dD<|lU ?_;exact bW (b.2) () h SF (a_.ix [1,2,3,4,5,6] Z Z) (aB.refl _ _)
     intro q J h;unfold uT at h;refine aQ<|cH Z<|aA Z<|aJ ?_;exact AS ((wI .i64 (b.1+(1:Int))),q) () h SF Z
    refine sD<|fD<|fD<|yY<|lU ?_;exact iH (b.2) () h SF Z
   intro p H h;unfold zZ at h;refine aQ<|cH Z<|aA Z<|aJ ?_;exact AS ((wI .i64 (a.1+(1:Int))),p) () h SF Z
  refine sD<|fD<|fD<|yY<|Lr (i:=0) (.inr Z) Z (Cu.r0 Z)<|lU ?_;exact yZ (a.2) (List.cons o ([]:eT)) Z h SF (a_.ix [2,3,4,5] Z Z) (aB.refl _ _)
 intro j n h;refine aK ?_;refine JR.start [0,1,3,0,8,31,63,127] 5 mixedOrders (by decide +kernel) ?_;refine zBe (by exact rfl) ?_;refine fX 2 Z<|dV h λS T h=>zBc Z Z Z (zBb UK (EI U g e F S T) Z (kA [0,1] Z)) Z (λQ=>(jD [] Z)) λQ=>dV h λE V h=>zBc Z Z Z (zBb OW (Ev U Q E V) Z (aB.cons (aT (aE.res 0 Z) cD) .nil)) Z (λW=>(jD [] Z)) λW=>bG Z (a_.cons 1 Z .nil) .nil (d_ 0 Z Z Z Z Z) (aN.h (a_.ix [1] Z Z) .nil (aN.h (a_.ix [0] Z Z) .nil aN.z))<|gO Z (Ka Z Z)<|bR 5 Z Z<|dQ h λR h=>aD (Tp Z Z R) Z<|cH Z<|aC Z<|aJ<|aP<|aA Z ?_;refine aD (LB (r:=Value.agg #[vI (3:Int),vB (false),vB (true),vI (wI .i64 ((wI .i64 (Int.tdiv E (max j (1:Int))))+(1:Int))),vI (-1:Int)]) Z Z Z Z (by intro w;simp[Instr.build,Instr.fill,dX,dA,cM,dY,dZ,dB,eQ])) Z ?_;refine bK 2 (vs:=[vI (3:Int),vB (false),vB (true),vI (wI .i64 ((wI .i64 (Int.tdiv E (max j (1:Int))))+(1:Int))),vI (-1:Int)]) Z Z Z Z Z Z<|aJ<|aU<|mG (i:=4) (Ds:=(n)) (.inl Z) Z ?_;cases h;exact eR () Z Z (RV.cell 2 Z Z Z Z) .nil aB.nil
def nR  (a:Bool):Option Bool:=
 some (a)
def pJ (U:Nat) (a:b_) (c:bX):Option Bool:=
 Option.bind (Ba U ((a.1,a.2))) λd=>(if d=true then(Option.bind (fI U ((a.1,a.2)) c ([(wI .i64 ((15:Int)*(a.1.length:Int))),(-1:Int)])) λb=>(nR  (b)))else(nR  (false)))
theorem abB:aS Tryz.prog 139:=Tryz.call139
theorem ER (U:Nat) {b:b_} {o:bX} (g:Value)  (i:Value)  (m:jO)  (j:Value)  (p:sY) (r:Bool) (h:pJ U b o=some r):
  aY Tryz.prog 139 #[Value.agg #[g,i],j] [Sl bP g b.1,S2 aV i m b.2,S2 bP j p o] (λx:Unit=>vB (r)) (λx l=>l) (λ_ l=>l):=by
 refine aY.of Tryz.func139 Z Tryz.ntmps139 Z λc=>?_;refine aP<|aG (aI.box (cs:=[g,i]) Z Z) Z λv=>aC Z<|aJ<|aK<|eJ (λd=>nR  d=some r) (λd n=>[(4,vB (d))]) (λd n=>[]) ?_ ?_
 ·refine aQ<|cA 0 Z<|dV h λq t h=>aG (zBb UJ (Kq U g i m q t) Z (kA [0,1] Z)) Z λw=>aA Z ?_;refine yX (by exact rfl) (by exact rfl) (λa=>?_) (λa=>?_)
  ·have h:=Kx a h;refine aW Z (jX 0 Z Z Z Z) Z<|eG Z<|aW Z (eI Z Z Z Z Z) Z<|aW Z (d_ 0 Z Z Z Z Z) Z<|aW Z (fF Z (aE.fact 0 Z) Z) Z<|aW Z (zA Z Z) Z<|nN Z (cQ (e:=cB) ([(wI .i64 ((15:Int)*(b.1.length:Int))),(-1:Int)]) [(0,vI (wI .i64 ((15:Int)*(b.1.length:Int)))),(1,vI (-1:Int))] Z Z Z Z (Ft (vI (wI .i64 ((15:Int)*(b.1.length:Int)))) (vI (-1:Int)) Z Z) Z Z Z) Z λs=>dV h λf k h=>nN Z (zBb OX (wM U g i m j p s f k) Z (aB.cons (aE.fact 0 Z) (aB.cons (aE.fact 1 Z) (aB.cons (aE.fact 2 Z) (aB.cons (aT (aE.res 0 Z) cD) .nil))))) Z λu=>eK Z<|aC Z<|aJ ?_;exact bW (f) () h SF .nil (aB.refl _ _)
  have h:=Ju a h;refine aL Z<|aL Z<|aL Z<|aL Z<|aL Z<|aL Z<|aL Z<|aL Z<|fY Z<|aC Z<|aJ ?_;exact bW (false) () h SF .nil (aB.refl _ _)
 intro d n h;unfold nR at h;refine aU ?_;cases h;exact kY Z
def xR (U:Nat) (a:eC) (b:aO) (c:Int):Option Bool:=
 ck (0<=a.1∧a.1<(b.length:Int)) (ck (0<=c∧c<(b.length:Int)) (some (decide ((wI .i64 ((at' b a.1)+a.2))=(at' b c)))))
theorem abC:aS Tryz.prog 141:=Tryz.call141
theorem KE (U:Nat) {d:eC} {g:aO} {i:Int} (a:Nat)  (j:Value)  (b:Nat) (r:Bool) (h:xR U d g i=some r):
  aY Tryz.prog 141 #[Value.agg #[vI (d.1),vI (d.2)],vP a,vP b] [bM a [j] 22,Sl bP j g,bM b [vI (i)] 3] (λx:Unit=>vB (r)) (λx l=>l) (λ_ l=>l):=by
 refine aY.of Tryz.func141 Z Tryz.ntmps141 Z λc=>?_;refine aP<|aG (aI.box (cs:=[vI (d.1),vI (d.2)]) Z Z) Z λk=>aC Z<|aJ<|aK ?_;refine JR.start [0,0,2,7,15,0,32,127,0,0,768,1792,4095,8191] 12 mixedOrders (by decide +kernel) ?_;refine zBe (by exact rfl) ?_;refine bG Z .nil (hZ 0 Z) (cY Z (aE.fact 0 Z) Z Z Z) aN.z<|dJ Z<|fG 0 Z<|dQ h λe h=>bG Z .nil (hZ 1 Z) (aZ Z Z (aE.fact 0 Z) Z Z e) aN.z<|bG Z .nil (hZ 1 Z) (bV Z (aE.fact 0 Z) Z Z Z cT e) aN.z<|dJ Z<|fG 0 Z<|gO Z (yE Z Z)<|bG Z .nil (hZ 0 Z) (cY Z (aE.fact 0 Z) Z Z Z) aN.z<|bG Z .nil (hZ 2 Z) (cY Z (aE.fact 0 Z) Z Z Z) aN.z<|dQ h λf h=>bG Z .nil (hZ 1 Z) (aZ Z Z (aE.fact 0 Z) Z Z f) aN.z<|bG Z .nil (hZ 1 Z) (bV Z (aE.fact 0 Z) Z Z Z cT f) aN.z<|bR 12 Z Z<|bS Z<|aC Z<|aJ<|aU ?_;cases h;exact sB Z
def Aa  (a:Unit):Option Bool:=
 some (true)
def Ab (b:Int) (a:(Int)->Option Bool) (c:Bool):Option Bool:=
 if c=true then(some (false))else(a (wI .i64 (b+(1:Int))))
def rW (c:bX) (e:aO) (a:Int) (b:(Int)->Option Bool) (d:Int):Option Bool:=
 ck (0<=(0:Int)∧(0:Int)<((at' c a).length:Int)) (ck (0<=a∧a<(e.length:Int)) (if(at' (at' c a) (0:Int))≠(at' e a)then(Ab a b (true))else(ck (0<=(1:Int)∧(1:Int)<((at' c a).length:Int)) (Ab a b (decide ((at' (at' c a) (1:Int))≠d))))))
def rX (d:bX) (e:aO) (b:Int) (a:(Int)->Option Bool) (c:Int):Option Bool:=
 rW d e b a (c)
def Ac (d:bX) (e:aO) (b:Int) (a:(Int)->Option Bool) (c:Unit):Option Bool:=
 rX d e b a (-1:Int)
def uU (U:Nat) (e:b_) (h:bX) (g:aO) (a:Int) (c:(Int)->Option Bool) (b:Int) (d:(Int)->Option Bool):Option Bool:=
 if b<((at' e.2 a).length:Int)then(ck (0<=b∧b<((at' e.2 a).length:Int)) (Option.bind (xR U ((((at' (at' e.2 a) b).1),((at' (at' e.2 a) b).2))) g a) λf=>(if f=true then(rX h g a c (b))else(d (wI .i64 (b+(1:Int)))))))else(Ac h g a c (()))
def jI (U:Nat) (d:b_) (c:bX) (e:aO) (a:Int) (b:(Int)->Option Bool):Option Bool:=
 if a<(c.length:Int)then(ck (0<=a∧a<(c.length:Int)) (if a≠(0:Int)then(ck (0<=a∧a<(d.2.length:Int)) (bH (uU U d c e a b) U (0:Int)))else(rW c e a b (-1:Int))))else(Aa  (()))
def wU (U:Nat) (a:b_) (b:bX):Option Bool:=
 Option.bind (pJ U ((a.1,a.2)) b) λc=>(if(!c)=true then(some (false))else(Option.bind (nF U ((a.1,a.2))) λd=>(bH (jI U a b d) U (0:Int))))
theorem aeV:aS Tryz.prog 73:=Tryz.call73
theorem Ny (U:Nat) {f:b_} {i:bX} (n:Value)  (o:Value)  (P:jO)  (D:Value)  (Q:sY) (r:Bool) (h:wU U f i=some r):
  aY Tryz.prog 73 #[Value.agg #[n,o],D] [Sl bP n f.1,S2 aV o P f.2,S2 bP D Q i] (λx:Unit=>vB (r)) (λx l=>l) (λ_ l=>l):=by
 refine aY.of Tryz.func73 Z Tryz.ntmps73 Z λc=>?_;refine aP<|aG (aI.box (cs:=[n,o]) Z Z) Z λy=>aC Z<|aJ<|aK<|aP<|cA 0 Z<|aA Z<|dV h λX Y h=>aG (zBb abB (ER U n o P D Q X Y) Z (kA [0,1,2] Z)) Z λx4=>aD (kB Z) Z<|aJ ?_;refine yW h Z (λ_ h=>?_) λ_ h=>?_
 ·refine aP<|aC Z<|aJ<|aU<|aH ?_;cases h;exact sB Z
 refine cG<|aP<|cA 0 Z<|dV h λj w7 h=>aG (zBb UK (EI U n o P j w7) Z (kA [0,1] Z)) Z λq=>aG (aI.alloc (cs:=[lE]) Z Z) Z λm=>dH (Know.one ((aT (aE.res 1 Z) cD))) λK=>fK 0 Z Z K Z Z Z<|aJ<|aK<|eJ (λv=>Aa  v=some r) (λv E=>[]) (λv E=>[]) ?_ ?_
 ·refine aP<|aA Z<|aD (jW Z (aE.fact 2 Z) Z) Z<|aA Z<|aJ<|aR<|eO (jI U f i j) (λa F=>[(2,vP y),(5,vP m),(15,D),(16,vI (i.length:Int)),(17,vI (a))]) (λa F=>[bM m [q] 22,Ar cB q j,bM y [n,o] 29]) (0:Int) () h SF (a_.refl _) ?_;intro u a F h;refine aP<|cO Z<|aJ<|aK ?_;refine dK h Z (λh=>?_) λh=>?_
  ·refine cG<|aK<|aR<|aP<|aA Z<|dQ h λe h=>aD (cV Z Z (aE.fact 2 Z) Z Z e) Z<|aD (cP Z (aE.fact 2 Z) Z Z e) Z<|aG (aI.alloc (cs:=[vI (0:Int)]) Z Z) Z λd=>fK 0 Z Z Z Z Z Z<|aC Z<|aJ<|aP<|aC Z<|aJ<|aK<|eJ (λp=>rW i j a (bH (jI U f i j) u) p=some r) (λp G=>[(2,vP y),(5,vP m),(6,vP d),(7,(at' Q a).1),(8,vI (p)),(15,D),(16,vI (i.length:Int)),(17,vI (a))]) (λp G=>[bM d [vI (a)] 3,bM m [q] 22,Ar cB q j,bM y [n,o] 29]) ?_ ?_
   ·refine aP<|cR 0 Z<|pC Z<|aJ ?_;refine dK h Z (λh=>?_) λh=>?_
    ·refine aQ<|cA 3 Z<|cR 0 Z<|aD (gX (cs:=[.tmp 5,.tmp 6]) (vs:=[vP m,vP d]) Z) Z<|qN (A:=Int) (B:=Unit) (vs:=[Value.agg #[n,o],vI (a),Value.func (.func 141) #[] #[vP m,vP d]]) (λk=>rX i j a (bH (jI U f i j) u) k=some r) (λk C=>vI (k)) (λk C=>[bM d [vI (a)] 3,bM m [q] 22,Ar cB q j,bM y [n,o] 29]) (λk C=>[Sl bP n f.1,S2 aV o P f.2,S2 bP D Q i]) (nT.fn (show aS Tryz.prog 140 from Tryz.call140) Z) Tryz.func140 Z Tryz.ntmps140 Z Z ?_ ?_
     ·refine aP<|aG (aI.box (cs:=[n,o]) Z Z) Z λT=>aC Z<|aJ<|aK<|eJ (λw=>Ac i j a (bH (jI U f i j) u) w=some r) (λw I=>[]) (λw I=>[bM d [vI (a)] 3,bM m [q] 22,Ar cB q j,bM y [n,o] 29]) ?_ ?_
      ·refine aP<|bY Z<|cR 0 Z<|aA Z<|dQ h λg h=>aD (cV Z Z (aE.fact 1 Z) Z Z g) Z<|aD (cP Z (aE.fact 1 Z) Z Z g) Z<|aD (fF Z (zBd (aE.fact 1 Z) g.1 g.2) Z) Z<|aA Z<|aJ<|aR<|eO (uU U f i j a (bH (jI U f i j) u)) (λb J=>[(2,Value.func (.func 141) #[] #[vP m,vP d]),(13,(at' P a).1),(14,vI ((at' f.2 a).length:Int)),(15,vI (b))]) (λb J=>[bM d [vI (a)] 3,bM m [q] 22,Ar cB q j,bM y [n,o] 29]) (0:Int) () h SF (a_.ix [1,2,3,4] Z Z) ?_;intro W b J h;refine aP<|cO Z<|aJ<|aK ?_;refine dK h Z (λh=>?_) λh=>?_
       ·refine cG<|aK<|aR<|aP<|aA Z<|dQ h λO h=>aD (aZ Z Z (zBd (aE.fact 1 Z) g.1 g.2) Z Z O) Z<|aD (eM (cs:=[vI ((at' (at' f.2 a) b).1),vI ((at' (at' f.2 a) b).2)]) Z (zBd (aE.fact 1 Z) g.1 g.2) bD Z Z Z Z O) Z<|aG (aI.alloc (cs:=Ni) Z Z) Z λV=>aC Z<|bK 0 (vs:=[vI ((at' (at' f.2 a) b).1),vI ((at' (at' f.2 a) b).2)]) Z Z Z Z Z Z<|aJ<|aP<|aA Z<|cA 0 Z<|dV h λR S h=>aG (i_ (vs:=[Value.agg #[vI ((at' (at' f.2 a) b).1),vI ((at' (at' f.2 a) b).2)]]) (cs:=[vP m,vP d]) abC Z (KE U m q d R S) Z (aB.cons (aE.res 2 Z) (aB.cons (aT (aE.res 3 Z) cD) (aB.cons (aE.res 1 Z) .nil))) (λ_ _=>rfl)) Z λaa=>aJ ?_;refine yW h Z (λ_ h=>?_) λ_ h=>?_
        ·refine aP<|aA Z<|aC Z<|aJ<|aU<|bN<|aH<|aH<|bN<|aH ?_;exact jV (b) () h (.inl Z) (Cu.r1 Z (RV.tmp Z)) Z (a_.ix [1,2,3,4] Z Z) (aB.refl _ _)
        refine dD<|lU<|aQ<|cH Z<|aA Z<|aJ ?_;exact kO (wI .i64 (b+(1:Int))) () h SF (a_.ix [1,2,3,4] Z Z) (aB.refl _ _)
       refine fL ?_;exact iH () (()) h SF Z
      intro w I h;unfold Ac at h;refine aP<|aC Z<|aJ<|aU ?_;exact jV (-1:Int) () h (.inl Z) (Cu.r1 Z (RV.tmp Z)) Z (a_.refl _) (aB.refl _ _)
     intro k C h;unfold rX at h;refine aC Z<|aJ ?_;exact iH (k) () h SF Z
    refine cG ?_;exact iH (-1:Int) () h SF Z
   intro p G h;refine aK<|eJ (λs=>Ab a (bH (jI U f i j) u) s=some r) (λs H=>[(2,vP y),(5,vP m),(15,D),(16,vI (i.length:Int)),(17,vI (a)),(42,vB (s))]) (λs H=>[bM m [q] 22,Ar cB q j,bM y [n,o] 29]) ?_ ?_
   ·refine JR.start [0,1,3,0,0,24,56,127,255,511,1023,2047,511,8191,16383] 13 mixedOrders (by decide +kernel) ?_;refine zBe (by exact rfl) ?_;refine bA Z<|dQ h λL h=>bG Z .nil (hZ 2 Z) (aZ Z Z (zBd (aE.fact 0 Z) e.1 e.2) Z Z L) aN.z<|bG Z .nil (hZ 2 Z) (bV Z (zBd (aE.fact 0 Z) e.1 e.2) Z Z Z cT L) aN.z<|fG 1 Z<|fG 0 Z<|dQ h λM h=>bG Z (a_.cons 2 Z .nil) .nil (aZ Z Z (aT (aE.res 0 Z) cD) Z Z M) aN.z<|bG Z (a_.cons 2 Z .nil) .nil (bV Z (aT (aE.res 0 Z) cD) Z Z Z cT M) aN.z<|gO Z (Bq Z Z)<|bA Z ?_;refine Dj (by exact rfl) (by exact rfl) (by exact rfl) (λt=>?_) (λt=>?_)
    ·have h:=Kx t h;refine bL Z Z Z Z<|bL Z Z Z Z<|bL Z Z Z Z<|bL Z Z Z Z<|bR 13 Z Z<|aL Z<|eK Z<|aJ ?_;exact bW (true) () h SF (a_.ix [1,2,3] Z Z) (aB.refl _ _)
    have h:=Xy t h;refine fN Z .nil .nil (gN Z) aN.z<|dQ h λN h=>fN Z .nil (hZ 2 Z) (aZ Z Z (zBd (aE.fact 0 Z) e.1 e.2) Z Z N) aN.z<|fN Z .nil (hZ 2 Z) (bV Z (zBd (aE.fact 0 Z) e.1 e.2) Z Z Z cT N) aN.z<|fN Z .nil .nil (gN Z) aN.z<|bR 13 Z Z<|aW Z (Bq Z Z) Z<|fY Z<|aJ ?_;exact bW (decide ((at' (at' i a) (1:Int))≠p)) () h SF (a_.ix [1,2,3] Z Z) (aB.refl _ _)
   intro s H h;refine yW h Z (λ_ h=>?_) λ_ h=>?_
   ·refine aP<|aC Z<|aJ<|aU<|bN<|aH<|aH<|bN<|aH ?_;cases h;exact sB Z
   refine dD<|lU<|aQ<|cH Z<|aA Z<|aJ ?_;exact AS (wI .i64 (a+(1:Int))) () h SF Z
  refine fL ?_;exact bW () (()) h SF .nil (aB.refl _ _)
 intro v E h;unfold Aa at h;refine aP<|aC Z<|aJ<|aU ?_;cases h;exact kY Z
def zW (U:Nat) (a:b_):Option Bool:=
 Option.bind (cW U ((a.1,a.2))) λb=>(some (b))
theorem UL:aS Tryz.prog 119:=Tryz.call119
theorem IR (U:Nat) {d:b_} (a:Value)  (b:Value)  (e:jO) (r:Bool) (h:zW U d=some r):
  aY Tryz.prog 119 #[Value.agg #[a,b]] [Sl bP a d.1,S2 aV b e d.2] (λx:Unit=>vB (r)) (λx l=>l) (λ_ l=>l):=by
 refine aY.of Tryz.func119 Z Tryz.ntmps119 Z λc=>?_;refine aP<|aG (aI.box (cs:=[a,b]) Z Z) Z λi=>aC Z<|aJ<|aP<|cA 0 Z<|dV h λf g h=>aG (zBb LK (qH U a b e f g) Z (kA [0,1] Z)) Z λj=>aC Z<|aJ<|aU ?_;cases h;exact sB Z
def jA (U:Nat) (a:Int) (b:Int) (c:eC):Option (Int):=
 some (max (wI .i64 (b+(1:Int))) (wI .i64 (c.2*a)))
theorem UN:aS Tryz.prog 144:=Tryz.call144
theorem CQ (U:Nat) {b:Int} {d:Int} {a:eC} (r:Int) (h:jA U b d a=some r):
  aY Tryz.prog 144 #[vI (b),vI (d),Value.agg #[vI (a.1),vI (a.2)]] [] (λx:Unit=>vI (r)) (λx l=>l) (λ_ l=>l):=by
 refine aY.of Tryz.func144 Z Tryz.ntmps144 Z λc=>?_;unfold jA at h;refine aP<|aG (aI.box (cs:=[vI (a.1),vI (a.2)]) Z Z) Z λe=>aC Z<|aJ<|aP<|aA Z<|cH Z<|bY Z<|cR 0 Z<|aA Z<|aD (zA Z Z) Z<|aD (Ka Z Z) Z<|aC Z<|aJ<|aU ?_;cases h;exact sB Z
def vX  (a:aO):Option aO:=
 some (a)
def vY (b:lZ) (a:rZ->Option aO) (c:aO):Option aO:=
 a ((wI .i64 (b.1+(1:Int))),c)
def v_ (b:lZ) (a:rZ->Option aO) (c:aO):Option aO:=
 a ((wI .i64 (b.1+(1:Int))),c)
def oF (U:Nat) (c:b_) (b:lZ) (d:rZ->Option aO) (a:lZ) (e:rZ->Option aO):Option aO:=
 if a.1<((at' c.2 b.1).length:Int)then(ck (0<=a.1∧a.1<((at' c.2 b.1).length:Int)) (ck (0<=b.1∧b.1<(a.2.length:Int)) (ck (0<=((at' (at' c.2 b.1) a.1).1)∧((at' (at' c.2 b.1) a.1).1)<(a.2.length:Int)) (Option.bind (jA U (c.1.length:Int) (at' a.2 ((at' (at' c.2 b.1) a.1).1)) ((((at' (at' c.2 b.1) a.1).1),((at' (at' c.2 b.1) a.1).2)))) λf=>(ck (0<=b.1∧b.1<(a.2.length:Int)) (e ((wI .i64 (a.1+(1:Int))),(List.set a.2 (Int.toNat b.1) (min (at' a.2 b.1) f)))))))))else(v_ b d (a.2))
def kK (U:Nat) (e:b_) (d:lZ) (b:rZ->Option aO) (a:lZ) (c:rZ->Option aO):Option aO:=
 if a.1<(e.2.length:Int)then(ck (0<=a.1∧a.1<(e.2.length:Int)) (bH (oF U e a c) U ((0:Int),a.2)))else(vY d b (a.2))
def vZ (U:Nat) (d:b_) (a:lZ) (b:rZ->Option aO) (c:Unit):Option aO:=
 bH (kK U d a b) U ((0:Int),a.2)
def gE (U:Nat) (c:b_) (a:lZ) (b:rZ->Option aO):Option aO:=
 if a.1<(c.1.length:Int)then(vZ U c a b (()))else(vX  (a.2))
def r_ (U:Nat) (b:b_) (a:aO):Option aO:=
 bH (gE U b) U ((0:Int),a)
def sA (U:Nat) (c:b_) (a:lZ) (b:rZ->Option aO):Option aO:=
 if a.1<(c.1.length:Int)then(ck (0<=a.1∧a.1<(a.2.length:Int)) (b ((wI .i64 (a.1+(1:Int))),(List.set a.2 (Int.toNat a.1) (wI .i64 ((16:Int)*(c.1.length:Int)))))))else(r_ U c (a.2))
def nG (U:Nat) (a:b_):Option aO:=
 ck (0<=(a.1.length:Int)∧(a.1.length:Int)<=1099511627) (bH (sA U a) U ((1:Int),(List.replicate (Int.toNat (a.1.length:Int)) (0:Int))))
theorem UM:aS Tryz.prog 120:=Tryz.call120
theorem EJ (U:Nat) {b:b_} (k:Value)  (j:Value)  (K:jO) (r:aO) (h:nG U b=some r):
  aY Tryz.prog 120 #[Value.agg #[k,j]] [Sl bP k b.1,S2 aV j K b.2] (λx:Value=>x) (λx l=>Ar cB x r::l) (λ_ l=>l):=by
 refine aY.of Tryz.func120 Z Tryz.ntmps120 Z λc=>?_;refine jT Fb<|aP<|aG (aI.box (cs:=[k,j]) Z Z) Z λC=>aC Z<|aJ<|aP<|bY Z<|cR 0 Z<|gS (aE.fact 0 Z) Z<|aG (aI.alloc (cs:=[vI (0:Int)]) Z Z) Z λD=>fK 0 Z Z Z Z Z Z<|aJ<|aP<|cR 0 Z<|dQ h λj4 h=>aG (qO (e:=cB) (0:Int) Z Z Z Z j4 Z Z Z) Z λo=>aG (aI.alloc (cs:=[lE]) Z Z) Z λv=>dH (Know.one ((aT (aE.res 1 Z) cD))) λaa=>fK 0 Z Z aa Z Z Z<|aJ<|aK<|CU (A:=aO) (B:=Unit) (λJ H=>⟨48,Al ([]:eT)⟩) (λJ=>r_ U b J=some r) (λJ H=>[(1,vP C),(2,lE),(3,vP D),(4,vP v)]) (λJ H=>[bM v [o] 22,Ar cB o J,bM D [vI (b.1.length:Int)] 3,bM C [k,j] 29,Cz ([]:eT)]) (λJ H=>[Sl bP k b.1,S2 aV j K b.2]) ?_ ?_
 ·refine aP<|aC Z<|aJ<|aR<|KM (A:=lZ) (B:=Unit) (λm I=>⟨48,Al ([]:eT)⟩) (sA U b) (λm I=>[(1,vP C),(2,lE),(3,vP D),(4,vP v),(5,vI (m.1))]) (λm I=>[bM v [o] 22,Ar cB o m.2,bM D [vI (b.1.length:Int)] 3,bM C [k,j] 29,Cz ([]:eT)]) (λm I=>[Sl bP k b.1,S2 aV j K b.2]) ((1:Int),(List.replicate (Int.toNat (b.1.length:Int)) (0:Int))) () Z h SF (a_.refl _) (aB.refl _ _) ?_;intro ag m I h;refine aK<|aP<|aA Z<|cR 2 Z<|cO Z<|aJ ?_;refine dK h Z (λh=>?_) λh=>?_
  ·refine cG<|aK<|aR<|aQ<|cR 0 Z<|aA Z<|cR 2 Z<|aD (zA Z Z) Z<|dQ h λX h=>aD (aZ Z Z (aT (aE.res 1 Z) cD) Z Z X) Z<|t_ 1 (wI .i64 ((16:Int)*(b.1.length:Int))) X Z Z Z Z Z Z Z<|eV<|lU<|aQ<|aA Z<|cH Z<|aC Z<|aJ ?_;exact HR ((wI .i64 (m.1+(1:Int))),(List.set m.2 (Int.toNat m.1) (wI .i64 ((16:Int)*(b.1.length:Int))))) () Z h SF (a_.refl _) (aB.refl _ _)
  refine fL ?_;exact yZ (m.2) () Z h SF (a_.refl _) (aB.refl _ _)
 intro J H h;unfold r_ at h;refine aK<|CU (A:=aO) (B:=eT) (λs t=>⟨48,Al t⟩) (λs=>vX  s=some r) (λs t=>[(4,vP v)]) (λs t=>[bM v [o] 22,Ar cB o s,Cz t]) (λs t=>[Sl bP k b.1,S2 aV j K b.2]) ?_ ?_
 ·refine aP<|cR 2 Z<|aA Z<|aJ<|aR<|KM (A:=lZ) (B:=eT) (λf g=>⟨48,Al g⟩) (gE U b) (λf g=>[(1,vP C),(2,lE),(3,vP D),(4,vP v),(23,vI (b.1.length:Int)),(24,vI (f.1))]) (λf g=>[bM v [o] 22,Ar cB o f.2,bM D [vI (b.1.length:Int)] 3,bM C [k,j] 29,Cz g]) (λf g=>[Sl bP k b.1,S2 aV j K b.2]) ((0:Int),J) ([]:eT) Z h SF (a_.refl _) (aB.refl _ _) ?_;intro F f g h;refine aP<|cO Z<|aJ<|aK ?_;refine dK h Z (λh=>?_) λh=>?_
  ·refine cG<|aK<|CU (A:=aO) (B:=eT) (λp u=>⟨48,Al u⟩) (λp=>vY f (bH (gE U b) F) p=some r) (λp u=>[(1,vP C),(2,lE),(3,vP D),(4,vP v),(23,vI (b.1.length:Int)),(24,vI (f.1))]) (λp u=>[bM v [o] 22,Ar cB o p,bM D [vI (b.1.length:Int)] 3,bM C [k,j] 29,Cz u]) (λp u=>[Sl bP k b.1,S2 aV j K b.2]) ?_ ?_
   ·refine aR<|aP<|cA 3 Z<|qN (A:=Unit) (B:=Nat) (vs:=[Value.agg #[k,j]]) (λE=>vZ U b f (bH (gE U b) F) E=some r) (λE n=>Value.func (.func 208) #[] #[vP n]) (λE n=>[bM n [k,j] 29,bM v [o] 22,Ar cB o f.2,bM D [vI (b.1.length:Int)] 3,bM C [k,j] 29,Cz g]) (λE n=>[Sl bP k b.1,S2 aV j K b.2]) (nT.fn (show aS Tryz.prog 116 from Tryz.call116) Z) Tryz.func116 Z Tryz.ntmps116 Z Z ?_ ?_
    ·refine aP<|aG (aI.box (cs:=[k,j]) Z Z) Z λQ=>aC Z<|aJ<|aP<|aD (gX (cs:=[.tmp 1]) (vs:=[vP Q]) Z) Z<|aC Z<|aJ<|aU ?_;exact jV () (Q) h (.inl Z) (Cu.r1 Z (RV.tmp Z)) Z (a_.refl _) (aB.refl _ _)
    intro E n h;unfold vZ at h;refine aJ<|aR<|y_ (i:=5) (cs:=[vP n]) g Z (show aS Tryz.prog 208 from Tryz.call208) Z Tryz.func208 Z Tryz.ntmps208 Z λy G L R=>aP<|bY Z<|cR 1 Z<|aD (jW Z (aE.fact 1 Z) Z) Z<|aA Z<|aJ<|aR<|eO (kK U b f (bH (gE U b) F)) (λa N=>[(0,nS y),(8,j),(9,vI (b.2.length:Int)),(10,vI (a.1))]) (λa N=>[Lp y L LoopState.ready none,bM n [k,j] 29,bM v [o] 22,Ar cB o a.2,bM D [vI (b.1.length:Int)] 3,bM C [k,j] 29,Cz (List.cons G g)]) ((0:Int),f.2) () h SF (a_.refl _) ?_;intro Y a N h;refine aP<|cO Z<|aJ<|aK ?_;refine dK h Z (λh=>?_) λh=>?_
    ·refine cG<|aK<|eJ (λw=>v_ a (bH (kK U b f (bH (gE U b) F)) Y) w=some r) (λw O=>[(0,nS y),(8,j),(9,vI (b.2.length:Int)),(10,vI (a.1))]) (λw O=>[Lp y L LoopState.ready none,bM n [k,j] 29,bM v [o] 22,Ar cB o w,bM D [vI (b.1.length:Int)] 3,bM C [k,j] 29,Cz (List.cons G g)]) ?_ ?_
     ·refine aR<|aP<|aA Z<|dQ h λq h=>aD (cV Z Z (aE.fact 1 Z) Z Z q) Z<|aD (cP Z (aE.fact 1 Z) Z Z q) Z<|aC Z<|aC Z<|aJ<|aP<|aA Z<|aD (fF Z (zBd (aE.fact 1 Z) q.1 q.2) Z) Z<|aA Z<|aJ<|aR<|eO (oF U b a (bH (kK U b f (bH (gE U b) F)) Y)) (λd P=>[(0,nS y),(3,vI (a.1)),(8,j),(9,vI (b.2.length:Int)),(10,vI (a.1)),(15,(at' K a.1).1),(16,vI ((at' b.2 a.1).length:Int)),(17,vI (d.1))]) (λd P=>[Lp y L LoopState.ready none,bM n [k,j] 29,bM v [o] 22,Ar cB o d.2,bM D [vI (b.1.length:Int)] 3,bM C [k,j] 29,Cz (List.cons G g)]) ((0:Int),a.2) () h SF (a_.refl _) ?_;intro af d P h;refine aP<|cO Z<|aJ<|aK ?_;refine dK h Z (λh=>?_) λh=>?_
      ·refine cG<|aK<|aR<|aP<|dQ h λS h=>aD (aZ Z Z (zBd (aE.fact 1 Z) q.1 q.2) Z Z S) Z<|aD (eM (cs:=[vI ((at' (at' b.2 a.1) d.1).1),vI ((at' (at' b.2 a.1) d.1).2)]) Z (zBd (aE.fact 1 Z) q.1 q.2) bD Z Z Z Z S) Z<|aG (aI.alloc (cs:=Ni) Z Z) Z λad=>bK 0 (vs:=[vI ((at' (at' b.2 a.1) d.1).1),vI ((at' (at' b.2 a.1) d.1).2)]) Z Z Z Z Z Z<|aJ<|aP<|aA Z<|aA Z<|cA 0 Z<|EW (us:=[vI (a.1),Value.agg #[vI ((at' (at' b.2 a.1) d.1).1),vI ((at' (at' b.2 a.1) d.1).2)]]) (i:=1) R Z Z Z Z Z Z<|aP<|aC Z<|aJ<|aQ<|aG (aI.alloc (cs:=Ni) Z Z) Z λae=>bK 0 (vs:=[vI ((at' (at' b.2 a.1) d.1).1),vI ((at' (at' b.2 a.1) d.1).2)]) Z Z Z Z Z Z<|aJ<|HS (i:=2) Z<|aR ?_;refine JR.start [0,0,0,0,12,28,0,0,0,256,896,1920,0,8128,16380,32767,65535] 15 mixedOrders (by decide +kernel) ?_;refine zBe (by exact rfl) ?_;refine fG 4 Z<|bA Z<|fG 4 Z<|bA Z<|dQ h λT h=>bG Z (a_.cons 5 Z .nil) .nil (aZ Z Z (aT (aE.res 0 Z) cD) Z Z T) aN.z<|bG Z (a_.cons 5 Z .nil) .nil (bV Z (aT (aE.res 0 Z) cD) Z Z Z cT T) aN.z<|fG 6 Z<|fG 4 Z<|dJ Z<|fG 0 Z<|dQ h λV h=>bG Z (a_.cons 5 Z .nil) .nil (aZ Z Z (aT (aE.res 0 Z) cD) Z Z V) aN.z<|bG Z (a_.cons 5 Z .nil) .nil (bV Z (aT (aE.res 0 Z) cD) Z Z Z cT V) aN.z<|fX 0 Z<|dV h λM ab h=>zBc Z Z Z (zBb UN (CQ U  M ab) Z .nil) Z (λac=>(jD [([5],[]),([5],[]),([4],[]),([4],[])] Z)) λac=>gO Z (UB Z Z)<|bR 15 Z Z<|dQ h λW h=>aD (aZ Z Z (aT (aE.res 5 Z) cD) Z Z W) Z<|t_ 5 (min (at' d.2 a.1) M) W Z Z Z Z Z Z Z<|eV<|HT<|BL (i:=2) Z<|aD (kB Z) Z<|aJ<|CC Z<|dD<|lU<|aQ<|cH Z<|aA Z<|aJ ?_;exact kO ((wI .i64 (d.1+(1:Int))),(List.set d.2 (Int.toNat a.1) (min (at' d.2 a.1) M))) () h SF (a_.ix [2,3,4,5,6,7,8] Z Z) (aB.refl _ _)
      refine sD<|fD<|fD<|yY<|lU ?_;exact iH (d.2) () h SF Z
     intro w O h;unfold v_ at h;refine aQ<|cH Z<|aA Z<|aJ ?_;exact AS ((wI .i64 (a.1+(1:Int))),w) () h SF Z
    refine sD<|fD<|fD<|yY<|Lr (i:=0) (.inr Z) Z (Cu.r0 Z)<|HT<|lU ?_;exact yZ (a.2) (List.cons G g) Z h SF (a_.ix [2,3,4,5,6] Z Z) (aB.refl _ _)
   intro p u h;unfold vY at h;refine aQ<|cH Z<|aA Z<|aJ ?_;exact HR ((wI .i64 (f.1+(1:Int))),p) (u) Z h SF (a_.refl _) (aB.refl _ _)
  refine fL ?_;exact yZ (f.2) (g) Z h SF (a_.ix [0,1,4] Z Z) (aB.refl _ _)
 intro s t h;unfold vX at h;refine aP<|cR 0 Z<|aC Z<|aJ<|aU<|mG (i:=2) (Ds:=(t)) (.inl Z) Z ?_;cases h;exact eR (o) Z Z (RV.tmp Z) (a_.ix [1] Z Z) aB.nil
def uO (U:Nat) (a:b_):Option Bd:=
 Option.bind (zW U ((a.1,a.2))) λc=>(if(!c)=true then(some (((0:Int),false,false,(0:Int),(0:Int))))else(Option.bind (nG U ((a.1,a.2))) λd=>(Option.bind (nP U d) λb=>(some (((3:Int),false,true,(wI .i64 (b+(1:Int))),(-1:Int)))))))
theorem aeT:aS Tryz.prog 59:=Tryz.call59
theorem MX (U:Nat) {e:b_} (b:Value)  (d:Value)  (g:jO) (r:(Int×Bool×Bool×Int×Int)) (h:uO U e=some r):
  aY Tryz.prog 59 #[Value.agg #[b,d]] [Sl bP b e.1,S2 aV d g e.2] (λx:Unit=>Value.agg #[vI (r.1),vB (r.2.1),vB (r.2.2.1),vI (r.2.2.2.1),vI (r.2.2.2.2)]) (λx l=>l) (λ_ l=>l):=by
 refine aY.of Tryz.func59 Z Tryz.ntmps59 Z λc=>?_;refine aP<|aG (aI.box (cs:=[b,d]) Z Z) Z λp=>aG (aI.alloc (cs:=VX) Z Z) Z λq=>aJ<|aK<|aP<|cA 1 Z<|dV h λi k h=>aG (zBb UL (IR U b d g i k) Z (kA [0,1] Z)) Z λs=>aD (kB Z) Z<|aJ ?_;refine yW h Z (λ_ h=>?_) λ_ h=>?_
 ·refine aP ?_;refine aD (Fc (r:=Value.agg #[vI (0:Int),vB (false),vB (false),vI (0:Int),vI (0:Int)]) (by intro w;simp[Instr.build,Instr.fill,dX,dA,cM,dY,dZ,dB,eQ])) Z ?_;refine bK 0 (vs:=VX) Z Z Z Z Z Z<|aJ<|aU<|aH ?_;cases h;exact eR () Z Z (RV.cell 0 Z Z Z Z) .nil aB.nil
 refine cG<|aP<|cA 1 Z<|dV h λj m h=>aG (zBb UM (EJ U b d g j m) Z (kA [0,1] Z)) Z λo=>dV h λa f h=>aG (zBb OW (Ev U o a f) Z (aB.cons (aT (aE.res 0 Z) cD) .nil)) Z λn=>cH Z ?_;refine aD (LB (r:=Value.agg #[vI (3:Int),vB (false),vB (true),vI (wI .i64 (a+(1:Int))),vI (-1:Int)]) Z Z Z Z (by intro w;simp[Instr.build,Instr.fill,dX,dA,cM,dY,dZ,dB,eQ])) Z ?_;refine bK 1 (vs:=[vI (3:Int),vB (false),vB (true),vI (wI .i64 (a+(1:Int))),vI (-1:Int)]) Z Z Z Z Z Z<|aJ<|aU ?_;cases h;exact eR () Z Z (RV.cell 1 Z Z Z Z) .nil aB.nil
def nC  (a:Bool):Option Bool:=
 some (a)
def nQ (U:Nat) (a:b_) (c:bX):Option Bool:=
 Option.bind (zW U ((a.1,a.2))) λd=>(if d=true then(Option.bind (fI U ((a.1,a.2)) c ([(wI .i64 ((16:Int)*(a.1.length:Int))),(-1:Int)])) λb=>(nC  (b)))else(nC  (false)))
theorem abD:aS Tryz.prog 142:=Tryz.call142
theorem Ew (U:Nat) {b:b_} {o:bX} (g:Value)  (i:Value)  (m:jO)  (j:Value)  (p:sY) (r:Bool) (h:nQ U b o=some r):
  aY Tryz.prog 142 #[Value.agg #[g,i],j] [Sl bP g b.1,S2 aV i m b.2,S2 bP j p o] (λx:Unit=>vB (r)) (λx l=>l) (λ_ l=>l):=by
 refine aY.of Tryz.func142 Z Tryz.ntmps142 Z λc=>?_;refine aP<|aG (aI.box (cs:=[g,i]) Z Z) Z λv=>aC Z<|aJ<|aK<|eJ (λd=>nC  d=some r) (λd n=>[(4,vB (d))]) (λd n=>[]) ?_ ?_
 ·refine aQ<|cA 0 Z<|dV h λq t h=>aG (zBb UL (IR U g i m q t) Z (kA [0,1] Z)) Z λw=>aA Z ?_;refine yX (by exact rfl) (by exact rfl) (λa=>?_) (λa=>?_)
  ·have h:=Kx a h;refine aW Z (jX 0 Z Z Z Z) Z<|eG Z<|aW Z (eI Z Z Z Z Z) Z<|aW Z (d_ 0 Z Z Z Z Z) Z<|aW Z (fF Z (aE.fact 0 Z) Z) Z<|aW Z (zA Z Z) Z<|nN Z (cQ (e:=cB) ([(wI .i64 ((16:Int)*(b.1.length:Int))),(-1:Int)]) [(0,vI (wI .i64 ((16:Int)*(b.1.length:Int)))),(1,vI (-1:Int))] Z Z Z Z (Ft (vI (wI .i64 ((16:Int)*(b.1.length:Int)))) (vI (-1:Int)) Z Z) Z Z Z) Z λs=>dV h λf k h=>nN Z (zBb OX (wM U g i m j p s f k) Z (aB.cons (aE.fact 0 Z) (aB.cons (aE.fact 1 Z) (aB.cons (aE.fact 2 Z) (aB.cons (aT (aE.res 0 Z) cD) .nil))))) Z λu=>eK Z<|aC Z<|aJ ?_;exact bW (f) () h SF .nil (aB.refl _ _)
  have h:=Ju a h;refine aL Z<|aL Z<|aL Z<|aL Z<|aL Z<|aL Z<|aL Z<|aL Z<|fY Z<|aC Z<|aJ ?_;exact bW (false) () h SF .nil (aB.refl _ _)
 intro d n h;unfold nC at h;refine aU ?_;cases h;exact kY Z
def vL (U:Nat) (a:eC) (d:b_) (b:aO) (c:Int):Option Bool:=
 ck (0<=a.1∧a.1<(b.length:Int)) (Option.bind (jA U (d.1.length:Int) (at' b a.1) ((a.1,a.2))) λe=>(ck (0<=c∧c<(b.length:Int)) (some (decide (e=(at' b c))))))
theorem abE:aS Tryz.prog 143:=Tryz.call143
theorem JN (U:Nat) {e:eC} {f:b_} {j:aO} {k:Int} (a:Nat)  (m:Value)  (n:Value)  (t:jO)  (b:Nat)  (o:Value)  (d:Nat) (r:Bool) (h:vL U e f j k=some r):
  aY Tryz.prog 143 #[Value.agg #[vI (e.1),vI (e.2)],vP a,vP b,vP d] [bM a [m,n] 29,Sl bP m f.1,S2 aV n t f.2,bM b [o] 22,Sl bP o j,bM d [vI (k)] 3] (λx:Unit=>vB (r)) (λx l=>l) (λ_ l=>l):=by
 refine aY.of Tryz.func143 Z Tryz.ntmps143 Z λc=>?_;refine aP<|aG (aI.box (cs:=[vI (e.1),vI (e.2)]) Z Z) Z λu=>aC Z<|aJ<|aK ?_;refine JR.start [0,1,3,0,0,16,56,120,0,511,0,0,3072,7168,16383,32767] 14 mixedOrders (by decide +kernel) ?_;refine zBe (by exact rfl) ?_;refine dJ Z<|bG Z .nil (hZ 0 Z) (cY Z (aE.fact 0 Z) Z Z Z) aN.z<|bG Z .nil (hZ 1 Z) (fF Z (aE.fact 0 Z) Z) aN.z<|bG Z .nil (hZ 3 Z) (cY Z (aE.fact 0 Z) Z Z Z) aN.z<|dJ Z<|fG 0 Z<|dQ h λg h=>bG Z .nil (hZ 4 Z) (aZ Z Z (aE.fact 0 Z) Z Z g) aN.z<|bG Z .nil (hZ 4 Z) (bV Z (aE.fact 0 Z) Z Z Z cT g) aN.z<|fX 0 Z<|dV h λp q h=>zBc Z Z Z (zBb UN (CQ U  p q) Z .nil) Z (λs=>(jD [] Z)) λs=>bG Z .nil (hZ 3 Z) (cY Z (aE.fact 0 Z) Z Z Z) (aN.h .nil (hZ 3 Z) aN.z)<|bG Z .nil (hZ 5 Z) (cY Z (aE.fact 0 Z) Z Z Z) (aN.h .nil (hZ 5 Z) aN.z)<|dQ h λi h=>bG Z .nil (hZ 4 Z) (aZ Z Z (aE.fact 0 Z) Z Z i) (aN.h .nil (hZ 4 Z) aN.z)<|bG Z .nil (hZ 4 Z) (bV Z (aE.fact 0 Z) Z Z Z cT i) (aN.h .nil (hZ 4 Z) aN.z)<|bR 14 Z Z<|bS Z<|aC Z<|aJ<|aU ?_;cases h;exact sB Z
def xX  (a:Unit):Option Bool:=
 some (true)
def xY (b:Int) (a:(Int)->Option Bool) (c:Bool):Option Bool:=
 if c=true then(some (false))else(a (wI .i64 (b+(1:Int))))
def pS (c:bX) (e:aO) (a:Int) (b:(Int)->Option Bool) (d:Int):Option Bool:=
 ck (0<=(0:Int)∧(0:Int)<((at' c a).length:Int)) (ck (0<=a∧a<(e.length:Int)) (if(at' (at' c a) (0:Int))≠(at' e a)then(xY a b (true))else(ck (0<=(1:Int)∧(1:Int)<((at' c a).length:Int)) (xY a b (decide ((at' (at' c a) (1:Int))≠d))))))
def pT (d:bX) (e:aO) (b:Int) (a:(Int)->Option Bool) (c:Int):Option Bool:=
 pS d e b a (c)
def xZ (d:bX) (e:aO) (b:Int) (a:(Int)->Option Bool) (c:Unit):Option Bool:=
 pT d e b a (-1:Int)
def sZ (U:Nat) (d:b_) (h:bX) (g:aO) (a:Int) (c:(Int)->Option Bool) (b:Int) (e:(Int)->Option Bool):Option Bool:=
 if b<((at' d.2 a).length:Int)then(ck (0<=b∧b<((at' d.2 a).length:Int)) (Option.bind (vL U ((((at' (at' d.2 a) b).1),((at' (at' d.2 a) b).2))) ((d.1,d.2)) g a) λf=>(if f=true then(pT h g a c (b))else(e (wI .i64 (b+(1:Int)))))))else(xZ h g a c (()))
def iS (U:Nat) (d:b_) (c:bX) (e:aO) (a:Int) (b:(Int)->Option Bool):Option Bool:=
 if a<(c.length:Int)then(ck (0<=a∧a<(c.length:Int)) (if a≠(0:Int)then(ck (0<=a∧a<(d.2.length:Int)) (bH (sZ U d c e a b) U (0:Int)))else(pS c e a b (-1:Int))))else(xX  (()))
def uP (U:Nat) (a:b_) (b:bX):Option Bool:=
 Option.bind (nQ U ((a.1,a.2)) b) λc=>(if(!c)=true then(some (false))else(Option.bind (nG U ((a.1,a.2))) λd=>(bH (iS U a b d) U (0:Int))))
theorem aeW:aS Tryz.prog 74:=Tryz.call74
theorem MY (U:Nat) {f:b_} {i:bX} (m:Value)  (n:Value)  (E:jO)  (D:Value)  (Q:sY) (r:Bool) (h:uP U f i=some r):
  aY Tryz.prog 74 #[Value.agg #[m,n],D] [Sl bP m f.1,S2 aV n E f.2,S2 bP D Q i] (λx:Unit=>vB (r)) (λx l=>l) (λ_ l=>l):=by
 refine aY.of Tryz.func74 Z Tryz.ntmps74 Z λc=>?_;refine aP<|aG (aI.box (cs:=[m,n]) Z Z) Z λo=>aC Z<|aJ<|aK<|aP<|cA 0 Z<|aA Z<|dV h λX Y h=>aG (zBb abD (Ew U m n E D Q X Y) Z (kA [0,1,2] Z)) Z λx4=>aD (kB Z) Z<|aJ ?_;refine yW h Z (λ_ h=>?_) λ_ h=>?_
 ·refine aP<|aC Z<|aJ<|aU<|aH ?_;cases h;exact sB Z
 refine cG<|aP<|cA 0 Z<|dV h λj w7 h=>aG (zBb UM (EJ U m n E j w7) Z (kA [0,1] Z)) Z λs=>aG (aI.alloc (cs:=[lE]) Z Z) Z λp=>dH (Know.one ((aT (aE.res 1 Z) cD))) λL=>fK 0 Z Z L Z Z Z<|aJ<|aK<|eJ (λw=>xX  w=some r) (λw F=>[]) (λw F=>[]) ?_ ?_
 ·refine aP<|aA Z<|aD (jW Z (aE.fact 2 Z) Z) Z<|aA Z<|aJ<|aR<|eO (iS U f i j) (λa G=>[(2,vP o),(5,vP p),(15,D),(16,vI (i.length:Int)),(17,vI (a))]) (λa G=>[bM p [s] 22,Ar cB s j,bM o [m,n] 29]) (0:Int) () h SF (a_.refl _) ?_;intro v a G h;refine aP<|cO Z<|aJ<|aK ?_;refine dK h Z (λh=>?_) λh=>?_
  ·refine cG<|aK<|aR<|aP<|aA Z<|dQ h λe h=>aD (cV Z Z (aE.fact 2 Z) Z Z e) Z<|aD (cP Z (aE.fact 2 Z) Z Z e) Z<|aG (aI.alloc (cs:=[vI (0:Int)]) Z Z) Z λd=>fK 0 Z Z Z Z Z Z<|aC Z<|aJ<|aP<|aC Z<|aJ<|aK<|eJ (λq=>pS i j a (bH (iS U f i j) v) q=some r) (λq H=>[(2,vP o),(5,vP p),(6,vP d),(7,(at' Q a).1),(8,vI (q)),(15,D),(16,vI (i.length:Int)),(17,vI (a))]) (λq H=>[bM d [vI (a)] 3,bM p [s] 22,Ar cB s j,bM o [m,n] 29]) ?_ ?_
   ·refine aP<|cR 0 Z<|pC Z<|aJ ?_;refine dK h Z (λh=>?_) λh=>?_
    ·refine aQ<|cA 3 Z<|cR 0 Z<|aD (gX (cs:=[.tmp 2,.tmp 5,.tmp 6]) (vs:=[vP o,vP p,vP d]) Z) Z<|qN (A:=Int) (B:=Unit) (vs:=[Value.agg #[m,n],vI (a),Value.func (.func 143) #[] #[vP o,vP p,vP d]]) (λk=>pT i j a (bH (iS U f i j) v) k=some r) (λk C=>vI (k)) (λk C=>[bM d [vI (a)] 3,bM p [s] 22,Ar cB s j,bM o [m,n] 29]) (λk C=>[Sl bP m f.1,S2 aV n E f.2,S2 bP D Q i]) (nT.fn (show aS Tryz.prog 140 from Tryz.call140) Z) Tryz.func140 Z Tryz.ntmps140 Z Z ?_ ?_
     ·refine aP<|aG (aI.box (cs:=[m,n]) Z Z) Z λT=>aC Z<|aJ<|aK<|eJ (λy=>xZ i j a (bH (iS U f i j) v) y=some r) (λy J=>[]) (λy J=>[bM d [vI (a)] 3,bM p [s] 22,Ar cB s j,bM o [m,n] 29]) ?_ ?_
      ·refine aP<|bY Z<|cR 0 Z<|aA Z<|dQ h λg h=>aD (cV Z Z (aE.fact 1 Z) Z Z g) Z<|aD (cP Z (aE.fact 1 Z) Z Z g) Z<|aD (fF Z (zBd (aE.fact 1 Z) g.1 g.2) Z) Z<|aA Z<|aJ<|aR<|eO (sZ U f i j a (bH (iS U f i j) v)) (λb K=>[(2,Value.func (.func 143) #[] #[vP o,vP p,vP d]),(13,(at' E a).1),(14,vI ((at' f.2 a).length:Int)),(15,vI (b))]) (λb K=>[bM d [vI (a)] 3,bM p [s] 22,Ar cB s j,bM o [m,n] 29]) (0:Int) () h SF (a_.ix [1,2,3,4] Z Z) ?_;intro W b K h;refine aP<|cO Z<|aJ<|aK ?_;refine dK h Z (λh=>?_) λh=>?_
       ·refine cG<|aK<|aR<|aP<|aA Z<|dQ h λP h=>aD (aZ Z Z (zBd (aE.fact 1 Z) g.1 g.2) Z Z P) Z<|aD (eM (cs:=[vI ((at' (at' f.2 a) b).1),vI ((at' (at' f.2 a) b).2)]) Z (zBd (aE.fact 1 Z) g.1 g.2) bD Z Z Z Z P) Z<|aG (aI.alloc (cs:=Ni) Z Z) Z λV=>aC Z<|bK 0 (vs:=[vI ((at' (at' f.2 a) b).1),vI ((at' (at' f.2 a) b).2)]) Z Z Z Z Z Z<|aJ<|aP<|aA Z<|cA 0 Z<|dV h λR S h=>aG (i_ (vs:=[Value.agg #[vI ((at' (at' f.2 a) b).1),vI ((at' (at' f.2 a) b).2)]]) (cs:=[vP o,vP p,vP d]) abE Z (JN U o m n E p s d R S) Z (aB.cons (aE.res 4 Z) (aB.cons (aE.fact 0 Z) (aB.cons (aE.fact 1 Z) (aB.cons (aE.res 2 Z) (aB.cons (aT (aE.res 3 Z) cD) (aB.cons (aE.res 1 Z) .nil)))))) (λ_ _=>rfl)) Z λaa=>aJ ?_;refine yW h Z (λ_ h=>?_) λ_ h=>?_
        ·refine aP<|aA Z<|aC Z<|aJ<|aU<|bN<|aH<|aH<|bN<|aH ?_;exact jV (b) () h (.inl Z) (Cu.r1 Z (RV.tmp Z)) Z (a_.ix [1,2,3,4] Z Z) (aB.refl _ _)
        refine dD<|lU<|aQ<|cH Z<|aA Z<|aJ ?_;exact kO (wI .i64 (b+(1:Int))) () h SF (a_.ix [1,2,3,4] Z Z) (aB.refl _ _)
       refine fL ?_;exact iH () (()) h SF Z
      intro y J h;unfold xZ at h;refine aP<|aC Z<|aJ<|aU ?_;exact jV (-1:Int) () h (.inl Z) (Cu.r1 Z (RV.tmp Z)) Z (a_.refl _) (aB.refl _ _)
     intro k C h;unfold pT at h;refine aC Z<|aJ ?_;exact iH (k) () h SF Z
    refine cG ?_;exact iH (-1:Int) () h SF Z
   intro q H h;refine aK<|eJ (λt=>xY a (bH (iS U f i j) v) t=some r) (λt I=>[(2,vP o),(5,vP p),(15,D),(16,vI (i.length:Int)),(17,vI (a)),(42,vB (t))]) (λt I=>[bM p [s] 22,Ar cB s j,bM o [m,n] 29]) ?_ ?_
   ·refine JR.start [0,1,3,0,0,24,56,127,255,511,1023,2047,511,8191,16383] 13 mixedOrders (by decide +kernel) ?_;refine zBe (by exact rfl) ?_;refine bA Z<|dQ h λM h=>bG Z .nil (hZ 2 Z) (aZ Z Z (zBd (aE.fact 0 Z) e.1 e.2) Z Z M) aN.z<|bG Z .nil (hZ 2 Z) (bV Z (zBd (aE.fact 0 Z) e.1 e.2) Z Z Z cT M) aN.z<|fG 1 Z<|fG 0 Z<|dQ h λN h=>bG Z (a_.cons 2 Z .nil) .nil (aZ Z Z (aT (aE.res 0 Z) cD) Z Z N) aN.z<|bG Z (a_.cons 2 Z .nil) .nil (bV Z (aT (aE.res 0 Z) cD) Z Z Z cT N) aN.z<|gO Z (Bq Z Z)<|bA Z ?_;refine Dj (by exact rfl) (by exact rfl) (by exact rfl) (λu=>?_) (λu=>?_)
    ·have h:=Kx u h;refine bL Z Z Z Z<|bL Z Z Z Z<|bL Z Z Z Z<|bL Z Z Z Z<|bR 13 Z Z<|aL Z<|eK Z<|aJ ?_;exact bW (true) () h SF (a_.ix [1,2,3] Z Z) (aB.refl _ _)
    have h:=Xy u h;refine fN Z .nil .nil (gN Z) aN.z<|dQ h λO h=>fN Z .nil (hZ 2 Z) (aZ Z Z (zBd (aE.fact 0 Z) e.1 e.2) Z Z O) aN.z<|fN Z .nil (hZ 2 Z) (bV Z (zBd (aE.fact 0 Z) e.1 e.2) Z Z Z cT O) aN.z<|fN Z .nil .nil (gN Z) aN.z<|bR 13 Z Z<|aW Z (Bq Z Z) Z<|fY Z<|aJ ?_;exact bW (decide ((at' (at' i a) (1:Int))≠q)) () h SF (a_.ix [1,2,3] Z Z) (aB.refl _ _)
   intro t I h;refine yW h Z (λ_ h=>?_) λ_ h=>?_
   ·refine aP<|aC Z<|aJ<|aU<|bN<|aH<|aH<|bN<|aH ?_;cases h;exact sB Z
   refine dD<|lU<|aQ<|cH Z<|aA Z<|aJ ?_;exact AS (wI .i64 (a+(1:Int))) () h SF Z
  refine fL ?_;exact bW () (()) h SF .nil (aB.refl _ _)
 intro w F h;unfold xX at h;refine aP<|aC Z<|aJ<|aU ?_;cases h;exact kY Z
end Go.Proofs.YtcnnfkapmjhnaaaGreatDoor
namespace Go.Proofs.YtcnnfkapmjhnaaaGreatDoor
open Go Go.Sx
theorem Zx (l:aO) (n:0<l.length) (o:l.length<900):∃m,nP 1000 l=some m∧(∀v:Nat,v<l.length->at' l (v:Int)<=m)∧∃v:Nat,v<l.length∧at' l (v:Int)=m:=by
 unfold nP;rw[if_neg (by omega),cK (by omega)];obtain⟨⟨a,i⟩,⟨c,⟨w,f,b⟩,d⟩,g⟩:=mL (step:=nX l) (K:=λz=>some z.1) (l.length - 1) (λk z=>z.2=((k+1:Nat):Int)∧(∃w:Nat,w<l.length∧z.1=at' l (w:Int))∧∀u:Nat,u<k+1->at' l (u:Int)<=z.1) (λk z h p e=>by
  obtain⟨a,i⟩:=z;obtain⟨c,⟨w,f,b⟩,d⟩:=e;dsimp only at c b d;subst c;refine⟨(max a (at' l ((k+1:Nat):Int)),((k+1+1:Nat):Int)),⟨rfl,?_,λu j=> ?_⟩,?_⟩
  ·dsimp only;by_cases q:at' l ((k+1:Nat):Int)<=a
   ·exact⟨w,f,by omega⟩
   ·exact⟨k+1,by omega,by omega⟩
  ·dsimp only;by_cases q:u<k+1
   ·have:=d u q;omega
   ·obtain rfl:u=k+1:=by omega
    omega
  ·unfold nX;dsimp only;rw[if_pos (by omega),cK (by omega),dL (by omega)]) (λz h e=>by
  obtain⟨a,i⟩:=z;obtain⟨c,_⟩:=e;dsimp only at c;subst c;unfold nX w_;dsimp only;rw[if_neg (by omega)]) 1000 (at' l (0:Int),(1:Int)) ⟨rfl,⟨0,by omega,rfl⟩,λu j=>by
   obtain rfl:u=0:=by omega
   exact Int.le_refl _⟩ (by omega)
 dsimp only at b d g;exact⟨a,g,λv r=>d v (by omega),w,f,b.symm⟩
section
variable {g:GR} {L:Int}
theorem GA (e:VG g) (o:kZ g fP L) {r v:Nat} (l:v<g.2.length) (x:Int×List Int) (y:x.1=(v:Int)) (k:Int×List Int->Option (List Int)) {R:List Int} (h:Gr g fP (15*(g.2.length:Int)) r v 0 R):
  ∃i,Gr g fP (15*(g.2.length:Int)) r v (row g v).length i∧bH (oD g x k) 1000 ((0:Int),R)=k (((v+1:Nat):Int),i):=by
 have C:=e.n24;have s:=e.len;have p:=(e.node v l).deg;obtain⟨a,b⟩:=x;dsimp only at y;subst y;have I:(at' g.2 (v:Int)).length=(row g v).length:=rfl;obtain⟨⟨j,i⟩,⟨q,d⟩,E⟩:=mL (step:=oD g ((v:Int),b) k) (K:=λz=>k (((v+1:Nat):Int),z.2)) (row g v).length (λj z=>z.1=(j:Int)∧Gr g fP (15*(g.2.length:Int)) r v j z.2) (λj z m q n=>by
  obtain⟨a,R⟩:=z;obtain⟨c,d⟩:=n;dsimp only at c d;subst c;obtain⟨u,w,f⟩:=e.lk l q;have D:=d.bf.len;have H:=tJ e l f;have t:=f.2.1;have F:=d.lo o t;have G:=d.hi u t;have A:(at' (at' g.2 (v:Int)) (j:Int)).1=(u:Int):=f.2.2.1;have B:(at' (at' g.2 (v:Int)) (j:Int)).2=w:=f.2.2.2;refine⟨(((j+1:Nat):Int),R.set v (min (at' R (v:Int)) (fP (at' R (u:Int)) w))),⟨rfl,d.relax o l f⟩,?_⟩
  unfold oD;dsimp only;rw[if_pos (by omega),cK (by omega),cK (by omega),A,B,cK (by omega),cK (by omega),wr (x:=at' R (u:Int)+w) (by omega) (by omega),dL (by omega),zAc];rfl) (λz m n=>by
  obtain⟨a,R⟩:=z;obtain⟨c,d⟩:=n;dsimp only at c d;subst c;unfold oD vW;dsimp only;rw[if_neg (by omega),dL (by omega)]) 1000 ((0:Int),R) ⟨rfl,h⟩ (by omega)
 exact⟨i,d,E⟩
theorem Gz (m:VG g) (o:kZ g fP L) {r:Nat} (w:r<g.2.length) (x:Int×List Int) (s:x.1=(r:Int)) (i:Int×List Int->Option (List Int)) {R:List Int} (h:Gr g fP (15*(g.2.length:Int)) r 0 0 R):
  ∃e,Gr g fP (15*(g.2.length:Int)) (r+1) 0 0 e∧bH (kJ 1000 g x i) 1000 ((0:Int),R)=i (((r+1:Nat):Int),e):=by
 have t:=m.n24;have p:=m.len;obtain⟨a,b⟩:=x;dsimp only at s;subst s;obtain⟨⟨j,e⟩,⟨u,d⟩,n⟩:=mL (step:=kJ 1000 g ((r:Int),b) i) (K:=λz=>i (((r+1:Nat):Int),z.2)) g.2.length (λv z=>z.1=(v:Int)∧Gr g fP (15*(g.2.length:Int)) r v 0 z.2) (λv z f q l=>by
  obtain⟨a,R⟩:=z;obtain⟨c,d⟩:=l;dsimp only at c d;subst c;obtain⟨e,k,n⟩:=GA m o q ((v:Int),R) Z f d;refine⟨(((v+1:Nat):Int),e),⟨rfl,k.node o q⟩,?_⟩
  unfold kJ;dsimp only;rw[if_pos (by omega),cK (by omega)];exact n) (λz f l=>by
  obtain⟨a,R⟩:=z;obtain⟨c,d⟩:=l;dsimp only at c d;subst c;unfold kJ vT;dsimp only;rw[if_neg (by omega),dL (by omega)]) 1000 ((0:Int),R) ⟨rfl,h⟩ (by omega)
 dsimp only at d;exact⟨e,d.round,n⟩
theorem Dz (s:VG g) (y:kZ g fP L) (D:∀v,v<g.2.length->jP g fP v<=15*(g.2.length:Int)):nF 1000 g=some (Ct g fP):=by
 have C:=s.n24;have G:=s.n1;have i:=s.len;have q:∀R,Gr g fP (15*(g.2.length:Int)) 0 0 0 R->bH (gC 1000 g) 1000 ((0:Int),R)=some (Ct g fP):=λR h=>by
  obtain⟨⟨j,w⟩,⟨E,l⟩,p⟩:=mL (step:=gC 1000 g) (K:=λz=>some z.2) g.2.length (λr z=>z.1=(r:Int)∧Gr g fP (15*(g.2.length:Int)) r 0 0 z.2) (λr z f F m=>by
   obtain⟨a,R⟩:=z;obtain⟨d,l⟩:=m;dsimp only at d l;subst d;obtain⟨w,u,p⟩:=Gz s y F ((r:Int),R) Z f l;refine⟨(((r+1:Nat):Int),w),⟨rfl,u⟩,?_⟩
   unfold gC vV;dsimp only;rw[if_pos (by omega)];exact p) (λz f m=>by
   obtain⟨a,R⟩:=z;obtain⟨d,l⟩:=m;dsimp only at d l;subst d;unfold gC vR;dsimp only;rw[if_neg (by omega)]) 1000 ((0:Int),R) ⟨rfl,h⟩ (by omega)
  dsimp only at l;rw[p,l.fin]
 have o:(List.replicate (Int.toNat (g.1.length:Int)) (0:Int)).length=g.2.length:=by simp[i]
 unfold nF;rw[cK (by omega)];obtain⟨⟨j,R⟩,⟨E,b,n⟩,p⟩:=mL (step:=rY 1000 g) (K:=λz=>vQ 1000 g z.2) g.2.length (λk z=>z.1=(k:Int)∧z.2.length=g.2.length∧∀x:Nat,x<k->at' z.2 (x:Int)=15*(g.2.length:Int)) (λk z f H m=>by
  obtain⟨a,R⟩:=z;obtain⟨c,b,n⟩:=m;dsimp only at c b n;subst c;refine⟨(((k+1:Nat):Int),R.set k (15*(g.2.length:Int))),⟨rfl,by simpa using b,λx t=> ?_⟩,?_⟩
  ·dsimp only;rw[qQ _ _ _ _ (by omega)];by_cases e:x=k
   ·rw[if_pos e]
   ·rw[if_neg e];exact n x (by omega)
  ·unfold rY;dsimp only;rw[if_pos (by rw[o];omega),cK (by omega),dL (by omega),i,wr (by omega) (by omega),zAc]) (λz f m=>by
  obtain⟨a,R⟩:=z;obtain⟨c,b,n⟩:=m;dsimp only at c b n;subst c;unfold rY;dsimp only;rw[if_neg (by rw[o];omega)]) 1000 ((0:Int),List.replicate (Int.toNat (g.1.length:Int)) (0:Int)) ⟨rfl,o,λx t=>absurd t (Nat.not_lt_zero x)⟩ (by omega)
 dsimp only at b n;rw[p];unfold vQ;rw[cK (show 0<=(0:Int)∧(0:Int)<(R.length:Int) by omega)];have A:Int.toNat (0:Int)=0:=rfl;rw[A];refine q _ (Gr.start y D (by simpa using b) (by omega) ?_ λx t B=> ?_)
 ·have:=qQ R 0 0 (0:Int) (show 0<R.length by omega);rw[if_pos Z]at this;exact this
 ·rw[qQ R 0 x (0:Int) (show 0<R.length by omega),if_neg B];exact n x t
end
section
theorem YS {g:GR} (b:VG g) {y w:Int} {e:Int} (i:0<=y) (j:y<=16*(g.2.length:Int)) (d:1<=w∧w<=15):jA 1000 (g.1.length:Int) y (e,w)=some (fW g.2.length y w):=by
 have c:=b.n24;have a:=b.len;have f:0<=w*(g.2.length:Int):=Int.mul_nonneg (by omega) (by omega);have h:w*(g.2.length:Int)<=15*(g.2.length:Int):=Int.mul_le_mul_of_nonneg_right d.2 (by omega);unfold jA fW;dsimp only;rw[a,wr (x:=y+1) (by omega) (by omega),wr (x:=w*(g.2.length:Int)) (by omega) (by omega)]
variable {g:GR} {L:Int}
theorem GK (e:VG g) (o:kZ g (fW g.2.length) L) {r v:Nat} (l:v<g.2.length) (x:Int×List Int) (y:x.1=(v:Int)) (k:Int×List Int->Option (List Int)) {R:List Int} (h:Gr g (fW g.2.length) (16*(g.2.length:Int)) r v 0 R):
  ∃i,Gr g (fW g.2.length) (16*(g.2.length:Int)) r v (row g v).length i∧bH (oF 1000 g x k) 1000 ((0:Int),R)=k (((v+1:Nat):Int),i):=by
 have E:=e.n24;have s:=e.len;have p:=(e.node v l).deg;obtain⟨a,b⟩:=x;dsimp only at y;subst y;have I:(at' g.2 (v:Int)).length=(row g v).length:=rfl;obtain⟨⟨j,i⟩,⟨q,d⟩,G⟩:=mL (step:=oF 1000 g ((v:Int),b) k) (K:=λz=>k (((v+1:Nat):Int),z.2)) (row g v).length (λj z=>z.1=(j:Int)∧Gr g (fW g.2.length) (16*(g.2.length:Int)) r v j z.2) (λj z m q n=>by
  obtain⟨a,R⟩:=z;obtain⟨c,d⟩:=n;dsimp only at c d;subst c;obtain⟨u,w,f⟩:=e.lk l q;have F:=d.bf.len;have H:=tJ e l f;have t:=f.2.1;have A:=d.lo o t;have B:=d.hi u t;have C:(at' (at' g.2 (v:Int)) (j:Int)).1=(u:Int):=f.2.2.1;have D:(at' (at' g.2 (v:Int)) (j:Int)).2=w:=f.2.2.2;refine⟨(((j+1:Nat):Int),R.set v (min (at' R (v:Int)) ((fW g.2.length) (at' R (u:Int)) w))),⟨rfl,d.relax o l f⟩,?_⟩
  unfold oF;dsimp only;rw[if_pos (by omega),cK (by omega),cK (by omega),C,D,cK (by omega),bB (show jA 1000 (g.1.length:Int) (at' R (u:Int)) ((u:Int),w)=some (fW g.2.length (at' R (u:Int)) w)from YS e A B H),cK (by omega),dL (by omega),zAc]) (λz m n=>by
  obtain⟨a,R⟩:=z;obtain⟨c,d⟩:=n;dsimp only at c d;subst c;unfold oF v_;dsimp only;rw[if_neg (by omega),dL (by omega)]) 1000 ((0:Int),R) ⟨rfl,h⟩ (by omega)
 exact⟨i,d,G⟩
theorem GJ (m:VG g) (o:kZ g (fW g.2.length) L) {r:Nat} (w:r<g.2.length) (x:Int×List Int) (s:x.1=(r:Int)) (i:Int×List Int->Option (List Int)) {R:List Int} (h:Gr g (fW g.2.length) (16*(g.2.length:Int)) r 0 0 R):
  ∃e,Gr g (fW g.2.length) (16*(g.2.length:Int)) (r+1) 0 0 e∧bH (kK 1000 g x i) 1000 ((0:Int),R)=i (((r+1:Nat):Int),e):=by
 have t:=m.n24;have p:=m.len;obtain⟨a,b⟩:=x;dsimp only at s;subst s;obtain⟨⟨j,e⟩,⟨u,d⟩,n⟩:=mL (step:=kK 1000 g ((r:Int),b) i) (K:=λz=>i (((r+1:Nat):Int),z.2)) g.2.length (λv z=>z.1=(v:Int)∧Gr g (fW g.2.length) (16*(g.2.length:Int)) r v 0 z.2) (λv z f q l=>by
  obtain⟨a,R⟩:=z;obtain⟨c,d⟩:=l;dsimp only at c d;subst c;obtain⟨e,k,n⟩:=GK m o q ((v:Int),R) Z f d;refine⟨(((v+1:Nat):Int),e),⟨rfl,k.node o q⟩,?_⟩
  unfold kK;dsimp only;rw[if_pos (by omega),cK (by omega)];exact n) (λz f l=>by
  obtain⟨a,R⟩:=z;obtain⟨c,d⟩:=l;dsimp only at c d;subst c;unfold kK vY;dsimp only;rw[if_neg (by omega),dL (by omega)]) 1000 ((0:Int),R) ⟨rfl,h⟩ (by omega)
 dsimp only at d;exact⟨e,d.round,n⟩
theorem DK (t:VG g) (A:kZ g (fW g.2.length) L) (D:∀v,v<g.2.length->jP g (fW g.2.length) v<=16*(g.2.length:Int)):nG 1000 g=some (Ct g (fW g.2.length)):=by
 have C:=t.n24;have G:=t.n1;have l:=t.len;have s:∀R,Gr g (fW g.2.length) (16*(g.2.length:Int)) 0 0 0 R->bH (gE 1000 g) 1000 ((0:Int),R)=some (Ct g (fW g.2.length)):=λR h=>by
  obtain⟨⟨j,y⟩,⟨E,m⟩,q⟩:=mL (step:=gE 1000 g) (K:=λz=>some z.2) g.2.length (λr z=>z.1=(r:Int)∧Gr g (fW g.2.length) (16*(g.2.length:Int)) r 0 0 z.2) (λr z i F n=>by
   obtain⟨a,R⟩:=z;obtain⟨f,m⟩:=n;dsimp only at f m;subst f;obtain⟨y,u,q⟩:=GJ t A F ((r:Int),R) Z i m;refine⟨(((r+1:Nat):Int),y),⟨rfl,u⟩,?_⟩
   unfold gE vZ;dsimp only;rw[if_pos (by omega)];exact q) (λz i n=>by
   obtain⟨a,R⟩:=z;obtain⟨f,m⟩:=n;dsimp only at f m;subst f;unfold gE vX;dsimp only;rw[if_neg (by omega)]) 1000 ((0:Int),R) ⟨rfl,h⟩ (by omega)
  dsimp only at m;rw[q,m.fin]
 have w:(List.replicate (Int.toNat (g.1.length:Int)) (0:Int)).length=g.2.length:=by simp[l]
 unfold nG;rw[cK (by omega)];obtain⟨⟨j,R⟩,⟨E,b,c,o⟩,q⟩:=mL (step:=sA 1000 g) (K:=λz=>r_ 1000 g z.2) (g.2.length - 1) (λk z=>z.1=((k+1:Nat):Int)∧z.2.length=g.2.length∧at' z.2 ((0:Nat):Int)=0∧∀x:Nat,x<k+1->x≠0->at' z.2 (x:Int)=16*(g.2.length:Int)) (λk z i H n=>by
  obtain⟨a,R⟩:=z;obtain⟨d,b,c,o⟩:=n;dsimp only at d b c o;subst d;refine⟨(((k+1+1:Nat):Int),R.set (k+1) (16*(g.2.length:Int))),⟨rfl,by simpa using b,?_,λx B p=> ?_⟩,?_⟩
  ·dsimp only;rw[qQ _ _ _ _ (by omega),if_neg (by omega)];exact c
  ·dsimp only;rw[qQ _ _ _ _ (by omega)];by_cases e:x=k+1
   ·rw[if_pos e]
   ·rw[if_neg e];exact o x (by omega) p
  ·unfold sA;dsimp only;rw[if_pos (by omega),cK (by omega),dL (by omega),l,wr (by omega) (by omega),zAc]) (λz i n=>by
  obtain⟨a,R⟩:=z;obtain⟨d,b,c,o⟩:=n;dsimp only at d b o;subst d;unfold sA;dsimp only;rw[if_neg (by omega)]) 1000 ((1:Int),List.replicate (Int.toNat (g.1.length:Int)) (0:Int)) ⟨rfl,w,by
   show at' (List.replicate (Int.toNat (g.1.length:Int)) (0:Int)) ((0:Nat):Int)=0;rw[lF,zA6,List.getElem?_replicate];split<;>rfl,λx B p=>absurd (show x=0 by omega) p⟩ (by omega)
 dsimp only at b c o;rw[q];unfold r_;exact s _ (Gr.start A D b (by omega) c λx B p=>o x (by omega) p)
end
section
variable {g:GR}
theorem BH (b:VG g) (a:Cv g):cW 1000 (g.1,g.2)=some true:=(DY b).1 a
theorem SP (F:Int->Int->Int) (f:1<=g.2.length) (c:g.2.length<=24):∃m,nP 1000 (Ct g F)=some m∧(∀v:Nat,v<g.2.length->jP g F v<=m)∧∃v:Nat,v<g.2.length∧jP g F v=m:=by
 have h:(Ct g F).length=g.2.length:=IX;obtain⟨m,e,b,v,a,d⟩:=Zx (Ct g F) (by omega) (by omega);refine⟨m,e,λv a=> ?_,v,by omega,?_⟩
 ·have:=b v (by omega);rwa[BE a]at this
 ·rwa[BE (by omega)]at d
theorem Zq (k:VG g) (I:Cv g):∃l:Int,1<=l∧l<=15∧(∀v i u w,v<g.2.length->Lk g v i u w->l<=w)∧∃a:Int,max a 1=l∧tF 1000 g=uS 1000 g a:=by
 have H:=k.n24;have L:=k.n1;obtain⟨⟨i,A⟩,⟨M,f⟩,r⟩:=mL (step:=kT 1000 g) (K:=λz=>uS 1000 g z.2) g.2.length (λv z=>z.1=(v:Int)∧LT g v 0 z.2) (λv z s m e=>by
  obtain⟨a,A⟩:=z;obtain⟨d,f⟩:=e;dsimp only at d f;subst d;have x:=(k.node v m).deg;have N:(at' g.2 (v:Int)).length=(row g v).length:=rfl;obtain⟨⟨j,C⟩,⟨y,n⟩,r⟩:=mL (step:=pB g ((v:Int),A) s) (K:=λz=>s (((v+1:Nat):Int),z.2)) (row g v).length (λj z=>z.1=(j:Int)∧LT g v j z.2) (λj z t y e=>by
   obtain⟨b,B⟩:=z;obtain⟨c,p⟩:=e;dsimp only at c p;subst c;obtain⟨u,w,o⟩:=k.lk m y;have G:(at' (at' g.2 (v:Int)) (j:Int)).2=w:=o.2.2.2;refine⟨(((j+1:Nat):Int),if B=0∨w<B then w else B),⟨rfl,p.link k m o⟩,?_⟩
   unfold pB z_ uT;dsimp only;rw[if_pos (by omega),cK (by omega),G,dL (by omega)];by_cases z:B=0
   ·rw[if_pos z,if_pos Z,if_pos (.inl z)]
   ·rw[if_neg z];by_cases q:w<B
    ·rw[if_pos (zA9 q),if_pos (.inr q)]
    ·rw[if_neg (by simpa using q),if_neg (by rintro(h|h);exact z h;exact q h)]) (λz t e=>by
   obtain⟨b,B⟩:=z;obtain⟨c,p⟩:=e;dsimp only at c p;subst c;unfold pB zZ;dsimp only;rw[if_neg (by omega),dL (by omega)]) 1000 ((0:Int),A) ⟨rfl,f⟩ (by omega)
  dsimp only at n;refine⟨(((v+1:Nat):Int),C),⟨rfl,n.node⟩,?_⟩
  unfold kT;dsimp only;rw[if_pos (by omega),cK (by omega)];exact r) (λz s e=>by
  obtain⟨a,A⟩:=z;obtain⟨d,f⟩:=e;dsimp only at d f;subst d;unfold kT;dsimp only;rw[if_neg (by omega)]) 1000 ((0:Int),(0:Int)) ⟨rfl,LT.start⟩ (by omega)
 dsimp only at f r;obtain⟨D,E,F⟩:=f.fin;refine⟨max A 1,D,E,λv i u w m o=>F v i u w m o (tJ k m o).1,A,rfl,?_⟩
 unfold tF Ba;rw[bB (show(Option.bind (cW 1000 (g.1,g.2)) λJ=>some J)=some true by rw[bB (BH k I)]),if_neg (by decide)];unfold zY;exact r
theorem afj (b:VG g) (j:Cv g):∃(L:Int) (K:Nat),1<=L∧(∀v i u w,v<g.2.length->Lk g v i u w->L<=w)∧1<=K∧K<=700∧(∀v,v<g.2.length->jP g fP v<(K:Int)*L)∧tF 1000 g=some (3,false,true,(K:Int),-1):=by
 have o:=b.n24;have n:=b.n1;obtain⟨l,h,s,k,a,p,q⟩:=Zq b j;have S:=ahI b j default default h k;obtain⟨m,r,f,v,d,c⟩:=SP (g:=g) fP n (by omega);have e:0<=m:=by rw[<-c];exact lV S.grow d
 have z:m<=15*(g.2.length:Int):=by rw[<-c];exact S.cap v d
 have t:0<=m / l:=Int.ediv_nonneg e (by omega);have y:m / l<=m:=Int.ediv_le_self _ e;refine⟨l,(m / l+1).toNat,h,k,by omega,by omega,λv d=> ?_,?_⟩
 ·rw[show(((m / l+1).toNat:Nat):Int)=m / l+1 by omega];exact Xi h e (f v d)
 ·rw[q];unfold uS;rw[bB (show nF 1000 (g.1,g.2)=_ from Dz b S.grow S.cap),bB r,p,cK (by omega),Int.tdiv_eq_ediv_of_nonneg e,wr (x:=m / l) (by omega) (by omega),wr (by omega) (by omega),show(((m / l+1).toNat:Nat):Int)=m / l+1 by omega]
theorem afk (a:VG g) (e:Cv g):∃K:Nat,1<=K∧K<=700∧(∀v,v<g.2.length->jP g (fW g.2.length) v<(K:Int)*1)∧uO 1000 g=some (3,false,true,(K:Int),-1):=by
 have h:=a.n24;have f:=a.n1;have S:=ahJ a e default default;obtain⟨m,i,d,v,c,b⟩:=SP (g:=g) (fW g.2.length) f (by omega);have k:0<=m:=by rw[<-b];exact lV S.grow c
 have l:m<=16*(g.2.length:Int):=by rw[<-b];exact S.cap v c
 refine⟨(m+1).toNat,by omega,by omega,λv c=> ?_,?_⟩
 ·have:=d v c;omega
 ·unfold uO zW;rw[bB (show(Option.bind (cW 1000 (g.1,g.2)) λj=>some j)=some true by rw[bB (BH a e)]),if_neg (by decide),bB (show nG 1000 (g.1,g.2)=_ from DK a S.grow S.cap),bB i,wr (by omega) (by omega),show(((m+1).toNat:Nat):Int)=m+1 by omega]
end
section
variable {g:GR} {L:Int}
theorem RE (a:VG g) (A:Cv g) (s:kZ g fP L) (t:∀v,v<g.2.length->jP g fP v<=15*(g.2.length:Int)) (B:Wh g [15*(g.2.length:Int),-1] (cE g fP)):wU 1000 g (cE g fP)=some true:=by
 have z:=a.n24;have M:=a.n1;have e:=a.len;have C:(cE g fP).length=g.2.length:=Jh;have E:(Ct g fP).length=g.2.length:=IX;have m:pJ 1000 (g.1,g.2) (cE g fP)=some true:=by
  unfold pJ Ba;rw[bB (show(Option.bind (cW 1000 (g.1,g.2)) λF=>some F)=some true by rw[bB (BH a A)]),if_pos Z,e,wr (by omega) (by omega),bB (show fI 1000 (g.1,g.2) (cE g fP) [15*(g.2.length:Int),-1]=some true from(Ho a (by simp) _).1 B)];rfl
 unfold wU;rw[bB m,if_neg (by decide),bB (show nF 1000 (g.1,g.2)=_ from Dz a s t)];refine fM (step:=jI 1000 g (cE g fP) (Ct g fP)) (K:=some true) g.2.length (λv:Nat=>(v:Int)) (λv c b=> ?_) (λc=> ?_) 1000 (by omega)
 ·have x:=(a.node v b).deg;have O:(at' g.2 (v:Int)).length=(row g v).length:=rfl;have p:rW (cE g fP) (Ct g fP) (v:Int) c (PP g fP v)=c ((v+1:Nat):Int):=by
   unfold rW Ab;rw[NP b,BE b,cK (by simp),cK (by omega),if_neg (λh=>h Z),cK (by simp),if_neg (by rw[zA1];exact λh=>h Z),dL (by omega)]
  unfold jI;rw[if_pos (by omega),cK (by omega)];by_cases r:v=0
  ·subst r;rw[if_neg (λh=>h Z)];rw[Lg]at p;exact p
  ·rw[if_pos (by omega),cK (by omega)];have f:=Mm (n:=(row g v).length) (P:=λi=>fP (jP g fP (fU (row g v) i).1.toNat) (fU (row g v) i).2=jP g fP v) (step:=uU 1000 g (cE g fP) (Ct g fP) (v:Int) c) (Kf:=rW (cE g fP) (Ct g fP) (v:Int) c) (λi j D=> ?_) (λj=> ?_) 1000 (by omega)
   ·rw[<-PQ r]at f;exact f.trans p
   ·obtain⟨u,w,d⟩:=a.lk b D;obtain⟨_,J,I⟩:=Iq a d [];have N:=tJ a b d;have o:=d.2.1;have G:=lV s o;have H:=t u o;have k:(at' (at' g.2 (v:Int)) (i:Int)).1=(u:Int):=d.2.2.1;have l:(at' (at' g.2 (v:Int)) (i:Int)).2=w:=d.2.2.2;have y:xR 1000 ((u:Int),w) (Ct g fP) (v:Int)=some (decide (fP (jP g fP u) w=jP g fP v)):=by
     unfold xR;dsimp only;rw[cK (by omega),cK (by omega),BE o,BE b,wr (by omega) (by omega)];rfl
    unfold uU rX;rw[if_pos (by omega),cK (by omega),k,l,bB y,zAc,dL (by omega)];by_cases q:fP (jP g fP u) w=jP g fP v
    ·rw[zA9 q,if_pos Z,if_pos q]
    ·rw[zA8 q,if_neg (by decide),if_neg q]
   ·unfold uU Ac rX;rw[if_neg (by omega)]
 ·unfold jI Aa;rw[if_neg (by omega)]
end
section
variable {g:GR} {L:Int}
theorem Qk (a:VG g) (C:Cv g) (s:kZ g (fW g.2.length) L) (t:∀v,v<g.2.length->jP g (fW g.2.length) v<=16*(g.2.length:Int)) (D:Wh g [16*(g.2.length:Int),-1] (cE g (fW g.2.length))):uP 1000 g (cE g (fW g.2.length))=some true:=by
 have B:=a.n24;have N:=a.n1;have e:=a.len;have E:(cE g (fW g.2.length)).length=g.2.length:=Jh;have H:(Ct g (fW g.2.length)).length=g.2.length:=IX;have m:nQ 1000 (g.1,g.2) (cE g (fW g.2.length))=some true:=by
  unfold nQ zW;rw[bB (show(Option.bind (cW 1000 (g.1,g.2)) λI=>some I)=some true by rw[bB (BH a C)]),if_pos Z,e,wr (by omega) (by omega),bB (show fI 1000 (g.1,g.2) (cE g (fW g.2.length)) [16*(g.2.length:Int),-1]=some true from(Ho a (by simp) _).1 D)];rfl
 unfold uP;rw[bB m,if_neg (by decide),bB (show nG 1000 (g.1,g.2)=_ from DK a s t)];refine fM (step:=iS 1000 g (cE g (fW g.2.length)) (Ct g (fW g.2.length))) (K:=some true) g.2.length (λv:Nat=>(v:Int)) (λv c b=> ?_) (λc=> ?_) 1000 (by omega)
 ·have x:=(a.node v b).deg;have O:(at' g.2 (v:Int)).length=(row g v).length:=rfl;have p:pS (cE g (fW g.2.length)) (Ct g (fW g.2.length)) (v:Int) c (PP g (fW g.2.length) v)=c ((v+1:Nat):Int):=by
   unfold pS xY;rw[NP b,BE b,cK (by simp),cK (by omega),if_neg (λh=>h Z),cK (by simp),if_neg (by rw[zA1];exact λh=>h Z),dL (by omega)]
  unfold iS;rw[if_pos (by omega),cK (by omega)];by_cases r:v=0
  ·subst r;rw[if_neg (λh=>h Z)];rw[Lg]at p;exact p
  ·rw[if_pos (by omega),cK (by omega)];have f:=Mm (n:=(row g v).length) (P:=λi=>(fW g.2.length) (jP g (fW g.2.length) (fU (row g v) i).1.toNat) (fU (row g v) i).2=jP g (fW g.2.length) v) (step:=sZ 1000 g (cE g (fW g.2.length)) (Ct g (fW g.2.length)) (v:Int) c) (Kf:=pS (cE g (fW g.2.length)) (Ct g (fW g.2.length)) (v:Int) c) (λi j F=> ?_) (λj=> ?_) 1000 (by omega)
   ·rw[<-PQ r]at f;exact f.trans p
   ·obtain⟨u,w,d⟩:=a.lk b F;obtain⟨_,M,J⟩:=Iq a d [];have G:=tJ a b d;have o:=d.2.1;have y:=lV s o;have z:=t u o;have k:(at' (at' g.2 (v:Int)) (i:Int)).1=(u:Int):=d.2.2.1;have l:(at' (at' g.2 (v:Int)) (i:Int)).2=w:=d.2.2.2;have A:vL 1000 ((u:Int),w) (g.1,g.2) (Ct g (fW g.2.length)) (v:Int)=some (decide ((fW g.2.length) (jP g (fW g.2.length) u) w=jP g (fW g.2.length) v)):=by
     unfold vL;dsimp only;rw[cK (by omega),BE o,bB (show jA 1000 (g.1.length:Int) (jP g (fW g.2.length) u) ((u:Int),w)=_ from YS a y z G),cK (by omega),BE b]
    unfold sZ pT;rw[if_pos (by omega),cK (by omega),k,l,bB A,zAc,dL (by omega)];by_cases q:(fW g.2.length) (jP g (fW g.2.length) u) w=jP g (fW g.2.length) v
    ·rw[zA9 q,if_pos Z,if_pos q]
    ·rw[zA8 q,if_neg (by decide),if_neg q]
   ·unfold sZ xZ pT;rw[if_neg (by omega)]
 ·unfold iS xX;rw[if_neg (by omega)]
end
end Go.Proofs.YtcnnfkapmjhnaaaGreatDoor
namespace Go.Proofs.YtcnnfkapmjhnaaaGreatDoor
open Go.Sx
def xN  (a:Bool):Option Bool:=
 some (a)
def uK (U:Nat) (a:Int):Option Bool:=
 if(1:Int)<=a then(xN  (decide (a<=(4:Int))))else(xN  (false))
theorem Yu:aS Tryz.prog 88:=Tryz.call88
theorem FM (U:Nat) {b:Int} (r:Bool) (h:uK U b=some r):
  aY Tryz.prog 88 #[vI (b)] [] (λx:Unit=>vB (r)) (λx l=>l) (λ_ l=>l):=by
 refine aY.of Tryz.func88 Z Tryz.ntmps88 Z λc=>?_;refine aP<|aC Z<|aJ<|aK<|eJ (λa=>xN  a=some r) (λa d=>[(2,vB (a))]) (λa d=>[]) ?_ ?_
 ·refine aQ<|aA Z<|aD (Bo Z Z) Z<|aA Z ?_;refine Eb h Z (λ_ h=>?_) λ_ h=>?_
  ·refine eG Z<|aW Z (Dn Z Z) Z<|eK Z<|aC Z<|aJ ?_;exact iH (decide (b<=(4:Int))) () h SF Z
  refine aL Z<|aL Z<|fY Z<|aC Z<|aJ ?_;exact iH (false) () h SF Z
 intro a d h;unfold xN at h;refine aU ?_;cases h;exact kY Z
def rQ  (a:Bool):Option Bool:=
 some (a)
def rR  (a:Bool):Option Bool:=
 some (a)
def rP (e:Int) (c:b_) (b:Int) (a:Int) (d:Bool):Option Bool:=
 if d=true then(if(-1:Int)<=a then(ck (0<=b∧b<(c.2.length:Int)) (rQ  (decide (a<((at' c.2 b).length:Int)))))else(rQ  (false)))else(if e=(2:Int)then(if a=(0:Int)then(rR  (true))else(rR  (decide (a=(1:Int)))))else(some (decide (a=(0:Int)))))
def nE (U:Nat) (a:Int) (b:b_) (c:Int) (d:Int):Option Bool:=
 if a=(1:Int)then(rP a b c d (decide (a=(1:Int))))else(rP a b c d (decide (a=(4:Int))))
theorem UO:aS Tryz.prog 173:=Tryz.call173
theorem EH (U:Nat) {d:Int} {j:b_} {k:Int} {e:Int} (m:Value)  (n:Value)  (s:jO) (r:Bool) (h:nE U d j k e=some r):
  aY Tryz.prog 173 #[vI (d),Value.agg #[m,n],vI (k),vI (e)] [Sl bP m j.1,S2 aV n s j.2] (λx:Unit=>vB (r)) (λx l=>l) (λ_ l=>l):=by
 refine aY.of Tryz.func173 Z Tryz.ntmps173 Z λc=>?_;refine aP<|aG (aI.box (cs:=[m,n]) Z Z) Z λo=>aC Z<|aJ<|aK<|aP<|aA Z<|aJ<|aR<|aK<|eJ (λf=>rP d j k e f=some r) (λf p=>[(2,vI (k)),(3,vI (e)),(5,vP o),(9,vI (d)),(10,vB (f))]) (λf p=>[bM o [m,n] 29]) ?_ ?_
 ·refine aP<|bS Z<|aC Z<|aJ ?_;refine dK h Z (λh=>?_) λh=>?_
  ·refine cG ?_;exact iH (decide (d=(1:Int))) () h SF Z
  refine aQ<|bS Z<|aC Z<|aJ ?_;exact iH (decide (d=(4:Int))) () h SF Z
 intro f p h;refine yW h Z (λ_ h=>?_) λ_ h=>?_
 ·refine aK<|eJ (λg=>rQ  g=some r) (λg q=>[(8,vB (g))]) (λg q=>[]) ?_ ?_
  ·refine aQ<|aA Z<|aD (Bo Z Z) Z<|aA Z ?_;refine Eb h Z (λ_ h=>?_) λ_ h=>?_
   ·refine eG Z<|aW Z (eI Z Z Z Z Z) Z<|aW Z (d_ 0 Z Z Z Z Z) Z<|eG Z<|dQ h λb h=>aW Z (cV Z Z (aE.fact 1 Z) Z Z b) Z<|aW Z (cP Z (aE.fact 1 Z) Z Z b) Z<|aW Z (fF Z (zBd (aE.fact 1 Z) b.1 b.2) Z) Z<|aW Z (GN Z Z) Z<|eK Z<|aC Z<|aJ ?_;exact bW (decide (e<((at' j.2 k).length:Int))) () h SF .nil (aB.refl _ _)
   refine aL Z<|aL Z<|aL Z<|aL Z<|aL Z<|aL Z<|aL Z<|aL Z<|fY Z<|aC Z<|aJ ?_;exact bW (false) () h SF .nil (aB.refl _ _)
  intro g q h;unfold rQ at h;refine aU<|bN<|aH ?_;cases h;exact kY Z
 refine aP<|bS Z<|aC Z<|aJ ?_;refine dK h Z (λh=>?_) λh=>?_
 ·refine aK<|eJ (λa=>rR  a=some r) (λa i=>[(8,vB (a))]) (λa i=>[]) ?_ ?_
  ·refine aQ<|aA Z<|bS Z<|aA Z ?_;refine Eb h Z (λ_ h=>?_) λ_ h=>?_
   ·refine aL Z<|aL Z<|eK Z<|aC Z<|aJ ?_;exact bW (true) () h SF .nil (aB.refl _ _)
   refine eG Z<|aW Z (QM Z Z) Z<|fY Z<|aC Z<|aJ ?_;exact bW (decide (e=(1:Int))) () h SF .nil (aB.refl _ _)
  intro a i h;unfold rR at h;refine aU<|bN<|aH ?_;cases h;exact kY Z
 refine dD<|lU<|aP<|aA Z<|bS Z<|aC Z<|aJ<|aU ?_;cases h;exact sB Z
def iR (U:Nat) (a:eC) (b:Int):Option Bool:=
 some (decide (a.1=b))
theorem UT:aS Tryz.prog 220:=Tryz.call220
theorem Co (U:Nat) {b:eC} {d:Int} (a:Nat) (r:Bool) (h:iR U b d=some r):
  aY Tryz.prog 220 #[Value.agg #[vI (b.1),vI (b.2)],vP a] [bM a [vI (d)] 3] (λx:Unit=>vB (r)) (λx l=>l) (λ_ l=>l):=by
 refine aY.of Tryz.func220 Z Tryz.ntmps220 Z λc=>?_;unfold iR at h;refine aP<|aG (aI.box (cs:=[vI (b.1),vI (b.2)]) Z Z) Z λe=>aC Z<|aJ<|aP ?_;refine aD (lP (i:=0) Z Z Z Z Z (by decide)) Z ?_;refine cR 0 Z<|aD (cY Z (aE.fact 0 Z) Z Z Z) Z<|bS Z<|aC Z<|aJ<|aU ?_;cases h;exact sB Z
def sL (U:Nat) (a:eC) (b:Int):Option Bool:=
 some (decide (a.2=(wI .i64 (b - (1:Int)))))
theorem abU:aS Tryz.prog 221:=Tryz.call221
theorem HF (U:Nat) {b:eC} {d:Int} (a:Nat) (r:Bool) (h:sL U b d=some r):
  aY Tryz.prog 221 #[Value.agg #[vI (b.1),vI (b.2)],vP a] [bM a [vI (d)] 3] (λx:Unit=>vB (r)) (λx l=>l) (λ_ l=>l):=by
 refine aY.of Tryz.func221 Z Tryz.ntmps221 Z λc=>?_;unfold sL at h;refine aP<|aG (aI.box (cs:=[vI (b.1),vI (b.2)]) Z Z) Z λe=>aC Z<|aJ<|aP ?_;refine aD (lP (i:=1) Z Z Z Z Z (by decide)) Z ?_;refine cR 0 Z<|aD (cY Z (aE.fact 0 Z) Z Z Z) Z<|aD (qP Z Z) Z<|bS Z<|aC Z<|aJ<|aU ?_;cases h;exact sB Z
end Go.Proofs.YtcnnfkapmjhnaaaGreatDoor