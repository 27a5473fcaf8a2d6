/- Models and proofs. Conditions: none. -/
import Derived.Test.YtjlbcgddhnjcjaaGreatDoorZCCo7
import Derived.Test.YtjlbcgddhnjcjaaGreatDoorZCCo2
import Derived.Test.YtjlbcgddhnjcjaaGreatDoorZCCo5
import Derived.Test.YtjlbcgddhnjcjaaGreatDoorZCCo6
set_option linter.unusedVariables false
set_option linter.unusedSimpArgs false
set_option maxHeartbeats 4000000
set_option maxRecDepth 20000
section
namespace Go.Proofs.YtjlbcgddhnjcjaaGreatDoor
open Go Go.Sx
section
theorem RZ {g:GR} (hV:VG g) (p:vZ) (kind:Int) (c:aT) (ws:aL):
  bJ (lN 1000 p g kind c ws) 1000 ((0:Int),(0:Int),(List.replicate (Int.toNat (List.length g.2:Int)) ([]:aL)))=sW 1000 p g kind c ws (gQ g g.2.length,eO g):=by
 have h24:=hV.n24
 have hlen:=hV.len
 let f:Nat->aL:=fun v=>(List.range (row g v).length).map (HQ g v)
 let Q:Nat->aT:=fun k=>(List.range k).map f++List.replicate (g.2.length - k) []
 have hQ:∀k,k<=g.2.length->(Q k).length=g.2.length:=fun k hk=>by simp[Q];omega
 rw[show List.replicate (Int.toNat (List.length g.2:Int)) ([]:aL)=Q 0 by simp[Q]]
 refine dV (step:=lN 1000 p g kind c ws) g.2.length (fun k=>((k:Int),gQ g k,Q k)) (fun k ag hk=> ?_) (fun ag=> ?_) 1000 (by omega)
 ·have hdeg:=(hV.node k hk).deg
  have hq:k<(Q k).length:=by rw[hQ k (by omega)];exact hk
  unfold lN
  dsimp only
  rw[if_pos (by omega),cP (by omega),cP (by omega)]
  let Rw:Nat->aL:=fun j=>(List.range j).map (HQ g k)
  have e0:Q k=(Q k).set k (Rw 0):=by
   have:at' (Q k) (k:Int)=Rw 0:=by
    rw[kF hq];simp[Q,Rw]
   rw[<-this]
   exact(Ef (Q k) (k:Int) (by simpa using hq) (by omega)).symm
  rw[show(Q k)=(Q k).set k (Rw 0)from e0]
  have hgen:∀A:aT,A.length=g.2.length->bJ (qJ 1000 g ((k:Int),gQ g k,(Q k).set k (Rw 0)) ag) 1000 ((0:Int),A.set k (Rw 0))=ag (((k+1:Nat):Int),gQ g (k+1),A.set k (f k)):=by
   intro A hA
   refine dV (step:=qJ 1000 g ((k:Int),gQ g k,(Q k).set k (Rw 0)) ag) (K:=ag (((k+1:Nat):Int),gQ g (k+1),A.set k (f k))) (row g k).length (fun j=>((j:Int),A.set k (Rw j))) (fun j ag2 hj=> ?_) (fun ag2=> ?_) 1000 (by omega)
   ·obtain⟨u,hu,hue⟩:=hV.to hk hj
    have hdu:=(hV.node u hu).deg
    have a1:at' (A.set k (Rw j)) (k:Int)=Rw j:=by rw[sL _ _ _ _ (by omega),if_pos rfl]
    have hRl:(Rw j).length=j:=by simp[Rw]
    unfold qJ
    dsimp only
    rw[if_pos (show(j:Int)<((row g k).length:Int) by omega),cP (show 0<=(j:Int)∧(j:Int)<((row g k).length:Int) by omega),cP (by simp only[List.length_set];omega),show at' (at' g.2 (k:Int)) (j:Int)=jJ (row g k) j from rfl,hue,bA (show mG 1000 _ (u:Int) (k:Int)=_ from Kc g u (k:Int) hu (by omega)),a1,cP (by rw[hRl];simp;omega),cP (by simp only[List.length_set];omega),dO (by omega),Int.toNat_natCast,List.set_set]
    have:Rw j++[zD (row g u) (k:Int)]=Rw (j+1):=by
     simp only[Rw];rw[List.range_succ,List.map_append,List.map_singleton,HQ,hue,Int.toNat_natCast]
    rw[this]
   ·unfold qJ xB
    dsimp only
    rw[if_neg (show¬((row g k).length:Int)<((row g k).length:Int)from Int.lt_irrefl _),dO (by omega)]
    rfl
  have:=hgen (Q k) (hQ k (by omega))
  rw[sT f [] g.2.length k hk]at this
  exact this
 ·unfold lN
  dsimp only
  rw[if_neg (by omega)]
  simp[Q,eO,f]
def dC (g:GR):Nat:=2^g.2.length - 1
theorem Pw {g:GR} (b:VG g):dC g<4294967296:=by
 have a:=b.n24
 have:(2:Nat)^g.2.length<=2^24:=Nat.pow_le_pow_right (by omega) a
 unfold dC;omega
section
variable {p:vZ} {g:GR} {R:List RL}
theorem Oz (hV:VG g) (hp:Bc g p.2.1) (hz:p.2.2.map uX=Bi R) (hR:wO p.2.1.length R=true) {kind:Int} (hk1:1<=kind) (hk4:kind<=4) {c0:List (List Int)} (hc0:G_ g c0 p.2.1) {ws:List Int} (hws:ws.length<=900) (hw:∀k:Nat,k<ws.length->∃m:Nat,at' ws (k:Int)=(m:Int)∧m<4294967296)
  (P:Nat->List (List Int)->List Nat->CT->Prop) (h0:P 0 c0 [] (0,0,0,0,cD .u32 ((mV (bH p g) R (dC g) c0:Nat):Int) 16777215))
  (hstep:∀k c ch cnt t cnt' err,k<ws.length->pK g p.2.1.length c->P k c ch cnt->mV (bH p g) R (dC g) c≠0->t≠0->(∀i,t.testBit i=true->(mV (bH p g) R (dC g) c).testBit i=true)->(kind<=2->∀v u,t.testBit v=true->t.testBit u=true->¬El g v u)->(kind=4->t=mV (bH p g) R (dC g) c)->(∃net,g_ 1000 g=some net∧cO 1000 net kind ((mV (bH p g) R (dC g) c:Nat):Int) (at' ws (k:Int))=some (t:Int))->
   gW 1000 cnt (t:Int) ((mV (bH p g) R (dC g) (gJ (bH p g) p.2.1 R c t):Nat):Int)=some (cnt',err)->P (k+1) (gJ (bH p g) p.2.1 R c t) (ch++[t]) cnt'):
  ∃k c ch cnt ens,lM 1000 p g kind c0 ws=some ((As ch,ens,c,cnt),0)∧P k c ch cnt∧pK g p.2.1.length c∧k<=ws.length∧ch.length=k∧ens.length=k+1∧at' ens (k:Int)=((mV (bH p g) R (dC g) c:Nat):Int)∧(k=ws.length∨mV (bH p g) R (dC g) c=0):=by
 have h24:=hV.n24
 have hvl:=hp.len
 let S:=bH p g
 have hVS:VG S.2.1:=hV
 obtain⟨net,hnet,hN⟩:=UE hV
 have hcheck:nV 1000 p g kind c0 (ws.length:Int)=some 0:=by
  unfold nV
  rw[bA (show pB 1000 _ _ c0=_ from MC hV hp hc0),if_neg (by decide)]
  have:o_ 1000 kind=some true:=by
   unfold o_ m_
   rw[if_pos hk1,decide_eq_true hk4]
  rw[bA this,if_neg (by decide),if_neg (by omega)]
 unfold lM
 rw[bA (show nV 1000 _ _ kind c0 _=_ from hcheck),if_neg (by decide),cP (by omega),RZ hV p kind c0 ws]
 unfold sW xA
 rw[bA (show jB 1000 _ _=_ from IZ hV hp)]
 unfold w_
 rw[bA (show g_ 1000 _=_ from hnet),bA (show rC 1000 _=some ((dC g:Nat):Int)from Td hV)]
 have hen:∀c,pK g p.2.1.length c->bW 1000 (p,(p,g,gQ g g.2.length,eO g),zQ g p.2.1) c=some ((Yh S R c:Nat):Int):=fun c hc=>Ie hV hc hz hR (by simp[zQ])
 have hand:∀c,cD .u32 ((Yh S R c:Nat):Int) ((dC g:Nat):Int)=((mV S R (dC g) c:Nat):Int):=fun c=>Gk (TQ hVS R c) (Pw hV)
 unfold Ax
 dsimp only
 rw[bA (KY c0 (by rw[hc0.len];omega) (fun v hv=>by rw[hc0.row v (by rw[<-hc0.len];exact hv)];omega)),bA (show bW 1000 _ c0=_ from hen c0 hc0.shape),hand,bA (show nD 1000 _=some (0,0,0,0,cD .u32 ((mV S R (dC g) c0:Nat):Int) 16777215)from rfl),bA (show rW 1000 _ _ _=some ()from rfl),cP (by simp),List.nil_append]
 let A20:Int×List Int×(List (List (Int×Int)))×Int×List (List Int):=(((dC g:Nat):Int),net,zQ g p.2.1,gQ g g.2.length,eO g)
 have fin:∀k c ch cnt ens,P k c ch cnt->pK g p.2.1.length c->k<=ws.length->ch.length=k->ens.length=k+1->at' ens (k:Int)=((mV S R (dC g) c:Nat):Int)->(k=ws.length∨mV S R (dC g) c=0)->
   OK (fun r:(List Int×List Int×List (List Int)×CT)×Int=>∃k c ch cnt ens,r=((As ch,ens,c,cnt),0)∧P k c ch cnt∧pK g p.2.1.length c∧k<=ws.length∧ch.length=k∧ens.length=k+1∧at' ens (k:Int)=((mV S R (dC g) c:Nat):Int)∧(k=ws.length∨mV S R (dC g) c=0)) (sV (ens,cnt.1,cnt.2.1,cnt.2.2.1,cnt.2.2.2.1,cnt.2.2.2.2,c,As ch)):=
  fun k c ch cnt ens a1 a2 a3 a4 a5 a6 a7=>⟨_,rfl,k,c,ch,cnt,ens,rfl,a1,a2,a3,a4,a5,a6,a7⟩
 have key:=wW (step:=sX 1000 p g kind ws A20) (Q:=fun r:(List Int×List Int×List (List Int)×CT)×Int=>∃k c ch cnt ens,r=((As ch,ens,c,cnt),0)∧P k c ch cnt∧pK g p.2.1.length c∧k<=ws.length∧ch.length=k∧ens.length=k+1∧at' ens (k:Int)=((mV S R (dC g) c:Nat):Int)∧(k=ws.length∨mV S R (dC g) c=0))
  (fun x=>∃(k:Nat) (c:List (List Int)) (ch:List Nat) (cnt:CT) (ens:List Int),x=(((mV S R (dC g) c:Nat):Int),ens,(k:Int),cnt.1,cnt.2.1,cnt.2.2.1,cnt.2.2.2.1,cnt.2.2.2.2,c,As ch)∧P k c ch cnt∧pK g p.2.1.length c∧k<=ws.length∧ch.length=k∧ens.length=k+1∧at' ens (k:Int)=((mV S R (dC g) c:Nat):Int)) (fun x=>ws.length - x.2.2.1.toNat) (fun x ag hI hrec=>by
  obtain⟨k,c,ch,cnt,ens,rfl,b1,b2,b3,b4,b5,b6⟩:=hI
  unfold sX
  dsimp only
  by_cases hlt:k<ws.length
  rotate_left
  ·rw[if_neg (by omega)]
   exact fin k c ch cnt ens b1 b2 b3 b4 b5 b6 (.inl (by omega))
  obtain⟨w,hwe,hw32⟩:=hw k hlt
  have hin:Pp g (mV S R (dC g) c):=TR S R (dC g) c
  obtain⟨t,ht,hsub,hne⟩:=II hV hN hk1 hk4 hin hw32
  rw[if_pos (by omega),cP (by omega),hwe,bA (show cO 1000 net kind _ _=_ from ht)]
  unfold Az
  dsimp only
  by_cases he0:mV S R (dC g) c=0
  ·rw[if_pos (by omega)]
   exact fin k c ch cnt ens b1 b2 b3 b4 b5 b6 (.inr he0)
  obtain⟨ht0,hperm,hk2,hk4'⟩:=hne he0
  have ht32:t<4294967296:=by have:=Pp.lt hV (fun i hi=>hin i (hsub i hi));omega
  rw[if_neg (by omega),bA (show dL 1000 net kind _ _=_ from hperm),if_neg (by decide)]
  have hst:eJ 1000 (p,(p,g,gQ g g.2.length,eO g),zQ g p.2.1) c (t:Int)=some (gJ S p.2.1 R c t):=QC (gr:=gQ g g.2.length) hV hp b2 hz hR ht32 (fun v hv=>((yL S R (dC g) c v).1 (hsub v hv)).2.1)
  have hsh:pK g p.2.1.length (gJ S p.2.1 R c t):=b2.step
  obtain⟨⟨cnt',err⟩,hadd⟩:=Mt cnt ht32 ((mV S R (dC g) (gJ S p.2.1 R c t):Nat):Int)
  rw[bA (show eJ 1000 _ c (t:Int)=_ from hst),bA (show bW 1000 _ _=_ from hen _ hsh),hand,bA (show gW 1000 _ (t:Int) _=_ from hadd),bA (show rW 1000 _ _ _=some ()from rfl),cP (by simp[As];omega),cP (by simp;omega),dO (by omega)]
  refine hrec _ ⟨k+1,gJ S p.2.1 R c t,ch++[t],cnt',ens++[((mV S R (dC g) (gJ S p.2.1 R c t):Nat):Int)],by simp[As],hstep k c ch cnt t cnt' err hlt b2 b1 he0 ht0 hsub hk2 hk4' ⟨net,hnet,by rw[hwe];exact ht⟩ hadd,hsh,by omega,by simp[b4],by simp[b5],?_⟩ (by dsimp only;omega)
  exact KN (pre:=ens) (rest:=[]) (by simp) b5) 1000 (((mV S R (dC g) c0:Nat):Int),[((mV S R (dC g) c0:Nat):Int)],(0:Int),0,0,0,0,cD .u32 ((mV S R (dC g) c0:Nat):Int) 16777215,c0,[])
  ⟨0,c0,[],(0,0,0,0,cD .u32 ((mV S R (dC g) c0:Nat):Int) 16777215),[((mV S R (dC g) c0:Nat):Int)],rfl,h0,hc0.shape,by omega,rfl,rfl,rfl⟩ (by dsimp only;omega)
 obtain⟨r,hr,k,c,ch,cnt,ens,rfl,hrest⟩:=key
 exact⟨k,c,ch,cnt,ens,hr,hrest⟩
end
end
section
theorem XR (p p':vZ) (g:GR) (vars:List Dg) (R:List RL) (c:aT) (t:Nat):gJ (bH p g) vars R c t=gJ (bH p' g) vars R c t:=rfl
theorem Gn (p p':vZ) (g:GR) (R:List RL) (a:Nat) (c:aT):mV (bH p g) R a c=mV (bH p' g) R a c:=rfl
noncomputable def Yo (g:GR) (kind:Int) (en:Nat) (w:Int):Nat:=(((g_ 1000 g).bind fun a=>cO 1000 a kind (en:Int) w).getD 0).toNat
noncomputable def pG (p:vZ) (vars:List Dg) (R:List RL) (g:GR) (kind:Int) (ws:aL) (a:aT):Nat->aT
 |0=>a
 |k+1=>gJ (bH p g) vars R (pG p vars R g kind ws a k) (Yo g kind (mV (bH p g) R (dC g) (pG p vars R g kind ws a k)) (at' ws (k:Int)))
theorem Ct (p p':vZ) (vars:List Dg) (R:List RL) (g:GR) (kind:Int) (ws:aL) (a:aT) (k:Nat):pG p vars R g kind ws a k=pG p' vars R g kind ws a k:=by
 induction k with
 |zero=>rfl
 |succ k b=>
  rw[pG,pG,b,XR p p',Gn p p']
theorem Ik {p:vZ} {g:GR} {R:List RL} (hV:VG g) (hp:Bc g p.2.1) (hz:p.2.2.map uX=Bi R) (hR:wO p.2.1.length R=true) {kind:Int} (hk1:1<=kind) (hk4:kind<=4) {c0:aT} (hc0:G_ g c0 p.2.1) {ws:aL} (hws:ws.length<=900) (hw:∀k:Nat,k<ws.length->∃m:Nat,at' ws (k:Int)=(m:Int)∧m<4294967296)
  (P:Nat->aT->f_->Prop) (h0:P 0 c0 [])
  (hstep:∀k c ch t,k<ws.length->pK g p.2.1.length c->P k c ch->mV (bH p g) R (dC g) c≠0->t≠0->(∀i,t.testBit i=true->(mV (bH p g) R (dC g) c).testBit i=true)->(kind<=2->∀v u,t.testBit v=true->t.testBit u=true->¬El g v u)->P (k+1) (gJ (bH p g) p.2.1 R c t) (ch++[t])):
  ∃k c ch cnt ens,lM 1000 p g kind c0 ws=some ((As ch,ens,c,cnt),0)∧P k c ch∧pK g p.2.1.length c∧k<=ws.length∧ch.length=k∧ens.length=k+1∧at' ens (k:Int)=((mV (bH p g) R (dC g) c:Nat):Int)∧(k=ws.length∨mV (bH p g) R (dC g) c=0)∧c=pG p p.2.1 R g kind ws c0 k∧∀j,j<k->mV (bH p g) R (dC g) (pG p p.2.1 R g kind ws c0 j)≠0:=by
 obtain⟨k,c,ch,cnt,ens,h1,⟨h2,h2c,h2e⟩,h3,h4,h5,h6,h7,h8⟩:=Oz hV hp hz hR hk1 hk4 hc0 hws hw (fun k c ch _=>P k c ch∧c=pG p p.2.1 R g kind ws c0 k∧∀j,j<k->mV (bH p g) R (dC g) (pG p p.2.1 R g kind ws c0 j)≠0) ⟨h0,rfl,fun j hj=>by omega⟩
  (fun k c ch cnt t cnt' err hk hsh hI hne ht0 hsub hind _ hres _=>by
   obtain⟨a,rfl,b⟩:=hI
   obtain⟨net,hn,hr⟩:=hres
   refine⟨hstep k _ ch t hk hsh a hne ht0 hsub hind,?_,fun j hj=> ?_⟩
   ·have:Yo g kind (mV (bH p g) R (dC g) (pG p p.2.1 R g kind ws c0 k)) (at' ws (k:Int))=t:=by
     unfold Yo
     rw[bA hn,hr];simp
    rw[pG,this]
   ·by_cases e:j<k
    ·exact b j e
    ·obtain rfl:j=k:=by omega
     exact hne)
 exact⟨k,c,ch,cnt,ens,h1,h2,h3,h4,h5,h6,h7,h8,h2c,h2e⟩
theorem exZ (D:Kl):∃z:List pW,z.map uX=D:=by
 refine⟨D.map fun d=>(ByteArray.mk #[],(.bool true,d.1),(.bool true,d.2.map fun s=>(s.1,(.bool true,s.2)))),?_⟩
 rw[List.map_map]
 conv=>rhs;rw[<-List.map_id D]
 refine List.map_congr_left fun d _=> ?_
 show(d.1,(d.2.map fun s=>(s.1,((.bool true:Value),s.2))).map fun s=>(s.1,s.2.2))=d
 rw[List.map_map]
 exact Prod.ext rfl (by
  conv=>rhs;rw[<-List.map_id d.2]
  rfl)
theorem Va {p p':vZ} {g:GR} {R:List RL} {vars:List Dg} {kind:Int} {ws:aL} {d:aT} {k a:Nat} {c f:aT}
  (r:k<=ws.length) (m:k=ws.length∨mV (bH p g) R (dC g) c=0) (hc:c=pG p vars R g kind ws d k) (n:∀j,j<k->mV (bH p g) R (dC g) (pG p vars R g kind ws d j)≠0)
  (o:a<=ws.length) (h:a=ws.length∨mV (bH p' g) R (dC g) f=0) (b:f=pG p' vars R g kind ws d a) (i:∀j,j<a->mV (bH p' g) R (dC g) (pG p' vars R g kind ws d j)≠0):c=f:=by
 have l:k=a:=by
  rcases Nat.lt_trichotomy k a with q|q|q
  ·have:=i k q
   rw[Ct p' p,<-hc,Gn p' p]at this
   rcases m with e|e
   ·omega
   ·exact absurd e this
  ·exact q
  ·have:=n a q
   rw[Ct p p',<-b,Gn p p']at this
   rcases h with e|e
   ·omega
   ·exact absurd e this
 subst l
 rw[hc,b,Ct p p']
end
end Go.Proofs.YtjlbcgddhnjcjaaGreatDoor
end
section
namespace Go.Proofs.YtjlbcgddhnjcjaaGreatDoor
open Go.Sx
section
def sC  (a:Bool):Option (Bool):=
 some (a)
def Ae (U:Nat) (p0:Int) (p1:Int):Option (Bool):=
 if(0:Int)<=p1 then(if p1<(32:Int)then(ck (0<=(wI .u64 p1)) (sC  (decide ((cD .u32 (nZ .u32 p0 (wI .u64 p1)) (1:Int))=(1:Int)))))else(sC  (false)))else(sC  (false))
theorem YX:aP Tryz.prog 31:=Tryz.call31
theorem Nx (U:Nat) {p0:Int} {p1:Int} (r:Bool) (h:Ae U p0 p1=some r):
  aU Tryz.prog 31 #[vU (p0),vI (p1)] [] (fun x:Unit=>vB (r)) (fun x l=>l) (fun _ l=>l):=by
 refine aU.of Tryz.func31 rfl Tryz.ntmps31 rfl fun c=>?_
 refine sqR<|qkAsg rfl<|dtN<|aG<|midU (fun a2=>sC  a2=some r) (fun a2 b3=>[(4,vB (a2))]) (fun a2 b3=>[]) ?_ ?_
 ·refine aM<|qkMove rfl<|aA (Ce rfl rfl) rfl<|qkMove rfl ?_
  refine BS h rfl (fun _ h=>?_) fun _ h=>?_
  ·refine gyMove rfl<|aS rfl (Cg rfl rfl) rfl<|qkPkT rfl<|qkMove rfl ?_
   refine BS h rfl (fun _ h=>?_) fun _ h=>?_
   ·refine gyMove rfl<|gyMove rfl<|aS rfl (HG rfl rfl rfl) rfl<|ckE h fun j6 h=>aS rfl (Ez rfl rfl j6) rfl<|aS rfl (JC rfl rfl) rfl<|aS rfl (Dr rfl rfl) rfl<|qkPkT rfl<|qkAsg rfl<|dtN ?_
    exact gR (decide ((cD .u32 (nZ .u32 p0 (wI .u64 p1)) (1:Int))=(1:Int))) () h SF rfl
   refine gdSkip rfl<|gdSkip rfl<|gdSkip rfl<|gdSkip rfl<|gdSkip rfl<|gdSkip rfl<|qkPkF rfl<|qkAsg rfl<|dtN ?_
   exact gR (false) () h SF rfl
  refine gdSkip rfl<|gdSkip rfl<|qkPkF rfl<|qkMove rfl<|gdSkip rfl<|gdSkip rfl<|gdSkip rfl<|gdSkip rfl<|gdSkip rfl<|gdSkip rfl<|qkPkF rfl<|qkAsg rfl<|dtN ?_
  exact gR (false) () h SF rfl
 intro a2 b3 h
 unfold sC at h
 refine aQ ?_
 cases h
 exact lC rfl
end
section
def t_  (a:aL):Option aL:=
 some (a)
def qE (c:aL×Int) (b:(aL×Int)->Option aL) (a:aL):Option aL:=
 b (a,(wI .i64 (c.2+(1:Int))))
def nK (p0:aL) (p1:Int) (a:aL×Int) (b:(aL×Int)->Option aL):Option aL:=
 if a.2<p1 then(if(List.length p0:Int)=(0:Int)then(ck ((List.length a.1:Int)+(List.length ([(4294967295:Int)]):Int)<=1099511627) (qE a b (a.1++([(4294967295:Int)]))))else(ck ((List.length p0:Int)≠0) (ck (0<=(Int.tmod a.2 (List.length p0:Int))∧(Int.tmod a.2 (List.length p0:Int))<(List.length p0:Int)) (ck ((List.length p0:Int)≠0) (ck ((24:Int)≠0) (ck (0<=(wI .u64 (Int.tmod (wI .i64 (Int.tdiv a.2 (List.length p0:Int))) (24:Int)))) (ck (0<=(wI .u64 ((24:Int) - (wI .u64 (Int.tmod (wI .i64 (Int.tdiv a.2 (List.length p0:Int))) (24:Int)))))) (ck ((List.length a.1:Int)+(List.length ([(cD .u32 (Em .u32 (xS .u32 (cD .u32 (at' p0 (Int.tmod a.2 (List.length p0:Int))) (16777215:Int)) (wI .u64 (Int.tmod (wI .i64 (Int.tdiv a.2 (List.length p0:Int))) (24:Int)))) (nZ .u32 (cD .u32 (at' p0 (Int.tmod a.2 (List.length p0:Int))) (16777215:Int)) (wI .u64 ((24:Int) - (wI .u64 (Int.tmod (wI .i64 (Int.tdiv a.2 (List.length p0:Int))) (24:Int))))))) (16777215:Int))]):Int)<=1099511627) (qE a b (a.1++([(cD .u32 (Em .u32 (xS .u32 (cD .u32 (at' p0 (Int.tmod a.2 (List.length p0:Int))) (16777215:Int)) (wI .u64 (Int.tmod (wI .i64 (Int.tdiv a.2 (List.length p0:Int))) (24:Int)))) (nZ .u32 (cD .u32 (at' p0 (Int.tmod a.2 (List.length p0:Int))) (16777215:Int)) (wI .u64 ((24:Int) - (wI .u64 (Int.tmod (wI .i64 (Int.tdiv a.2 (List.length p0:Int))) (24:Int))))))) (16777215:Int))])))))))))))else(t_  (a.1))
def kL (U:Nat) (p0:aL) (p1:Int):Option aL:=
 bJ (nK p0 p1) U (([]:aL),(0:Int))
theorem HR:aP Tryz.prog 16:=Tryz.call16
theorem rF (U:Nat) {p0:aL} {p1:Int} (v0:Value) (r:aL) (h:kL U p0 p1=some r):
  aU Tryz.prog 16 #[v0,vI (p1)] [Sl pI v0 p0] (fun x:Value=>x) (fun x l=>Ar gK x r::l) (fun _ l=>l):=by
 refine aU.of Tryz.func16 rfl Tryz.ntmps16 rfl fun c=>?_
 unfold kL at h
 refine sqR<|qkAsg rfl<|dtN<|sqR<|qkAsg rfl<|dtN<|aG<|midL (B:=Value) (fun a3=>t_  a3=some r) (fun a3 b4=>[(5,b4)]) (fun a3 b4=>[Ar gK b4 a3]) ?_ ?_
 ·refine sqR<|qkAsg rfl<|dtN<|aN<|eQ (dH gK)<|loopL (B:=Value) (nK p0 p1) (fun a9 b10=>[(0,v0),(1,vI (p1)),(5,b10),(6,vI (a9.2))]) (fun a9 b10=>[Ar gK b10 a9.1]) (([]:aL),(0:Int)) (gM) h SF (aR.refl _) ?_
  intro k11 a9 b10 h
  refine aG<|sqR<|qkMove rfl<|qkMove rfl<|qkLss rfl<|dtN ?_
  refine eT h rfl (fun h=>?_) fun h=>?_
  ·refine cJ<|aG<|midL (B:=Value) (fun a15=>qE a9 (bJ (nK p0 p1) k11) a15=some r) (fun a15 b16=>[(0,v0),(1,vI (p1)),(5,b16),(6,vI (a9.2))]) (fun a15 b16=>[Ar gK b16 a15]) ?_ ?_
   ·refine aN<|aG<|sqR<|qkMove rfl<|qkLen (aB.fact 0 rfl) rfl<|qkEql rfl<|dtN ?_
    refine eT h rfl (fun h=>?_) fun h=>?_
    ·refine sqR<|qkMove rfl<|aF (bU (e:=gK) ([(4294967295:Int)]) [(0,vU (4294967295:Int))] rfl rfl rfl rfl (iJ (vU (4294967295:Int)) rfl) rfl rfl rfl) rfl fun u18=>ckE h fun j20 h=>aF (dW 1 fJ rfl rfl rfl (aO (aB.res 0 rfl) fJ) rfl rfl rfl rfl j20 rfl) rfl fun u19=>qkAsg rfl<|dtN<|oK<|dJ<|uF<|wR ?_
     exact bT (a9.1++([(4294967295:Int)])) (u19) h SF (aR.ix [1] rfl rfl) (aD.refl _ _)
    refine cJ<|aG ?_
    refine JR.start [0,0,0,4,14,31,63,0,0,256,896,1920,3968,127,16383] 14 mixedOrders (by decide +kernel) ?_
    refine JR.open (by exact rfl) ?_
    refine jkMove rfl<|jkMove rfl<|jkMove rfl<|bG rfl .nil (lX 0 rfl) (fR rfl (aB.fact 0 rfl) rfl) aK.z<|ckE h fun j21 h=>jqN rfl (Ms rfl rfl j21)<|ckE h fun j22 h=>bG rfl .nil (lX 0 rfl) (a_ rfl rfl (aB.fact 0 rfl) rfl rfl j22) aK.z<|bG rfl .nil (lX 0 rfl) (bV rfl (aB.fact 0 rfl) rfl rfl rfl Am j22) aK.z<|jkMove rfl<|jkMove rfl<|bG rfl .nil (lX 0 rfl) (fR rfl (aB.fact 0 rfl) rfl) aK.z<|ckE h fun j23 h=>jqN rfl (Tc rfl rfl j23)<|ckE h fun j24 h=>jqN rfl (Ms rfl rfl j24)<|jqN rfl (HG rfl rfl rfl)<|jqN rfl (iV rfl)<|bD 14 rfl rfl<|qkAsg rfl<|dtN<|sqR<|qkMove rfl<|qkAnd rfl<|qkAsg rfl<|dtN<|aM<|qkMove rfl<|qkMove rfl<|qkMove rfl<|ckE h fun j25 h=>aA (Gj rfl rfl j25) rfl<|qkMove rfl<|qkMove rfl<|aA (pO rfl rfl) rfl<|ckE h fun j26 h=>aA (Ez rfl rfl j26) rfl<|aA (Mq rfl rfl) rfl<|qkAnd rfl<|aF (bU (e:=gK) ([(cD .u32 (Em .u32 (xS .u32 (cD .u32 (at' p0 (Int.tmod a9.2 (List.length p0:Int))) (16777215:Int)) (wI .u64 (Int.tmod (wI .i64 (Int.tdiv a9.2 (List.length p0:Int))) (24:Int)))) (nZ .u32 (cD .u32 (at' p0 (Int.tmod a9.2 (List.length p0:Int))) (16777215:Int)) (wI .u64 ((24:Int) - (wI .u64 (Int.tmod (wI .i64 (Int.tdiv a9.2 (List.length p0:Int))) (24:Int))))))) (16777215:Int))]) [(0,vU (cD .u32 (Em .u32 (xS .u32 (cD .u32 (at' p0 (Int.tmod a9.2 (List.length p0:Int))) (16777215:Int)) (wI .u64 (Int.tmod (wI .i64 (Int.tdiv a9.2 (List.length p0:Int))) (24:Int)))) (nZ .u32 (cD .u32 (at' p0 (Int.tmod a9.2 (List.length p0:Int))) (16777215:Int)) (wI .u64 ((24:Int) - (wI .u64 (Int.tmod (wI .i64 (Int.tdiv a9.2 (List.length p0:Int))) (24:Int))))))) (16777215:Int)))] rfl rfl rfl rfl (iJ (vU (cD .u32 (Em .u32 (xS .u32 (cD .u32 (at' p0 (Int.tmod a9.2 (List.length p0:Int))) (16777215:Int)) (wI .u64 (Int.tmod (wI .i64 (Int.tdiv a9.2 (List.length p0:Int))) (24:Int)))) (nZ .u32 (cD .u32 (at' p0 (Int.tmod a9.2 (List.length p0:Int))) (16777215:Int)) (wI .u64 ((24:Int) - (wI .u64 (Int.tmod (wI .i64 (Int.tdiv a9.2 (List.length p0:Int))) (24:Int))))))) (16777215:Int))) rfl) rfl rfl rfl) rfl fun u27=>ckE h fun j29 h=>aF (dW 1 fJ rfl rfl rfl (aO (aB.res 0 rfl) fJ) rfl rfl rfl rfl j29 rfl) rfl fun u28=>qkAsg rfl<|dN<|inT ?_
    exact bT (a9.1++([(cD .u32 (Em .u32 (xS .u32 (cD .u32 (at' p0 (Int.tmod a9.2 (List.length p0:Int))) (16777215:Int)) (wI .u64 (Int.tmod (wI .i64 (Int.tdiv a9.2 (List.length p0:Int))) (24:Int)))) (nZ .u32 (cD .u32 (at' p0 (Int.tmod a9.2 (List.length p0:Int))) (16777215:Int)) (wI .u64 ((24:Int) - (wI .u64 (Int.tmod (wI .i64 (Int.tdiv a9.2 (List.length p0:Int))) (24:Int))))))) (16777215:Int))])) (u28) h SF (aR.ix [1] rfl rfl) (aD.refl _ _)
   intro a15 b16 h
   unfold qE at h
   refine aM<|qkMove rfl<|qkAdd rfl<|qkAsg rfl<|dtN ?_
   exact yX (a15,(wI .i64 (a9.2+(1:Int)))) (b16) h SF rfl
  refine fM ?_
  exact gR (a9.1) (b10) h SF rfl
 intro a3 b4 h
 unfold t_ at h
 refine sqR<|qkMove rfl<|qkAsg rfl<|dtN<|aQ ?_
 cases h
 exact gY (b4) rfl rfl (RV.tmp rfl) (aR.refl _) aD.nil
end
end Go.Proofs.YtjlbcgddhnjcjaaGreatDoor
end
section
namespace Go.Proofs.YtjlbcgddhnjcjaaGreatDoor
open Go Go.Sx
section
theorem YO (f:Nat) {m v:Nat} (b:m<4294967296) (a:v<32):Ae f (m:Int) (v:Int)=some (m.testBit v):=by
 unfold Ae sC
 rw[if_pos (by omega),if_pos (by omega),aeH a,cP (by omega)]
 congr 1
 rw[Bool.eq_iff_iff,decide_eq_true_eq]
 exact Le a b
theorem NL (x:Int):0<=wI .u64 x:=by
 rw[DK]
 have:IntKind.u64.wrap x=x%18446744073709551616:=rfl
 rw[this];omega
theorem Kr (l:aL) {n:Nat} (y:n<=900):∃ws,kL 1000 l (n:Int)=some ws∧ws.length=n∧∀k:Nat,k<ws.length->∃m:Nat,at' ws (k:Int)=(m:Int)∧m<4294967296:=by
 unfold kL
 obtain⟨⟨ws,i⟩,⟨c,b,d⟩,t⟩:=rA (step:=nK l (n:Int)) (K:=fun z=>some z.1) n
  (fun k z=>z.2=(k:Int)∧z.1.length=k∧∀j:Nat,j<k->∃m:Nat,at' z.1 (j:Int)=(m:Int)∧m<4294967296) (fun k z q v h=>by
  obtain⟨ws,i⟩:=z
  obtain⟨c,b,d⟩:=h
  dsimp only at c b d
  subst c
  have a:∀m:Nat,m<4294967296->∀j:Nat,j<k+1->∃p:Nat,at' (ws++[(m:Int)]) (j:Int)=(p:Int)∧p<4294967296:=fun m o j u=>by
   rw[Hr ws _ (by omega)]
   by_cases e:j<ws.length
   ·rw[if_pos e];exact d j (by omega)
   ·rw[if_neg e];exact⟨m,rfl,o⟩
  have f:∀m:Nat,(List.length ws:Int)+(List.length [(m:Int)]:Int)<=1099511627:=fun m=>by simp;omega
  unfold nK qE
  dsimp only
  rw[if_pos (by omega),dO (by omega)]
  by_cases x:l.length=0
  ·rw[if_pos (by omega),cP (show(List.length ws:Int)+(List.length [(4294967295:Int)]:Int)<=1099511627 from f 4294967295)]
   exact⟨_,⟨rfl,by simp[b],a 4294967295 (by omega)⟩,rfl⟩
  ·have r:Int.tmod (k:Int) (l.length:Int)=((k%l.length:Nat):Int):=rfl
   have w:k%l.length<l.length:=Nat.mod_lt _ (by omega)
   rw[if_neg (by omega),cP (by omega),cP (by rw[r];omega),cP (by omega),cP (by decide),cP (NL _),cP (NL _)]
   have s:∀X:Int,∃m:Nat,cD .u32 X (16777215:Int)=(m:Int)∧m<4294967296:=fun X=>⟨_,Hc _ _,Nat.lt_of_le_of_lt Nat.and_le_left (KD _)⟩
   obtain⟨m,o,g⟩:=s (Em .u32 (xS .u32 (cD .u32 (at' l (Int.tmod (k:Int) (l.length:Int))) (16777215:Int)) (wI .u64 (Int.tmod (wI .i64 (Int.tdiv (k:Int) (l.length:Int))) (24:Int)))) (nZ .u32 (cD .u32 (at' l (Int.tmod (k:Int) (l.length:Int))) (16777215:Int)) (wI .u64 ((24:Int) - (wI .u64 (Int.tmod (wI .i64 (Int.tdiv (k:Int) (l.length:Int))) (24:Int)))))))
   rw[o,cP (f m)]
   exact⟨_,⟨rfl,by simp[b],a m g⟩,rfl⟩) (fun z q h=>by
  obtain⟨ws,i⟩:=z
  obtain⟨c,b,d⟩:=h
  dsimp only at c
  subst c
  unfold nK t_
  dsimp only
  rw[if_neg (by omega)]) 1000 (([]:aL),(0:Int)) ⟨rfl,rfl,fun j u=>by omega⟩ (by omega)
 exact⟨ws,t,b,fun k v=>d k (by dsimp only at b;omega)⟩

def rO (ch:f_) (v:Nat):Nat:=ch.countP fun t=>t.testBit v
theorem FE (ch:f_) (t v:Nat):rO (ch++[t]) v=rO ch v+if t.testBit v=true then 1 else 0:=by
 unfold rO
 rw[List.countP_append]
 cases h:t.testBit v<;>simp[h]
def VT (f:Nat->Nat):Nat->Nat
 |0=>0
 |n+1=>VT f n+f n
theorem Pf {f:Nat->Nat}:∀{n:Nat},(∀v,v<n->f v<=1)->VT f n<=n
 |0,_=>Nat.le_refl 0
 |n+1,h=>by
  have:=Pf (n:=n) fun v a=>h v (by omega)
  have:=h n (by omega)
  simp only[VT];omega
theorem Nz {f h:Nat->Nat}:∀{n:Nat},(∀v,v<n->f v<=h v)->VT f n<=VT h n
 |0,_=>Nat.le_refl 0
 |n+1,k=>by
  have:=Nz (n:=n) fun v a=>k v (by omega)
  have:=k n (by omega)
  simp only[VT];omega
theorem Vk {f h:Nat->Nat}:∀{n:Nat} {u:Nat},(∀v,v<n->f v<=h v)->u<n->f u<h u->VT f n<VT h n
 |0,u,_,hu,_=>absurd hu (Nat.not_lt_zero u)
 | n + 1, u, k, hu, hl => by
  simp only[VT]
  by_cases e:u=n
  ·subst e
   have:=Nz (n:=u) fun v a=>k v (by omega)
   omega
  ·have:=Vk (n:=n) (u:=u) (fun v a=>k v (by omega)) (by omega) hl
   have:=k n (by omega)
   omega
def yU (c:aT) (v:Nat):Int:=at' (at' c (v:Int)) 0
def xZ (g:GR) (c:aT) (v i:Nat):Int:=at' (at' c (jJ (row g v) i).1) 0
theorem qQ {g:GR} {c:aT} {v i u:Nat} (h:(jJ (row g v) i).1=(u:Int)):xZ g c v i=yU c u:=by unfold xZ yU;rw[h]
end
section
def guC:E:= .ag 21 (.bi 35 (.lf 12 0) (.lf 5 0))
def vaC:E:= .ag 27 (.lf 12 0)
def RC:List RL:=[(guC,[(0,vaC)])]
theorem Lu:wO 1 RC=true:=by decide +kernel
theorem loC (g:GR) (v:Nat):lo g (at' gG ((0:Nat):Int)) v=0:=rfl
theorem hiC (g:GR) (v:Nat):hi g (at' gG ((0:Nat):Int)) v=(g.2.length:Int):=by
 show(0:Int)+1*(g.2.length:Int)+0*gQ g g.1.length=_
 omega
theorem VH {g:GR} (c:VG g):Bc g gG:=by
 have b:=c.n24
 refine⟨by decide,QB,fun x a=> ?_,fun x a _=> ?_⟩
 ·obtain rfl:x=0:=by simp[gG]at a;exact a
  exact .inl rfl
 ·obtain rfl:x=0:=by simp[gG]at a;exact a
  rw[loC,hiC];omega
def xT (g:GR) (c:aT) (v:Nat):Prop:=∃i,i<(row g v).length∧xZ g c v i=yU c v
section
variable {p:vZ} {g:GR} {c:List (List Int)} {v:Nat}
theorem ZD:uK (bH p g) c v guC=Fz (((List.range (row g v).length).map fun q=>Fz (decide (xZ g c v q=yU c v))).any nz):=rfl
theorem aaj:uK (bH p g) c v vaC=((Ed ((List.range (row g v).length).map fun q=>xZ g c v q):Nat):Int):=rfl
theorem Xo:uK (bH p g) c v guC≠0↔xT g c v:=by
 rw[ZD]
 unfold xT
 cases h:((List.range (row g v).length).map fun q=>Fz (decide (xZ g c v q=yU c v))).any nz with
 |false=>
  simp only[Fz,Bool.false_eq_true,if_false,ne_eq,not_true_eq_false,false_iff]
  rintro⟨i,a,b⟩
  have:=List.any_eq_false.1 h (Fz (decide (xZ g c v i=yU c v))) (List.mem_map.2 ⟨i,List.mem_range.2 a,rfl⟩)
  rw[b]at this
  simp[Fz,nz]at this
 |true=>
  refine iff_of_true (by simp[Fz]) ?_
  obtain⟨x,f,d⟩:=List.any_eq_true.1 h
  obtain⟨i,a,rfl⟩:=List.mem_map.1 f
  refine⟨i,List.mem_range.1 a,?_⟩
  by_cases e:xZ g c v i=yU c v
  ·exact e
  ·simp[Fz,nz,e]at d
theorem AQ:0<=sF (bH p g) RC c v↔xT g c v:=by
 rw[<-Xo (p:=p)]
 constructor
 ·intro h
  obtain⟨i,h1,h2,h3⟩:=(Cs (bH p g) RC c v).resolve_left (fun e=>by omega)
  obtain rfl:i=0:=by simp[RC]at h2;exact h2
  exact h3
 ·intro h
  rcases Cs (bH p g) RC c v with e|⟨i,h1,_⟩
  ·exact absurd (OW.1 e 0 (by simp[RC])) h
  ·omega
theorem IK (h:xT g c v):sF (bH p g) RC c v=0:=by
 obtain⟨i,h1,h2,_⟩:=(Cs (bH p g) RC c v).resolve_left (fun e=>by have:=(AQ (p:=p)).2 h;omega)
 obtain rfl:i=0:=by simp[RC]at h2;exact h2
 exact h1
theorem Qh (g:GR) (c:List (List Int)) (v:Nat):Ed ((List.range (row g v).length).map fun q=>xZ g c v q)<=(row g v).length:=by
 have:=(AN ((List.range (row g v).length).map fun q=>xZ g c v q)).2.2
 simpa using this
theorem Yn (f:VG g) (h:v<g.2.length) (j:(at' c (v:Int)).length=1):at' (yC (bH p g) gG RC c v 0) 0=((Ed ((List.range (row g v).length).map fun q=>xZ g c v q):Nat):Int):=by
 have i:=Qh g c v
 have a:=(f.node v h).deg
 have e:yC (bH p g) gG RC c v 0=(at' c (v:Int)).set 0 (FC 1 (Dt g gG v 0) (uK (bH p g) c v vaC)):=rfl
 have d:Dt g gG v 0=(0,(g.2.length:Int)):=by unfold Dt;rw[loC,hiC]
 rw[e,d,aaj]
 have b:FC 1 (0,(g.2.length:Int)) ((Ed ((List.range (row g v).length).map fun q=>xZ g c v q):Nat):Int)=((Ed ((List.range (row g v).length).map fun q=>xZ g c v q):Nat):Int):=by
  unfold FC;rw[if_pos ⟨by dsimp only;omega,by dsimp only;omega⟩]
 rw[b]
 have:=sL (at' c (v:Int)) 0 0 ((Ed ((List.range (row g v).length).map fun q=>xZ g c v q):Nat):Int) (by omega)
 rw[if_pos rfl]at this
 exact this
end
structure QW (g:GR) (lv:Nat) (k:Nat) (c:List (List Int)) (ch:List Nat):Prop where
 r:G_ g c gG
 one:∀v,v<g.2.length->rO ch v<=1
 done:∀v,v<g.2.length->1<=rO ch v->lv.testBit v=true∧¬xT g c v
 sum:k<=VT (rO ch) g.2.length
 sets:∀t∈ch,t<4294967296
theorem Vi {p:vZ} {g:GR} (hV:VG g) {lv k t:Nat} {c:List (List Int)} {ch:List Nat} (hI:QW g lv k c ch) (ht0:t≠0) (hsub:∀i,t.testBit i=true->(mV (bH p g) RC lv c).testBit i=true) (hind:∀v u,t.testBit v=true->t.testBit u=true->¬El g v u):QW g lv (k+1) (gJ (bH p g) gG RC c t) (ch++[t]):=by
 have hcl:=hI.r.len
 have hin:∀v,t.testBit v=true->v<g.2.length∧xT g c v∧lv.testBit v=true:=fun v hv=>by
  obtain⟨h1,h2,h3⟩:=(yL (bH p g) RC lv c v).1 (hsub v hv)
  exact⟨h1,AQ.1 h2,h3⟩
 have hcnt:∀v,rO (ch++[t]) v=rO ch v+if t.testBit v=true then 1 else 0:=FE ch t
 have hrow:∀v,v<g.2.length->(at' c (v:Int)).length=1:=fun v hv=>hI.r.row v hv
 have hat:∀v,v<g.2.length->at' (gJ (bH p g) gG RC c t) (v:Int)=if t.testBit v=true then yC (bH p g) gG RC c v (sF (bH p g) RC c v)else at' c (v:Int):=fun v hv=>Fb (by rw[hcl];exact hv)
 have hcol1:∀v,t.testBit v=true->yU (gJ (bH p g) gG RC c t) v=((Ed ((List.range (row g v).length).map fun q=>xZ g c v q):Nat):Int):=fun v hv=>by
  obtain⟨h1,h2,_⟩:=hin v hv
  unfold yU
  rw[hat v h1,if_pos hv,IK h2]
  exact Yn hV h1 (hrow v h1)
 have hcol0:∀v,v<g.2.length->t.testBit v=false->yU (gJ (bH p g) gG RC c t) v=yU c v:=fun v hv hb=>by
  unfold yU
  rw[hat v hv,if_neg (by rw[hb];decide)]
 have hzero:∀v,t.testBit v=true->rO ch v=0:=fun v hv=>by
  obtain⟨h1,h2,_⟩:=hin v hv
  rcases Nat.eq_zero_or_pos (rO ch v)with e|e
  ·exact e
  ·exact absurd h2 (hI.done v h1 e).2
 have ht32:t<4294967296:=by have:=Pp.lt hV (fun i hi=>(hin i hi).1);omega
 refine⟨⟨by rw[Kh,hcl],fun v hv=> ?_,fun v hv x hx=> ?_⟩,fun v hv=> ?_,fun v hv h1=> ?_,?_,fun s hs=> ?_⟩
 ·rw[hat v hv]
  split
  ·rw[Ka];exact hrow v hv
  ·exact hrow v hv
 ·obtain rfl:x=0:=by simp[gG]at hx;exact hx
  rw[loC,hiC]
  show 0<=yU (gJ (bH p g) gG RC c t) v∧yU (gJ (bH p g) gG RC c t) v<=_
  cases hb:t.testBit v with
  |true=>
   have:=Qh g c v
   have:=(hV.node v hv).deg
   rw[hcol1 v hb];omega
  |false=>
   have:=hI.r.ok v hv 0 (by decide)
   rw[loC,hiC]at this
   rw[hcol0 v hv hb];exact this
 ·rw[hcnt]
  have:=hI.one v hv
  split
  ·rename_i hb;rw[hzero v hb];omega
  ·omega
 ·cases hb:t.testBit v with
  | true =>
   obtain⟨_,_,hl⟩:=hin v hb
   refine⟨hl,?_⟩
   rintro⟨i,hi,he⟩
   obtain⟨u,hu,hue,hadj⟩:=hV.port hv hi
   have hub:t.testBit u=false:=by
    cases hq:t.testBit u with
    |false=>rfl
    |true=>exact absurd hadj (hind v u hb hq)
   rw[qQ hue,hcol0 u hu hub,hcol1 v hb]at he
   have:=(AN ((List.range (row g v).length).map fun q=>xZ g c v q)).1
   refine this (List.mem_map.2 ⟨i,List.mem_range.2 hi,?_⟩)
   rw[qQ hue];exact he
  | false =>
   rw[hcnt,if_neg (by rw[hb];decide)]at h1
   obtain⟨h2,h3⟩:=hI.done v hv h1
   refine⟨h2,?_⟩
   rintro⟨i,hi,he⟩
   obtain⟨u,hu,hue,hadj⟩:=hV.port hv hi
   rw[qQ hue,hcol0 v hv hb]at he
   cases hub:t.testBit u with
   |false=>
    rw[hcol0 u hu hub]at he
    exact h3 ⟨i,hi,by rw[qQ hue];exact he⟩
   |true=>
    rw[hcol1 u hub]at he
    obtain⟨j,hj,hjv⟩:=hV.back hv hadj
    refine(AN ((List.range (row g u).length).map fun q=>xZ g c u q)).1 (List.mem_map.2 ⟨j,List.mem_range.2 hj,?_⟩)
    rw[qQ hjv];exact he.symm
 ·obtain⟨u,hu⟩:=Iv ht0
  have hun:=(hin u hu.bit).1
  have:=Vk (f:=rO ch) (h:=rO (ch++[t])) (n:=g.2.length) (u:=u) (fun v _=>by rw[hcnt];omega) hun (by rw[hcnt,if_pos hu.bit];omega)
  have:=hI.sum
  omega
 ·rcases List.mem_append.1 hs with h|h
  ·exact hI.sets s h
  ·rw[List.mem_singleton.1 h];exact ht32
theorem IM {p:vZ} {g:GR} (x:VG g) {c:List (List Int)} (hc:G_ g c gG) {t:Nat} (s:∀v,t.testBit v=true->v<g.2.length∧xT g c v) (o:∀v u,t.testBit v=true->t.testBit u=true->¬El g v u) {v:Nat} (b:v<g.2.length) (h:xT g (gJ (bH p g) gG RC c t) v):xT g c v∧t.testBit v=false:=by
 have y:=hc.len
 have r:∀v,v<g.2.length->(at' c (v:Int)).length=1:=fun v b=>hc.row v b
 have m:∀v,v<g.2.length->at' (gJ (bH p g) gG RC c t) (v:Int)=if t.testBit v=true then yC (bH p g) gG RC c v (sF (bH p g) RC c v)else at' c (v:Int):=fun v b=>Fb (by rw[y];exact b)
 have d:∀v,t.testBit v=true->yU (gJ (bH p g) gG RC c t) v=((Ed ((List.range (row g v).length).map fun q=>xZ g c v q):Nat):Int):=fun v b=>by
  obtain⟨w,C⟩:=s v b
  unfold yU
  rw[m v w,if_pos b,IK C]
  exact Yn x w (r v w)
 have a:∀v,v<g.2.length->t.testBit v=false->yU (gJ (bH p g) gG RC c t) v=yU c v:=fun v b n=>by
  unfold yU
  rw[m v b,if_neg (by rw[n];decide)]
 obtain⟨i,z,l⟩:=h
 obtain⟨u,B,f,k⟩:=x.port b z
 cases n:t.testBit v with
 | true =>
  exfalso
  have e:t.testBit u=false:=by
   cases E:t.testBit u with
   |false=>rfl
   |true=>exact absurd k (o v u n E)
  rw[qQ f,a u B e,d v n]at l
  refine(AN ((List.range (row g v).length).map fun q=>xZ g c v q)).1 (List.mem_map.2 ⟨i,List.mem_range.2 z,?_⟩)
  rw[qQ f];exact l
 | false =>
  rw[qQ f,a v b n]at l
  refine⟨?_,rfl⟩
  cases e:t.testBit u with
  |false=>
   rw[a u B e]at l
   exact⟨i,z,by rw[qQ f];exact l⟩
  |true=>
   rw[d u e]at l
   obtain⟨j,D,A⟩:=x.back b k
   exfalso
   refine(AN ((List.range (row g u).length).map fun q=>xZ g c u q)).1 (List.mem_map.2 ⟨j,List.mem_range.2 D,?_⟩)
   rw[qQ A];exact l.symm
end
section
structure VW (g:GR) (lv:Nat) (d:aT) (k:Nat) (c:aT) (ch:f_):Prop where
 m:QW g lv k c ch
 sp:∀v,v<g.2.length->xT g c v->xT g d v
 mv:∀v,v<g.2.length->1<=rO ch v->xT g d v
theorem OZ {g:GR} {b:Nat} {d:aT} (a:G_ g d gG):VW g b d 0 d []:=
 ⟨⟨a,fun v _=>by simp[rO],fun v _ h=>by simp[rO]at h,by omega,fun t h=>by cases h⟩,fun _ _ h=>h,fun v _ h=>by simp[rO]at h⟩
theorem abE {p:vZ} {g:GR} (hV:VG g) {lv k t:Nat} {d c:aT} {ch:f_} (hI:VW g lv d k c ch) (ht0:t≠0) (hsub:∀i,t.testBit i=true->(mV (bH p g) RC lv c).testBit i=true) (hind:∀v u,t.testBit v=true->t.testBit u=true->¬El g v u):VW g lv d (k+1) (gJ (bH p g) gG RC c t) (ch++[t]):=by
 have hin:∀v,t.testBit v=true->v<g.2.length∧xT g c v:=fun v hv=>by
  obtain⟨h1,h2,_⟩:=(yL (bH p g) RC lv c v).1 (hsub v hv)
  exact⟨h1,AQ.1 h2⟩
 refine⟨Vi hV hI.m ht0 hsub hind,fun v hv h=>hI.sp v hv (IM hV hI.m.r hin hind hv h).1,fun v hv h=> ?_⟩
 rw[FE]at h
 by_cases hb:t.testBit v=true
 ·exact hI.sp v hv (hin v hb).2
 ·rw[if_neg hb]at h;exact hI.mv v hv h
end
end Go.Proofs.YtjlbcgddhnjcjaaGreatDoor
end
section
namespace Go.Proofs.YtjlbcgddhnjcjaaGreatDoor
open Go.Sx
section
def xY (U:Nat) (p0:cU):Option (Bool):=
 Option.bind (eW U ((p0.1,p0.2))) fun a=>(some (a))
theorem Wt:aP Tryz.prog 107:=Tryz.call107
theorem GL (U:Nat) {p0:cU} (a:Value)  (b:Value)  (d:lW) (r:Bool) (h:xY U p0=some r):
  aU Tryz.prog 107 #[Value.agg #[a,b]] [Sl bI a p0.1,S2 aY b d p0.2] (fun x:Unit=>vB (r)) (fun x l=>l) (fun _ l=>l):=by
 refine aU.of Tryz.func107 rfl Tryz.ntmps107 rfl fun c=>?_
 refine sqR<|aF (aI.box (cs:=[a,b]) rfl rfl) rfl fun g=>qkAsg rfl<|dtN<|sqR<|qkLdA 0 rfl<|bnE h fun e f h=>aF (aI.callQ HU (tA U a b d e f) rfl (lK [0,1] rfl)) rfl fun i=>qkAsg rfl<|dtN<|aQ ?_
 cases h
 exact wN rfl
end
section
def fW  (a:Bool):Option (Bool):=
 some (a)
def dZ (U:Nat) (p0:cU) (p1:aT):Option (Bool):=
 Option.bind (xY U ((p0.1,p0.2))) fun b=>(if b=true then(Option.bind (jE U ((p0.1,p0.2)) p1 ([(List.length p0.1:Int)])) fun a=>(fW  (a)))else(fW  (false)))
theorem Tu:aP Tryz.prog 63:=Tryz.call63
theorem sG (U:Nat) {p0:cU} {p1:aT} (v0:Value)  (v1:Value)  (z2:lW)  (v3:Value)  (z4:oC) (r:Bool) (h:dZ U p0 p1=some r):
  aU Tryz.prog 63 #[Value.agg #[v0,v1],v3] [Sl bI v0 p0.1,S2 aY v1 z2 p0.2,S2 bI v3 z4 p1] (fun x:Unit=>vB (r)) (fun x l=>l) (fun _ l=>l):=by
 refine aU.of Tryz.func63 rfl Tryz.ntmps63 rfl fun c=>?_
 refine sqR<|aF (aI.box (cs:=[v0,v1]) rfl rfl) rfl fun b1=>qkAsg rfl<|dtN<|aG<|midU (fun a3=>fW  a3=some r) (fun a3 b4=>[(4,vB (a3))]) (fun a3 b4=>[]) ?_ ?_
 ·refine aM<|qkLdA 0 rfl<|bnE h fun r5 w6 h=>aF (aI.callQ Wt (GL U v0 v1 z2 r5 w6) rfl (lK [0,1] rfl)) rfl fun x7=>qkMove rfl ?_
  refine zX (by exact rfl) (by exact rfl) (fun hp8=>?_) (fun hp8=>?_)
  ·have h:=JU hp8 h
   refine aS rfl (eN 0 rfl rfl rfl rfl) rfl<|gyMove rfl<|aS rfl (cZ rfl rfl rfl rfl rfl) rfl<|aS rfl (eF 0 rfl rfl rfl rfl rfl) rfl<|aS rfl (fR rfl (aB.fact 0 rfl) rfl) rfl<|tF rfl (bU (e:=bO) ([(List.length p0.1:Int)]) [(0,vI (List.length p0.1:Int))] rfl rfl rfl rfl (iJ (vI (List.length p0.1:Int)) rfl) rfl rfl rfl) rfl fun u9=>bnE h fun r10 w11 h=>tF rfl (aI.callQ Zj (Dl U v0 v1 z2 v3 z4 u9 r10 w11) rfl (aD.cons (aB.fact 0 rfl) (aD.cons (aB.fact 1 rfl) (aD.cons (aB.fact 2 rfl) (aD.cons (aO (aB.res 0 rfl) cC) .nil))))) rfl fun x12=>qkPkT rfl<|qkAsg rfl<|dtN ?_
   exact bT (r10) () h SF .nil (aD.refl _ _)
  have h:=Io hp8 h
  refine gdSkip rfl<|gdSkip rfl<|gdSkip rfl<|gdSkip rfl<|gdSkip rfl<|gdSkip rfl<|gdSkip rfl<|qkPkF rfl<|qkAsg rfl<|dtN ?_
  exact bT (false) () h SF .nil (aD.refl _ _)
 intro a3 b4 h
 unfold fW at h
 refine aQ ?_
 cases h
 exact lC rfl
end
section
def lE  (a:Int):Option (Int):=
 some (a)
def lG (b:eK) (a:d_->Option (Int)) (c:Int):Option (Int):=
 a ((wI .i64 (b.1+(1:Int))),c)
def iY (b:eK) (a:d_->Option (Int)) (c:Int):Option (Int):=
 a ((wI .i64 (b.1+(1:Int))),c)
def gA (p0:cU) (p1:aT) (a:eK) (d:d_->Option (Int)) (b:eK) (c:d_->Option (Int)):Option (Int):=
 if b.1<(List.length (at' p0.2 a.1):Int)then(ck (0<=b.1∧b.1<(List.length (at' p0.2 a.1):Int)) (ck (0<=a.1∧a.1<(List.length p1:Int)) (ck (0<=(0:Int)∧(0:Int)<(List.length (at' p1 a.1):Int)) (ck (0<=((at' (at' p0.2 a.1) b.1).1)∧((at' (at' p0.2 a.1) b.1).1)<(List.length p1:Int)) (ck (0<=(0:Int)∧(0:Int)<(List.length (at' p1 ((at' (at' p0.2 a.1) b.1).1)):Int)) (if(at' (at' p1 a.1) (0:Int))=(at' (at' p1 ((at' (at' p0.2 a.1) b.1).1)) (0:Int))then(ck (0<=a.1) (iY b c (Em .u32 b.2 (xS .u32 (1:Int) a.1))))else(iY b c (b.2))))))))else(lG a d (b.2))
def eY (U:Nat) (p0:cU) (p1:aT) (a:eK) (b:d_->Option (Int)):Option (Int):=
 if a.1<(List.length p0.2:Int)then(ck (0<=a.1∧a.1<(List.length p0.2:Int)) (bJ (gA p0 p1 a b) U ((0:Int),a.2)))else(lE  (a.2))
def lF (U:Nat) (p0:cU) (p1:aT) (a:Unit):Option (Int):=
 bJ (eY U p0 p1) U ((0:Int),(0:Int))
def eS (U:Nat) (p0:cU) (p1:aT):Option (Int):=
 lF U p0 p1 (())
theorem Tv:aP Tryz.prog 64:=Tryz.call64
theorem vX (U:Nat) {p0:cU} {p1:aT} (v0:Value)  (v1:Value)  (z2:lW)  (v3:Value)  (z4:oC) (r:Int) (h:eS U p0 p1=some r):
  aU Tryz.prog 64 #[Value.agg #[v0,v1],v3] [Sl bI v0 p0.1,S2 aY v1 z2 p0.2,S2 bI v3 z4 p1] (fun x:Unit=>vU (r)) (fun x l=>l) (fun _ l=>l):=by
 refine aU.of Tryz.func64 rfl Tryz.ntmps64 rfl fun c=>?_
 unfold eS at h
 refine eQ HE<|sqR<|aF (aI.box (cs:=[v0,v1]) rfl rfl) rfl fun b2=>bM (Know.one (aB.sl (aB.fact 2 rfl))) fun ho4=>?_
 refine aF (aI.box (cs:=[v3]) rfl (by rw[fS ho4])) rfl fun b3=>?_
 refine qkAsg rfl<|dtN<|sqR<|aF (aI.alloc (cs:=[vU (0:Int)]) rfl rfl) rfl fun b5=>eP 0 rfl rfl rfl rfl rfl rfl<|dtN<|aG<|KA (A:=Int) (B:=f_) (fun a8 b9=>⟨31,Gv b9⟩) (fun a8=>lE  a8=some r) (fun a8 b9=>[(5,vP b5)]) (fun a8 b9=>[bL b5 [vU (a8)] 26,GE b9]) (fun a8 b9=>[Sl bI v0 p0.1,S2 aY v1 z2 p0.2,S2 bI v3 z4 p1]) ?_ ?_
 ·refine sqR<|qkLdA 2 rfl<|uQ (A:=Unit) (B:=Nat) (vs:=[Value.agg #[v0,v1]]) (fun a11=>lF U p0 p1 a11=some r) (fun a11 b12=>Value.func (.func 153) #[] #[vP b12]) (fun a11 b12=>[bL b12 [v0,v1] 29,bL b5 [vU (0:Int)] 26,bL b3 [v3] 38,GE ([]:f_)]) (fun a11 b12=>[Sl bI v0 p0.1,S2 aY v1 z2 p0.2,S2 bI v3 z4 p1]) (pV.fn (show aP Tryz.prog 108 from Tryz.call108) rfl) Tryz.func108 rfl Tryz.ntmps108 rfl rfl ?_ ?_
  ·refine sqR<|aF (aI.box (cs:=[v0,v1]) rfl rfl) rfl fun b47=>qkAsg rfl<|dtN<|sqR<|aA (uC (cs:=[.tmp 1]) (vs:=[vP b47]) rfl) rfl<|qkAsg rfl<|dtN<|aQ ?_
   exact oL () (b47) h (.inl rfl) (Df.r1 rfl (RV.tmp rfl)) rfl (aR.ix [0,1,2,4] rfl rfl) (aD.refl _ _)
  intro a11 b12 h
  unfold lF at h
  refine dtN<|aN<|AX (i:=3) (cs:=[vP b12]) ([]:f_) rfl (show aP Tryz.prog 153 from Tryz.call153) rfl Tryz.func153 rfl Tryz.ntmps153 rfl fun VO D14 R15 hR16=>sqR<|qkFld rfl<|qkLd 1 rfl<|aA (iW rfl (aB.fact 1 rfl) rfl) rfl<|qkMove rfl<|dtN<|aN<|loopL (eY U p0 p1) (fun a20 b21=>[(0,qM VO),(8,v1),(9,vI (List.length p0.2:Int)),(10,vI (a20.1))]) (fun a20 b21=>[Lp VO R15 LoopState.ready none,bL b12 [v0,v1] 29,bL b5 [vU (a20.2)] 26,bL b3 [v3] 38,GE (List.cons D14 ([]:f_))]) ((0:Int),(0:Int)) () h SF (aR.refl _) ?_
  intro k22 a20 b21 h
  refine sqR<|qkLss rfl<|dtN<|aG ?_
  refine eT h rfl (fun h=>?_) fun h=>?_
  ·refine cJ<|aG<|midU (fun a25=>lG a20 (bJ (eY U p0 p1) k22) a25=some r) (fun a25 b26=>[(0,qM VO),(8,v1),(9,vI (List.length p0.2:Int)),(10,vI (a20.1))]) (fun a25 b26=>[Lp VO R15 LoopState.ready none,bL b12 [v0,v1] 29,bL b5 [vU (a25)] 26,bL b3 [v3] 38,GE (List.cons D14 ([]:f_))]) ?_ ?_
   ·refine aN<|sqR<|qkMove rfl<|ckE h fun j27 h=>aA (cY rfl rfl (aB.fact 1 rfl) rfl rfl j27) rfl<|aA (cW rfl (aB.fact 1 rfl) rfl rfl j27) rfl<|qkAsg rfl<|qkAsg rfl<|dtN<|sqR<|qkMove rfl<|aA (fR rfl (aB.el (aB.fact 1 rfl) j27.1 j27.2) rfl) rfl<|qkMove rfl<|dtN<|aN<|loopL (gA p0 p1 a20 (bJ (eY U p0 p1) k22)) (fun a31 b32=>[(0,qM VO),(3,vI (a20.1)),(8,v1),(9,vI (List.length p0.2:Int)),(10,vI (a20.1)),(15,(at' z2 a20.1).1),(16,vI (List.length (at' p0.2 a20.1):Int)),(17,vI (a31.1))]) (fun a31 b32=>[Lp VO R15 LoopState.ready none,bL b12 [v0,v1] 29,bL b5 [vU (a31.2)] 26,bL b3 [v3] 38,GE (List.cons D14 ([]:f_))]) ((0:Int),a20.2) () h SF (aR.refl _) ?_
    intro k33 a31 b32 h
    refine sqR<|qkLss rfl<|dtN<|aG ?_
    refine eT h rfl (fun h=>?_) fun h=>?_
    ·refine cJ<|aG<|midU (fun a36=>iY a31 (bJ (gA p0 p1 a20 (bJ (eY U p0 p1) k22)) k33) a36=some r) (fun a36 b37=>[(0,qM VO),(3,vI (a20.1)),(8,v1),(9,vI (List.length p0.2:Int)),(10,vI (a20.1)),(15,(at' z2 a20.1).1),(16,vI (List.length (at' p0.2 a20.1):Int)),(17,vI (a31.1))]) (fun a36 b37=>[Lp VO R15 LoopState.ready none,bL b12 [v0,v1] 29,bL b5 [vU (a36)] 26,bL b3 [v3] 38,GE (List.cons D14 ([]:f_))]) ?_ ?_
     ·refine aN<|sqR<|ckE h fun j38 h=>aA (a_ rfl rfl (aB.el (aB.fact 1 rfl) j27.1 j27.2) rfl rfl j38) rfl<|aA (iA (cs:=[vI ((at' (at' p0.2 a20.1) a31.1).1),vI ((at' (at' p0.2 a20.1) a31.1).2)]) rfl (aB.el (aB.fact 1 rfl) j27.1 j27.2) bN rfl rfl rfl rfl j38) rfl<|aF (aI.alloc (cs:=QK) rfl rfl) rfl fun b39=>bE 0 (vs:=[vI ((at' (at' p0.2 a20.1) a31.1).1),vI ((at' (at' p0.2 a20.1) a31.1).2)]) rfl rfl rfl rfl rfl rfl<|dtN<|sqR<|qkMove rfl<|qkMove rfl<|qkLdA 0 rfl<|Hx (us:=[vI (a20.1),Value.agg #[vI ((at' (at' p0.2 a20.1) a31.1).1),vI ((at' (at' p0.2 a20.1) a31.1).2)]]) (i:=1) hR16 rfl rfl rfl rfl rfl rfl<|sqR<|qkAsg rfl<|dtN<|aM<|aF (aI.alloc (cs:=QK) rfl rfl) rfl fun b40=>bE 0 (vs:=[vI ((at' (at' p0.2 a20.1) a31.1).1),vI ((at' (at' p0.2 a20.1) a31.1).2)]) rfl rfl rfl rfl rfl rfl<|dtN<|Kx (i:=2) rfl<|aN<|aG ?_
      refine JR.start [0,0,3,7,15,31,0,0,128,448,960,1984,4032,8191] 13 mixedOrders (by decide +kernel) ?_
      refine JR.open (by exact rfl) ?_
      refine jkLd 5 rfl<|jkMove rfl<|ckE h fun j41 h=>bG rfl .nil (lX 2 rfl) (cY rfl rfl (aB.fact 0 rfl) rfl rfl j41) aK.z<|bG rfl .nil (lX 2 rfl) (cW rfl (aB.fact 0 rfl) rfl rfl j41) aK.z<|ckE h fun j42 h=>bG rfl .nil (lX 2 rfl) (a_ rfl rfl (aB.el (aB.fact 0 rfl) j41.1 j41.2) rfl rfl j42) aK.z<|bG rfl .nil (lX 2 rfl) (bV rfl (aB.el (aB.fact 0 rfl) j41.1 j41.2) rfl rfl rfl eD j42) aK.z<|jkLd 5 rfl<|jkFld rfl<|jkLd 0 rfl<|ckE h fun j43 h=>bG rfl .nil (lX 2 rfl) (cY rfl rfl (aB.fact 0 rfl) rfl rfl j43) aK.z<|bG rfl .nil (lX 2 rfl) (cW rfl (aB.fact 0 rfl) rfl rfl j43) aK.z<|ckE h fun j44 h=>bG rfl .nil (lX 2 rfl) (a_ rfl rfl (aB.el (aB.fact 0 rfl) j43.1 j43.2) rfl rfl j44) aK.z<|bG rfl .nil (lX 2 rfl) (bV rfl (aB.el (aB.fact 0 rfl) j43.1 j43.2) rfl rfl rfl eD j44) aK.z<|bD 13 rfl rfl<|qkEql rfl<|dtN ?_
      refine eT h rfl (fun h=>?_) fun h=>?_
      ·refine JR.start [0,0,2,7,15] 3 mixedOrders (by decide +kernel) ?_
       refine JR.open (by exact rfl) ?_
       refine jkLd 4 rfl<|jkMove rfl<|ckE h fun j46 h=>jqN rfl (Gj rfl rfl j46)<|bD 3 rfl rfl<|aA (Mq rfl rfl) rfl<|eP 4 rfl rfl rfl rfl rfl rfl<|dN<|LQ<|BY (i:=2) rfl<|aA (qX rfl) rfl<|dtN<|CM rfl<|dQ<|inT ?_
       exact bT (Em .u32 a31.2 (xS .u32 (1:Int) a20.1)) () h SF (aR.ix [2,3,4,5,6] rfl rfl) (aD.refl _ _)
      refine dQ<|LQ<|BY (i:=2) rfl<|aA (qX rfl) rfl<|dtN<|CM rfl<|dQ<|inT ?_
      exact bT (a31.2) () h SF (aR.ix [2,3,4,5,6] rfl rfl) (aD.refl _ _)
     intro a36 b37 h
     unfold iY at h
     refine aM<|qkAdd rfl<|qkMove rfl<|dtN ?_
     exact yX ((wI .i64 (a31.1+(1:Int))),a36) () h SF rfl
    refine oK<|dJ<|dJ<|uF<|inT ?_
    exact gR (a31.2) () h SF rfl
   intro a25 b26 h
   unfold lG at h
   refine aM<|qkAdd rfl<|qkMove rfl<|dtN ?_
   exact yX ((wI .i64 (a20.1+(1:Int))),a25) () h SF rfl
  refine oK<|dJ<|dJ<|uF<|N_ (i:=0) (.inr rfl) rfl (Df.r0 rfl)<|inT ?_
  exact Er (a20.2) (List.cons D14 ([]:f_)) rfl h SF (aR.ix [2,4] rfl rfl) (aD.refl _ _)
 intro a8 b9 h
 unfold lE at h
 refine sqR<|qkLd 0 rfl<|qkAsg rfl<|dtN<|aQ<|pJ (i:=1) (Ds:=(b9)) (.inl rfl) rfl ?_
 cases h
 exact wN rfl
end
section
def lZ  (a:Bool):Option (Bool):=
 some (a)
def jA (U:Nat) (p0:cU) (p1:aT):Option (Bool):=
 Option.bind (dZ U ((p0.1,p0.2)) p1) fun a=>(if a=true then(Option.bind (eS U ((p0.1,p0.2)) p1) fun b=>(lZ  (decide (b=(0:Int)))))else(lZ  (false)))
theorem Tl:aP Tryz.prog 32:=Tryz.call32
theorem Ai (U:Nat) {p0:cU} {p1:aT} (v0:Value)  (v1:Value)  (z2:lW)  (v3:Value)  (z4:oC) (r:Bool) (h:jA U p0 p1=some r):
  aU Tryz.prog 32 #[Value.agg #[v0,v1],v3] [Sl bI v0 p0.1,S2 aY v1 z2 p0.2,S2 bI v3 z4 p1] (fun x:Unit=>vB (r)) (fun x l=>l) (fun _ l=>l):=by
 refine aU.of Tryz.func32 rfl Tryz.ntmps32 rfl fun c=>?_
 refine sqR<|aF (aI.box (cs:=[v0,v1]) rfl rfl) rfl fun b1=>qkAsg rfl<|dtN<|aG<|midU (fun a3=>lZ  a3=some r) (fun a3 b4=>[(4,vB (a3))]) (fun a3 b4=>[]) ?_ ?_
 ·refine aM<|qkLdA 0 rfl<|qkMove rfl<|bnE h fun r5 w6 h=>aF (aI.callQ Tu (sG U v0 v1 z2 v3 z4 r5 w6) rfl (lK [0,1,2] rfl)) rfl fun x7=>qkMove rfl ?_
  refine zX (by exact rfl) (by exact rfl) (fun hp8=>?_) (fun hp8=>?_)
  ·have h:=JU hp8 h
   refine aS rfl (eN 0 rfl rfl rfl rfl) rfl<|gyMove rfl<|bnE h fun r9 w10 h=>tF rfl (aI.callQ Tv (vX U v0 v1 z2 v3 z4 r9 w10) rfl (lK [0,1,2] rfl)) rfl fun x11=>aS rfl (Dr rfl rfl) rfl<|qkPkT rfl<|qkAsg rfl<|dtN ?_
   exact bT (decide (r9=(0:Int))) () h SF .nil (aD.refl _ _)
  have h:=Io hp8 h
  refine gdSkip rfl<|gdSkip rfl<|gdSkip rfl<|gdSkip rfl<|qkPkF rfl<|qkAsg rfl<|dtN ?_
  exact bT (false) () h SF .nil (aD.refl _ _)
 intro a3 b4 h
 unfold lZ at h
 refine aQ ?_
 cases h
 exact lC rfl
end
section
def fI (U:Nat) (p0:cU) (p1:aT):Option (Int):=
 Option.bind (dZ U ((p0.1,p0.2)) p1) fun r2=>(if(!r2)=true then(some (0:Int))else(Option.bind (eS U ((p0.1,p0.2)) p1) fun r6=>(some (r6))))
theorem Tm:aP Tryz.prog 34:=Tryz.call34
theorem vW (U:Nat) {p0:cU} {p1:aT} (v0:Value)  (v1:Value)  (z2:lW)  (v3:Value)  (z4:oC) (r:Int) (h:fI U p0 p1=some r):
  aU Tryz.prog 34 #[Value.agg #[v0,v1],v3] [Sl bI v0 p0.1,S2 aY v1 z2 p0.2,S2 bI v3 z4 p1] (fun x:Unit=>vU (r)) (fun x l=>l) (fun _ l=>l):=by
 refine aU.of Tryz.func34 rfl Tryz.ntmps34 rfl fun c=>?_
 refine sqR<|aF (aI.box (cs:=[v0,v1]) rfl rfl) rfl fun b1=>qkAsg rfl<|dtN<|aG<|sqR<|qkLdA 0 rfl<|qkMove rfl<|bnE h fun r2 w3 h=>aF (aI.callQ Tu (sG U v0 v1 z2 v3 z4 r2 w3) rfl (lK [0,1,2] rfl)) rfl fun x4=>aA (qX rfl) rfl<|dtN ?_
 refine AG h rfl (fun _ h=>?_) fun _ h=>?_
 ·refine sqR<|qkAsg rfl<|dtN<|aQ<|aJ ?_
  cases h
  exact wN rfl
 refine cJ<|sqR<|qkLdA 0 rfl<|qkMove rfl<|bnE h fun r6 w7 h=>aF (aI.callQ Tv (vX U v0 v1 z2 v3 z4 r6 w7) rfl (lK [0,1,2] rfl)) rfl fun x8=>qkAsg rfl<|dtN<|aQ ?_
 cases h
 exact wN rfl
end
end Go.Proofs.YtjlbcgddhnjcjaaGreatDoor
end
section
namespace Go.Proofs.YtjlbcgddhnjcjaaGreatDoor
open Go Go.Sx
def VN (g:GR) (c:aT):Nat:=j_ (fun v=>An (vT g c v) (row g v).length) g.2.length
theorem KW {g:GR} {c:aT} (v:Nat):(VN g c).testBit v=true↔v<g.2.length∧xT g c v:=by
 unfold VN
 rw[AL,Bool.and_eq_true,decide_eq_true_eq,Mu]
 unfold xT vT
 simp only[decide_eq_true_eq]
 constructor
 ·rintro⟨a,i,b,d⟩
  exact⟨a,i,b,d.symm⟩
 ·rintro⟨a,i,b,d⟩
  exact⟨a,i,b,d.symm⟩
theorem TD {g:GR} (a:VG g) (c:aT):VN g c<4294967296:=by
 have:=a.n24
 exact Af _ (by omega)
theorem MD {g:GR} {c:aT} (hV:VG g) (hC:Cf g c [(g.2.length:Int)]):eS 1000 g c=some ((VN g c:Nat):Int):=by
 have h24:=hV.n24
 have hlen:=hV.len
 have hcl:=hC.len
 have hrow:∀u:Nat,u<g.2.length->(at' c (u:Int)).length=1:=fun u hu=>hC.row u hu
 unfold eS lF
 refine dV (F:=fun v:Nat=>((v:Int),((j_ (fun v=>An (vT g c v) (row g v).length) v:Nat):Int))) g.2.length (fun v ag hv=> ?_) (fun ag=> ?_) 1000 (by omega)
 ·unfold eY
  dsimp only
  rw[if_pos (by omega),cP (by omega)]
  have hdeg:(at' g.2 (v:Int)).length<g.2.length:=(hV.node v hv).deg
  have hm:=Af (fun v=>An (vT g c v) (row g v).length) (k:=v) (by omega)
  have h1:=hrow v hv
  refine Eq.trans (dV (step:=gA g c ((v:Int),((j_ (fun v=>An (vT g c v) (row g v).length) v:Nat):Int)) ag) (K:=ag (((v+1:Nat):Int),((Ol (An (vT g c v) (row g v).length) (j_ (fun v=>An (vT g c v) (row g v).length) v) v:Nat):Int))) (F:=fun i:Nat=>((i:Int),((Ol (An (vT g c v) i) (j_ (fun v=>An (vT g c v) (row g v).length) v) v:Nat):Int))) (row g v).length (fun i ag2 hi=> ?_) (fun ag2=> ?_) 1000 (by show(at' g.2 (v:Int)).length<1000;omega)) rfl
  ·obtain⟨u,hu,hue⟩:=hV.to hv hi
   have hue':(at' (at' g.2 (v:Int)) (i:Int)).1=(u:Int):=hue
   have hi':i<(at' g.2 (v:Int)).length:=hi
   have h2:=hrow u hu
   unfold gA iY
   dsimp only
   rw[if_pos (by omega),cP (by omega),cP (by omega),cP (by omega),hue',cP (by omega),cP (by omega),dO (by omega)]
   have hcls:vT g c v i=decide (at' (at' c (v:Int)) 0=at' (at' c (u:Int)) 0):=by unfold vT;rw[show jJ (row g v) i=at' (at' g.2 (v:Int)) (i:Int)from rfl,hue'];rfl
   have ha:=Wk (q:=An (vT g c v) i) hm (show v<32 by omega)
   by_cases hq:at' (at' c (v:Int)) 0=at' (at' c (u:Int)) 0
   ·rw[if_pos hq,cP (by omega),FA ha (by omega)]
    have:An (vT g c v) (i+1)=true:=by simp[An,hcls,hq]
    have e:Ol (An (vT g c v) i) (j_ (fun v=>An (vT g c v) (row g v).length) v) v ||| 2^v=Ol true (j_ (fun v=>An (vT g c v) (row g v).length) v) v:=by
     unfold Ol
     split
     ·exact XG _ _
     ·rfl
    rw[this,e]
   ·rw[if_neg hq]
    have:An (vT g c v) (i+1)=An (vT g c v) i:=by simp[An,hcls,hq]
    simp only[this]
  ·unfold gA lG
   dsimp only
   rw[if_neg (by show¬(((row g v).length:Nat):Int)<((row g v).length:Int);omega),dO (by omega)]
 ·unfold eY lE
  dsimp only
  rw[if_neg (by omega)]
  rfl
theorem JI {g:GR} {c:aT} (a:VG g) (b:Cf g c [(g.2.length:Int)]):dZ 1000 g c=some true:=by
 unfold dZ xY fW
 rw[show eW 1000 (g.1,g.2)=some true from(Gd g).1 a,bA rfl,bA rfl,if_pos rfl,a.len,bA (show jE 1000 (g.1,g.2) c [(g.2.length:Int)]=some true from(FG a c _ (by simp)).1 b)]
theorem Du {g:GR} {c:aT} (hV:VG g) (hr:G_ g c gG):fI 1000 g c=some ((VN g c:Nat):Int):=by
 have hC:=(Yq hV).1 hr
 unfold fI
 rw[bA (show dZ 1000 (g.1,g.2) c=_ from JI hV hC),if_neg (by decide),bA (show eS 1000 (g.1,g.2) c=_ from MD hV hC)]
theorem JY {g:GR} {c:aT} (hV:VG g) (hr:G_ g c gG) (hm:∀v,v<g.2.length->¬xT g c v):jA 1000 g c=some true:=by
 have hC:=(Yq hV).1 hr
 have h0:VN g c=0:=Lo fun v=>by
  cases h:(VN g c).testBit v with
  |false=>simp
  |true=>obtain⟨a,b⟩:=(KW v).1 h;exact absurd b (hm v a)
 unfold jA lZ
 rw[bA (show dZ 1000 (g.1,g.2) c=_ from JI hV hC),if_pos rfl,bA (show eS 1000 (g.1,g.2) c=_ from MD hV hC),h0]
 rfl
end Go.Proofs.YtjlbcgddhnjcjaaGreatDoor
end
section
namespace Go.Proofs.YtjlbcgddhnjcjaaGreatDoor
open Go.Sx
def nP  (a:eK):Option d_:=
 some (a.1,a.2)
def nQ (p0:NB) (a:Int×Int×Int×aL) (c:(Int×Int×Int×aL)->Option d_) (b:rI):Option d_:=
 c ((Em .u32 a.1 (at' p0.1 a.2.2.1)),b.1,(wI .i64 (a.2.2.1+(1:Int))),b.2)
def kH (p0:NB) (b:Int×Int×Int×aL) (c:(Int×Int×Int×aL)->Option d_) (a:Int×Int×aL) (d:(Int×Int×aL)->Option d_):Option d_:=
 if a.2.1<(24:Int)then(ck ((0<=a.2.1∧a.2.1<((24:Nat):Int))∧List.length a.2.2=24) (ck (0<=a.2.1) (ck ((0<=a.2.1∧a.2.1<((24:Nat):Int))∧List.length a.2.2=24) (ck ((0<=a.2.1∧a.2.1<((24:Nat):Int))∧List.length (List.set a.2.2 (Int.toNat a.2.1) (wI .i64 ((at' a.2.2 a.2.1)+(wI .i64 (cD .u32 (nZ .u32 (at' p0.1 b.2.2.1) a.2.1) (1:Int))))))=24) (d ((max a.1 (at' (List.set a.2.2 (Int.toNat a.2.1) (wI .i64 ((at' a.2.2 a.2.1)+(wI .i64 (cD .u32 (nZ .u32 (at' p0.1 b.2.2.1) a.2.1) (1:Int)))))) a.2.1)),(wI .i64 (a.2.1+(1:Int))),(List.set a.2.2 (Int.toNat a.2.1) (wI .i64 ((at' a.2.2 a.2.1)+(wI .i64 (cD .u32 (nZ .u32 (at' p0.1 b.2.2.1) a.2.1) (1:Int))))))))))))else(nQ p0 b c (a.1,a.2.2))
def fX (U:Nat) (p0:NB) (a:Int×Int×Int×aL) (b:(Int×Int×Int×aL)->Option d_):Option d_:=
 if a.2.2.1<(List.length p0.1:Int)then(ck (0<=a.2.2.1∧a.2.2.1<(List.length p0.1:Int)) (bJ (kH p0 a b) U (a.2.1,(0:Int),a.2.2.2)))else(nP  (a.1,a.2.1))
def jF (U:Nat) (p0:NB):Option d_:=
 bJ (fX U p0) U ((0:Int),(0:Int),(0:Int),(List.replicate 24 (0:Int)))
theorem Y_:aP Tryz.prog 46:=Tryz.call46
theorem Dm (U:Nat) {p0:NB} (v0:Value)  (v1:Value)  (v2:Value)  (z3:oC) (r:eK) (h:jF U p0=some r):
  aU Tryz.prog 46 #[Value.agg #[v0,v1,v2,vI (p0.2.2.2.1),vI (p0.2.2.2.2.1),vI (p0.2.2.2.2.2.1),vI (p0.2.2.2.2.2.2.1),vU (p0.2.2.2.2.2.2.2)]] [Sl pI v0 p0.1,Sl pI v1 p0.2.1,S2 bI v2 z3 p0.2.2.1] (fun x:Unit=>Value.tuple #[vU (r.1),vI (r.2)]) (fun x l=>l) (fun _ l=>l):=by
 refine aU.of Tryz.func46 rfl Tryz.ntmps46 rfl fun c=>?_
 unfold jF at h
 refine sqR<|aF (aI.box (cs:=[v0,v1,v2,vI (p0.2.2.2.1),vI (p0.2.2.2.2.1),vI (p0.2.2.2.2.2.1),vI (p0.2.2.2.2.2.2.1),vU (p0.2.2.2.2.2.2.2)]) rfl rfl) rfl fun b1=>qkAsg rfl<|qkAsg rfl<|dtN<|sqR ?_
 refine aF (aI.alloc (cs:=cellsOf bO (List.replicate 24 (0:Int))) rfl (by kernel_rfl)) rfl fun b2=>?_
 refine dtN<|aG<|midU (fun a5=>nP  a5=some r) (fun a5 b6=>[(2,vU (a5.1)),(3,vI (a5.2))]) (fun a5 b6=>[]) ?_ ?_
 ·refine sqR<|qkFld rfl<|qkLd 1 rfl<|qkLen (aB.fact 0 rfl) rfl<|qkMove rfl<|dtN<|aN<|loopL (fX U p0) (fun a12 b13=>[(2,vU (a12.1)),(3,vI (a12.2.1)),(4,vP b2),(9,v0),(10,vI (List.length p0.1:Int)),(11,vI (a12.2.2.1))]) (fun a12 b13=>[bL b2 (cellsOf bO a12.2.2.2) 144]) ((0:Int),(0:Int),(0:Int),(List.replicate 24 (0:Int))) () h SF (aR.ix [0] rfl rfl) ?_
  intro k14 a12 b13 h
  refine sqR<|qkLss rfl<|dtN<|aG ?_
  refine eT h rfl (fun h=>?_) fun h=>?_
  ·refine cJ<|aG<|midU (fun a18=>nQ p0 a12 (bJ (fX U p0) k14) a18=some r) (fun a18 b19=>[(2,vU (Em .u32 a12.1 (at' p0.1 a12.2.2.1))),(3,vI (a18.1)),(4,vP b2),(9,v0),(10,vI (List.length p0.1:Int)),(11,vI (a12.2.2.1))]) (fun a18 b19=>[bL b2 (cellsOf bO a18.2) 144]) ?_ ?_
   ·refine aN<|sqR<|ckE h fun j20 h=>aA (a_ rfl rfl (aB.fact 0 rfl) rfl rfl j20) rfl<|aA (bV rfl (aB.fact 0 rfl) rfl rfl rfl Am j20) rfl<|qkAsg rfl<|dtN<|sqR<|qkMove rfl<|qkMove rfl<|aA (Mq rfl rfl) rfl<|qkAsg rfl<|dtN<|sqR<|qkMove rfl<|dtN<|aN<|loopL (kH p0 a12 (bJ (fX U p0) k14)) (fun a25 b26=>[(2,vU (Em .u32 a12.1 (at' p0.1 a12.2.2.1))),(3,vI (a25.1)),(4,vP b2),(6,vU (at' p0.1 a12.2.2.1)),(9,v0),(10,vI (List.length p0.1:Int)),(11,vI (a12.2.2.1)),(18,vI (a25.2.1))]) (fun a25 b26=>[bL b2 (cellsOf bO a25.2.2) 144]) (a12.2.1,(0:Int),a12.2.2.2) () h SF (aR.refl _) ?_
    intro k27 a25 b26 h
    refine sqR<|qkLss rfl<|dtN<|aG ?_
    refine eT h rfl (fun h=>?_) fun h=>?_
    ·refine cJ<|aG<|aN<|sqR<|qkMove rfl<|qkAsg rfl<|dtN<|aG ?_
     refine JR.start [0,1,3,0,0,24,56,120,255,511,1023] 8 mixedOrders (by decide +kernel) ?_
     refine JR.open (by exact rfl) ?_
     refine jkMove rfl<|ckE h fun j29 h=>jqN rfl (jV rfl rfl rfl rfl rfl j29.1)<|bG rfl (aR.cons 0 rfl .nil) .nil (Fw (e:=bO) rfl (aB.res 0 rfl) rfl rfl rfl rfl j29) aK.z<|jkMove rfl<|jkMove rfl<|ckE h fun j30 h=>jqN rfl (Ez rfl rfl j30)<|jqN rfl (JC rfl rfl)<|jqN rfl (HG rfl rfl rfl)<|bD 8 rfl rfl<|qkAdd rfl<|ckE h fun j31 h=>aA (jV rfl rfl rfl rfl rfl j31.1) rfl<|DO 0 (e:=bO) (wI .i64 ((at' a25.2.2 a25.2.1)+(wI .i64 (cD .u32 (nZ .u32 (at' p0.1 a12.2.2.1) a25.2.1) (1:Int))))) j31 rfl rfl rfl rfl rfl rfl rfl<|dtN<|aM<|qkMove rfl<|qkMove rfl<|ckE h fun j32 h=>aA (jV rfl rfl rfl rfl rfl j32.1) rfl<|aA (Fw (e:=bO) rfl (aB.res 0 rfl) rfl rfl rfl rfl j32) rfl<|aA (HK rfl rfl) rfl<|qkAsg rfl<|dN<|inT<|aM<|qkAdd rfl<|qkMove rfl<|dtN ?_
     exact yX ((max a25.1 (at' (List.set a25.2.2 (Int.toNat a25.2.1) (wI .i64 ((at' a25.2.2 a25.2.1)+(wI .i64 (cD .u32 (nZ .u32 (at' p0.1 a12.2.2.1) a25.2.1) (1:Int)))))) a25.2.1)),(wI .i64 (a25.2.1+(1:Int))),(List.set a25.2.2 (Int.toNat a25.2.1) (wI .i64 ((at' a25.2.2 a25.2.1)+(wI .i64 (cD .u32 (nZ .u32 (at' p0.1 a12.2.2.1) a25.2.1) (1:Int))))))) () h SF rfl
    refine oK<|dJ<|dJ<|uF<|inT ?_
    exact gR (a25.1,a25.2.2) () h SF rfl
   intro a18 b19 h
   unfold nQ at h
   refine aM<|qkAdd rfl<|qkMove rfl<|dtN ?_
   exact yX ((Em .u32 a12.1 (at' p0.1 a12.2.2.1)),a18.1,(wI .i64 (a12.2.2.1+(1:Int))),a18.2) () h SF rfl
  refine fM ?_
  exact bT (a12.1,a12.2.1) () h SF .nil (aD.refl _ _)
 intro a5 b6 h
 unfold nP at h
 refine sqR<|qkMove rfl<|qkMove rfl<|qkAsg rfl<|qkAsg rfl<|dtN<|aQ ?_
 cases h
 exact iO () rfl rfl (RV.tmp rfl) (RV.tmp rfl) (aR.refl _) aD.nil
end Go.Proofs.YtjlbcgddhnjcjaaGreatDoor
end
section
namespace Go.Proofs.YtjlbcgddhnjcjaaGreatDoor
open Go Go.Sx
def Qn (ch:f_):Nat:=ch.foldl (· ||| ·) 0
theorem UP (ch:f_) (t:Nat):Qn (ch++[t])=Qn ch ||| t:=by unfold Qn;rw[List.foldl_append];rfl
theorem Qo (v:Nat):∀ch:f_,(Qn ch).testBit v=true↔0<rO ch v:=by
 have b:∀(ch:f_) (a:Nat),(ch.foldl (· ||| ·) a).testBit v=true↔a.testBit v=true∨0<rO ch v:=by
  intro ch
  induction ch with
  |nil=>intro a;simp[rO]
  | cons t ch ih =>
   intro a
   rw[List.foldl_cons,ih,Nat.testBit_or,Bool.or_eq_true,or_assoc]
   have:rO (t::ch) v=rO ch v+if t.testBit v=true then 1 else 0:=by unfold rO;rw[List.countP_cons]
   rw[this]
   by_cases h:t.testBit v=true
   ·rw[if_pos h];exact⟨fun _=> .inr (by omega),fun _=> .inr (.inl h)⟩
   ·rw[if_neg h]
    exact⟨fun q=>q.elim .inl fun q=>q.elim (fun q=>absurd q h) .inr,fun q=>q.elim .inl fun q=> .inr (.inr q)⟩
 intro ch
 have:=b ch 0
 unfold Qn
 rw[this];simp
theorem UO:∀{ch:f_},(∀t∈ch,t<4294967296)->Qn ch<4294967296:=by
 have c:∀(ch:f_) (a:Nat),a<4294967296->(∀t∈ch,t<4294967296)->ch.foldl (· ||| ·) a<4294967296:=by
  intro ch
  induction ch with
  |nil=>intro a b _;exact b
  |cons t ch e=>intro a b h;exact e _ (Qp b (h t (by simp))) fun s d=>h s (by simp[d])
 intro ch h
 exact c ch 0 (by omega) h
theorem acb {a k:Nat} (c:k<32) (b:a<4294967296):cD .u32 (nZ .u32 (a:Int) (k:Int)) 1=if a.testBit k=true then 1 else 0:=by
 split
 ·rename_i h;exact(Le c b).2 h
 ·rename_i h;exact(UG c b).2 (by simpa using h)
theorem UC {ch:f_} (hch:∀t∈ch,t<4294967296) (hl:ch.length<=900) {b:Nat} (hb:∀v,v<24->rO ch v<=b) (r1:aL) (r2:aT) (r3:CT):
  ∃most:Int,jF 1000 (As ch,r1,r2,r3)=some (((Qn ch:Nat):Int),most)∧most<=(b:Int):=by
 have hil:(As ch).length=ch.length:=by simp[As]
 let F:Nat->Nat->Int:=fun k v=>((rO (ch.take k) v:Nat):Int)
 let Q:Nat->aL:=fun k=>(List.range 24).map (F k)
 have hle:∀k v,rO (ch.take k) v<=900:=fun k v=>Nat.le_trans List.countP_le_length (by simp;omega)
 have hlb:∀k v,v<24->rO (ch.take k) v<=b:=fun k v hv=>Nat.le_trans (List.Sublist.countP_le (List.take_sublist k ch)) (hb v hv)
 unfold jF
 rw[show List.replicate 24 (0:Int)=Q 0 by
  refine List.ext_getElem (by simp[Q]) fun i h1 h2=> ?_
  rw[List.getElem_replicate];simp[Q,F,rO]]
 obtain⟨⟨o,mo,k,q⟩,⟨e1,e2,e3,e4⟩,he⟩:=rA (step:=fX 1000 (As ch,r1,r2,r3)) (K:=fun x=>some (x.1,x.2.1)) ch.length
  (fun k x=>x.1=((Qn (ch.take k):Nat):Int)∧x.2.1<=(b:Int)∧x.2.2.1=(k:Int)∧x.2.2.2=Q k) (fun k x ag hk hI=>by
  obtain⟨o,mo,i,q⟩:=x
  obtain⟨e1,e2,e3,e4⟩:=hI
  dsimp only at e1 e2 e3 e4
  subst e1 e3 e4
  have ht:at' (As ch) (k:Int)=((ch[k]:Nat):Int):=by rw[kF (by omega)];simp[As]
  have ht32:=hch ch[k] (List.getElem_mem hk)
  have htk:ch.take (k+1)=ch.take k++[ch[k]]:=by rw[AS hk,kF hk]
  let G:Nat->aL:=fun j=>(List.range j).map (F (k+1))++(List.range' j (24 - j)).map (F k)
  have hG:∀j,j<=24->(G j).length=24:=fun j hj=>by simp[G];omega
  have hGj:∀j,j<24->at' (G j) (j:Int)=F k j:=fun j hj=>by
   rw[kF (by rw[hG j (by omega)];exact hj)];simp[G]
  have hGs:∀j,j<24->(G j).set j (F (k+1) j)=G (j+1):=fun j hj=>by
   show((List.range j).map (F (k+1))++(List.range' j (24 - j)).map (F k)).set j (F (k+1) j)=(List.range (j+1)).map (F (k+1))++(List.range' (j+1) (24 - (j+1))).map (F k)
   rw[List.set_append_right _ _ (by simp),List.length_map,List.length_range,Nat.sub_self,show 24 - j=(24 - (j+1))+1 by omega,List.range'_succ,List.map_cons,List.set_cons_zero,List.range_succ,List.map_append,List.map_singleton,List.append_assoc]
   rfl
  unfold fX
  dsimp only
  rw[if_pos (by omega),cP (by omega),show Q k=G 0 by simp[Q,G,List.range_eq_range']]
  obtain⟨⟨m',j',q'⟩,⟨i1,i2,i3⟩,hi⟩:=rA (step:=kH (As ch,r1,r2,r3) (((Qn (ch.take k):Nat):Int),mo,(k:Int),G 0) ag) (K:=fun y=>ag (Em .u32 ((Qn (ch.take k):Nat):Int) ((ch[k]:Nat):Int),y.1,((k+1:Nat):Int),y.2.2)) 24
   (fun j y=>y.1<=(b:Int)∧y.2.1=(j:Int)∧y.2.2=G j) (fun j y ag2 hj hJ=>by
   obtain⟨m',j',q'⟩:=y
   obtain⟨i1,i2,i3⟩:=hJ
   dsimp only at i1 i2 i3
   subst i2 i3
   have hs:=FE (ch.take k) ch[k] j
   rw[<-htk]at hs
   have:=hle k j
   have hbj:=hlb (k+1) j hj
   have hGl:=hG j (by omega)
   have e:wI .i64 (at' (G j) (j:Int)+wI .i64 (cD .u32 (nZ .u32 ((ch[k]:Nat):Int) (j:Int)) 1))=F (k+1) j:=by
    rw[acb (by omega) ht32,hGj j hj]
    show wI .i64 (((rO (ch.take k) j:Nat):Int)+_)=((rO (ch.take (k+1)) j:Nat):Int)
    rw[hs]
    split
    ·rw[show wI .i64 (1:Int)=1 from rfl,dO (by omega)]
    ·rw[show wI .i64 (0:Int)=0 from rfl,wr (by omega) (by omega)];omega
   refine⟨(max m' (F (k+1) j),((j+1:Nat):Int),G (j+1)),⟨?_,rfl,rfl⟩,?_⟩
   ·have:F (k+1) j<=(b:Int):=by show((rO (ch.take (k+1)) j:Nat):Int)<=_;omega
    dsimp only;omega
   ·unfold kH
    dsimp only
    have hat:at' ((G j).set j (F (k+1) j)) (j:Int)=F (k+1) j:=by rw[sL _ _ _ _ (by omega),if_pos rfl]
    rw[if_pos (by omega),cP (by omega),cP (by omega),cP (by omega),ht,e,Int.toNat_natCast,cP (by rw[List.length_set];omega),hat,dO (by omega),hGs j hj]) (fun y ag2 hJ=>by
   obtain⟨m',j',q'⟩:=y
   obtain⟨i1,i2,i3⟩:=hJ
   dsimp only at i1 i2 i3
   subst i2 i3
   unfold kH nQ
   dsimp only
   rw[if_neg (by omega),ht,dO (by omega)]) 1000 (mo,(0:Int),G 0) ⟨e2,rfl,rfl⟩ (by omega)
  dsimp only at i1 i2 i3 hi
  refine⟨_,⟨?_,i1,rfl,?_⟩,hi⟩
  ·dsimp only
   rw[htk,UP,aaU (UO fun t h=>hch t (List.mem_of_mem_take h)) ht32]
  ·dsimp only
   rw[i3];simp[G,Q]) (fun x ag hI=>by
  obtain⟨o,mo,i,q⟩:=x
  obtain⟨e1,e2,e3,e4⟩:=hI
  dsimp only at e1 e2 e3 e4
  subst e3
  unfold fX nP
  dsimp only
  rw[if_neg (by omega)]) 1000 ((0:Int),(0:Int),(0:Int),Q 0) ⟨rfl,by dsimp only;omega,rfl,rfl⟩ (by omega)
 dsimp only at e1 e2 he
 refine⟨mo,?_,e2⟩
 rw[he,e1,List.take_length]
end Go.Proofs.YtjlbcgddhnjcjaaGreatDoor
end
section
namespace Go.Proofs.YtjlbcgddhnjcjaaGreatDoor
open Go.Sx
def EY  (a:Ys):Option zV:=
 if a.2.2.2.2.2.1≠(0:Int)then(some (([]:yF),([]:Kk),a.2.2.2.2.2.1))else(some (a.2.2.2.2.2.2.2.2.2.2,a.2.2.2.2.2.2.2.2.2.1,(0:Int)))
def yQ  (a:Yt):Option zV:=
 EY  (a.2.2.2.2.2.1,a.2.2.2.2.2.2.1,a.2.2.2.2.2.2.2.1,a.2.2.2.2.2.2.2.2.1,a.2.2.2.2.2.2.2.2.2.1,a.2.2.2.2.2.2.2.2.2.2,a.2.2.1,a.2.2.2.1,a.2.2.2.2.1,a.1,a.2.1)
def vH  (a:aL×Int×Int×Int×Int×Int×aT×aL×(List (Int×Int×Int×Int×Int))×List aT):Option zV:=
 yQ  (a.2.2.2.2.2.2.2.2.1,a.2.2.2.2.2.2.2.2.2,a.2.2.2.2.2.2.2.1,a.1,a.2.2.2.2.2.2.1,a.2.1,a.2.2.1,a.2.2.2.1,a.2.2.2.2.1,a.2.2.2.2.2.1,(0:Int))
def By (e:DI) (b:Vn) (f:Vm->Option zV) (d:Int) (h:aT) (c:Int) (a:(Int×Int×Int×Int×Int)×Int) (g:yF):Option zV:=
 ck ((List.length b.2.2.2.2.2.2.2.2.2.1:Int)+(List.length ([d]):Int)<=1099511627) (ck ((List.length b.2.1:Int)+(List.length ([(cD .u32 c e.1)]):Int)<=1099511627) (f ((cD .u32 c e.1),(b.2.1++([(cD .u32 c e.1)])),(wI .i64 (b.2.2.1+(1:Int))),a.1.1,a.1.2.1,a.1.2.2.1,a.1.2.2.2.1,a.1.2.2.2.2,h,(b.2.2.2.2.2.2.2.2.2.1++[d]),(b.2.2.2.2.2.2.2.2.2.2.1++([(a.1.1,a.1.2.1,a.1.2.2.1,a.1.2.2.2.1,a.1.2.2.2.2)])),g)))
def Bw (U:Nat) (p0:tD) (p1:cU) (p2:Int) (a21:DI) (a150:Vn) (ag149:Vm->Option zV) (a155:Int):Option zV:=
 if¬(a150.1≠(0:Int))then(vH  (a150.2.1,a150.2.2.2.1,a150.2.2.2.2.1,a150.2.2.2.2.2.1,a150.2.2.2.2.2.2.1,a150.2.2.2.2.2.2.2.1,a150.2.2.2.2.2.2.2.2.1,a150.2.2.2.2.2.2.2.2.2.1,a150.2.2.2.2.2.2.2.2.2.2.1,a150.2.2.2.2.2.2.2.2.2.2.2))else(Option.bind (dL U a21.2.1 p2 a150.1 a155) fun r158=>(if(!r158)=true then(yQ  (a150.2.2.2.2.2.2.2.2.2.2.1,a150.2.2.2.2.2.2.2.2.2.2.2,([]:aL),([]:aL),([]:aT),(0:Int),(0:Int),(0:Int),(0:Int),(0:Int),(11:Int)))else(Option.bind (eJ U ((((p0.1,p0.2.1,p0.2.2)),((((p0.1,p0.2.1,p0.2.2)),((p1.1,p1.2)),a21.2.2.2.1,a21.2.2.2.2)),a21.2.2.1)) a150.2.2.2.2.2.2.2.2.1 a155) fun r162=>(Option.bind (bW U ((((p0.1,p0.2.1,p0.2.2)),((((p0.1,p0.2.1,p0.2.2)),((p1.1,p1.2)),a21.2.2.2.1,a21.2.2.2.2)),a21.2.2.1)) r162) fun r165=>(Option.bind (gW U ((a150.2.2.2.1,a150.2.2.2.2.1,a150.2.2.2.2.2.1,a150.2.2.2.2.2.2.1,a150.2.2.2.2.2.2.2.1)) a155 (cD .u32 r165 a21.1)) fun r168=>(Option.bind (kB U r162) fun r187=>(ck ((List.length a150.2.2.2.2.2.2.2.2.2.2.2:Int)+(List.length (([]:yF)++[r187]):Int)<=1099511627) (ck ((List.length a150.2.2.2.2.2.2.2.2.2.2.1:Int)+(List.length ([(r168.1.1,r168.1.2.1,r168.1.2.2.1,r168.1.2.2.2.1,r168.1.2.2.2.2)]):Int)<=1099511627) (By a21 a150 ag149 a155 r162 r165 r168 (a150.2.2.2.2.2.2.2.2.2.2.2++(([]:yF)++[r187])))))))))))
def r_ (U:Nat) (p0:tD) (p1:cU) (p2:Int) (p4:aL) (c:DI) (a:Vn) (b:Vm->Option zV):Option zV:=
 if a.2.2.1<(List.length p4:Int)then(ck (0<=a.2.2.1∧a.2.2.1<(List.length p4:Int)) (Option.bind (cO U c.2.1 p2 a.1 (at' p4 a.2.2.1)) fun d=>(Bw U p0 p1 p2 c a b (d))))else(vH  (a.2.1,a.2.2.2.1,a.2.2.2.2.1,a.2.2.2.2.2.1,a.2.2.2.2.2.2.1,a.2.2.2.2.2.2.2.1,a.2.2.2.2.2.2.2.2.1,a.2.2.2.2.2.2.2.2.2.1,a.2.2.2.2.2.2.2.2.2.2.1,a.2.2.2.2.2.2.2.2.2.2.2))
def Bv (U:Nat) (p0:tD) (p1:cU) (p2:Int) (p4:aL) (b:DI) (e:aT) (c:Int) (a:(Int×Int×Int×Int×Int)) (d:yF):Option zV:=
 ck ((List.length ([]:aL):Int)+(List.length ([(cD .u32 c b.1)]):Int)<=1099511627) (bJ (r_ U p0 p1 p2 p4 b) U ((cD .u32 c b.1),(([]:aL)++([(cD .u32 c b.1)])),(0:Int),a.1,a.2.1,a.2.2.1,a.2.2.2.1,a.2.2.2.2,e,([]:aL),(([]:Kk)++([(a.1,a.2.1,a.2.2.1,a.2.2.2.1,a.2.2.2.2)])),d))
def Bu (U:Nat) (p0:tD) (p1:cU) (p2:Int) (p3:aT) (p4:aL) (b:DI):Option zV:=
 Option.bind (kB U p3) fun d=>(Option.bind (bW U ((((p0.1,p0.2.1,p0.2.2)),((((p0.1,p0.2.1,p0.2.2)),((p1.1,p1.2)),b.2.2.2.1,b.2.2.2.2)),b.2.2.1)) d) fun e=>(Option.bind (nD U (cD .u32 e b.1)) fun a=>(Option.bind (kB U d) fun c=>(ck ((List.length ([]:yF):Int)+(List.length (([]:yF)++[c]):Int)<=1099511627) (ck ((List.length ([]:Kk):Int)+(List.length ([(a.1,a.2.1,a.2.2.1,a.2.2.2.1,a.2.2.2.2)]):Int)<=1099511627) (Bv U p0 p1 p2 p4 b d e a (([]:yF)++(([]:yF)++[c]))))))))
def yR (U:Nat) (p0:tD) (p1:cU) (p2:Int) (p3:aT) (p4:aL) (a:fQ×Int×aT):Option zV:=
 Option.bind (g_ U ((p1.1,p1.2))) fun b=>(Option.bind (rC U ((p1.1,p1.2))) fun c=>(Bu U p0 p1 p2 p3 p4 (c,b,a.1,a.2.1,a.2.2)))
def yS (U:Nat) (p0:tD) (p1:cU) (p2:Int) (p3:aT) (p4:aL) (a:Int×aT):Option zV:=
 Option.bind (jB U ((p0.1,p0.2.1,p0.2.2)) ((p1.1,p1.2))) fun b=>(yR U p0 p1 p2 p3 p4 (b,a.1,a.2))
def sY (U:Nat) (p0:tD) (p1:cU) (p2:Int) (p3:aT) (p4:aL) (a:Int×aT):Option zV:=
 yS U p0 p1 p2 p3 p4 (a.1,a.2)
def xC (p1:cU) (a:Int×Int×aT) (b:(Int×Int×aT)->Option zV) (c:aT):Option zV:=
 b ((wI .i64 (a.1+(1:Int))),(max a.2.1 (at' p1.1 a.1)),c)
def sA (U:Nat) (p1:cU) (a:Int×Int×aT) (d:(Int×Int×aT)->Option zV) (b:Int×aT) (e:(Int×aT)->Option zV):Option zV:=
 if b.1<(List.length (at' p1.2 a.1):Int)then(ck (0<=b.1∧b.1<(List.length (at' p1.2 a.1):Int)) (ck (0<=a.1∧a.1<(List.length b.2:Int)) (Option.bind (mG U ((p1.1,p1.2)) ((at' (at' p1.2 a.1) b.1).1) a.1) fun c=>(ck ((List.length (at' b.2 a.1):Int)+(List.length ([c]):Int)<=1099511627) (ck (0<=a.1∧a.1<(List.length (List.set b.2 (Int.toNat a.1) ((at' b.2 a.1)++[c])):Int)) (e ((wI .i64 (b.1+(1:Int))),(List.set b.2 (Int.toNat a.1) ((at' b.2 a.1)++[c])))))))))else(xC p1 a d (b.2))
def nX (U:Nat) (p0:tD) (p1:cU) (p2:Int) (p3:aT) (p4:aL) (a:Int×Int×aT) (b:(Int×Int×aT)->Option zV):Option zV:=
 if a.1<(List.length p1.2:Int)then(ck (0<=a.1∧a.1<(List.length p1.2:Int)) (ck (0<=a.1∧a.1<(List.length p1.1:Int)) (bJ (sA U p1 a b) U ((0:Int),a.2.2))))else(sY U p0 p1 p2 p3 p4 (a.2.1,a.2.2))
def uM (U:Nat) (p0:tD) (p1:cU) (p2:Int) (p3:aT) (p4:aL):Option zV:=
 Option.bind (nV U ((p0.1,p0.2.1,p0.2.2)) ((p1.1,p1.2)) p2 p3 (List.length p4:Int)) fun a=>(if a≠(0:Int)then(some (([]:yF),([]:Kk),a))else(ck (0<=(List.length p1.2:Int)∧(List.length p1.2:Int)<=1099511627) (bJ (nX U p0 p1 p2 p3 p4) U ((0:Int),(0:Int),(List.replicate (Int.toNat (List.length p1.2:Int)) ([]:aL))))))
theorem Zc:aP Tryz.prog 65:=Tryz.call65
theorem Nw (U:Nat) {p0:tD} {p1:cU} {p2:Int} {p3:aT} {p4:aL} (v0:Value)  (v1:Value)  (v2:Value)  (v3:Value)  (z4:lW)  (v5:Value)  (z6:oC)  (v7:Value) (r:List aT×(List (Int×Int×Int×Int×Int))×Int) (h:uM U p0 p1 p2 p3 p4=some r):
  aU Tryz.prog 65 #[Value.agg #[vS (p0.1),v0,v1],Value.agg #[v2,v3],vI (p2),v5,v7] [Sl aH v0 p0.2.1,Sl aE v1 p0.2.2,PF (Value.agg #[vS p0.1,v0,v1]),Sl bI v2 p1.1,S2 aY v3 z4 p1.2,S2 bI v5 z6 p3,Sl pI v7 p4,Gb 0 (cellsOf AV oA)] (fun x:Value×List Value×List (List Value)×Value=>Value.tuple #[x.1,x.2.2.2,vI (r.2.2)]) (fun x l=>Ar cE.raw x.1 x.2.1::Jh bO x.2.1 x.2.2.1 r.1::Ar cH x.2.2.2 r.2.1::l) (fun _ l=>l):=by
 refine aU.of Tryz.func65 rfl Tryz.ntmps65 rfl fun c=>?_
 refine sqR<|aF (aI.box (cs:=[vS (p0.1),v0,v1]) rfl rfl) rfl fun b1=>aF (aI.box (cs:=[v2,v3]) rfl rfl) rfl fun b2=>qkAsg rfl<|qkAsg rfl<|qkAsg rfl<|dtN<|aG<|sqR<|qkLdA 1 rfl<|qkLdA 0 rfl<|qkMove rfl<|qkMove rfl<|qkMove rfl<|qkLen (aB.fact 6 rfl) rfl<|bnE h fun r3 w4 h=>aF (aI.callQ Ts (GA U v0 v1 v2 v3 z4 v5 z6 r3 w4) rfl (lK [0,1,2,3,4,5] rfl)) rfl fun x5=>qkAsg rfl<|dtN<|sqR<|qkMove rfl<|qkNeq rfl<|dtN ?_
 refine eT h rfl (fun h=>?_) fun h=>?_
 ·refine sqR<|qkMove rfl<|qkAsg rfl<|qkAsg rfl<|qkAsg rfl<|dtN<|aQ<|aJ<|eQ (dH cE.raw) (eQ (yW bO) ?_)
  refine eQ (dH cH) ?_
  cases h
  exact GY ((gM),([]:eV),([]:List (List Value)),(gM)) rfl rfl (RV.tmp rfl) (RV.tmp rfl) (RV.tmp rfl) (aR.ix [2,1,0] rfl rfl) aD.nil
 refine cJ<|sqR<|aF (aI.alloc (cs:=[gM]) rfl rfl) rfl fun b7=>dtN<|sqR<|aF (aI.alloc (cs:=[gM]) rfl rfl) rfl fun b8=>dtN<|sqR<|qkLdA 3 rfl<|qkLdA 2 rfl<|qkMove rfl<|aA (uC (cs:=[.tmp 14,.tmp 15]) (vs:=[vP b7,vP b8]) rfl) rfl<|uQ (A:=DI) (B:=Nat×Value×Nat×Value×List Value×Value×List Value) (vs:=[Value.agg #[vS (p0.1),v0,v1],Value.agg #[v2,v3],vI (p2),Value.func (.func 109) #[] #[vP b7,vP b8]]) (fun a21=>Bu U p0 p1 p2 p3 p4 a21=some r) (fun a21 b22=>Value.agg #[vP b22.1,b22.2.1,vI (p2),vU (a21.1),Value.func (.func 109) #[] #[vP b7,vP b8]]) (fun a21 b22=>[Ar gK b22.2.1 a21.2.1,bL b22.1 [vS (p0.1),v0,v1,vP b22.2.2.1,b22.2.2.2.1] 170,Ar cE.raw b22.2.2.2.1 b22.2.2.2.2.1,fT bS b22.2.2.2.2.1 a21.2.2.1,bL b22.2.2.1 [vS (p0.1),v0,v1,v2,v3,vI (a21.2.2.2.1),b22.2.2.2.2.2.1] 218,Ar cE.raw b22.2.2.2.2.2.1 b22.2.2.2.2.2.2,fT bO b22.2.2.2.2.2.2 a21.2.2.2.2,bL b8 [gM] 69,bL b7 [gM] 68]) (fun a21 b22=>[Sl aH v0 p0.2.1,Sl aE v1 p0.2.2,PF (Value.agg #[vS p0.1,v0,v1]),Sl bI v2 p1.1,S2 aY v3 z4 p1.2,S2 bI v5 z6 p3,Sl pI v7 p4,Gb 0 (cellsOf AV oA)]) (pV.fn (show aP Tryz.prog 60 from Tryz.call60) rfl) Tryz.func60 rfl Tryz.ntmps60 rfl rfl ?_ ?_
 ·refine sqR<|aF (aI.box (cs:=[vS (p0.1),v0,v1]) rfl rfl) rfl fun b220=>aF (aI.box (cs:=[v2,v3]) rfl rfl) rfl fun b221=>aF (aI.alloc (cs:=Pj) rfl rfl) rfl fun b222=>dtN<|aG ?_
  refine JR.start [0,0,3,0,15,0,0,95,0,511,1023] 9 mixedOrders (by decide +kernel) ?_
  refine JR.open (by exact rfl) ?_
  refine jkLdA 2 rfl<|jkLdA 1 rfl<|GZ (A:=fQ×Int×aT) (B:=Nat×Nat×Value×List Value×Value×List Value) (vs:=[Value.agg #[vS (p0.1),v0,v1],Value.agg #[v2,v3]]) (fun a232=>yR U p0 p1 p2 p3 p4 a232=some r) (fun a232 b233=>vP b233.1) (fun a232 b233=>[bL b233.1 [vS (p0.1),v0,v1,vP b233.2.1,b233.2.2.1] 170,Ar cE.raw b233.2.2.1 b233.2.2.2.1,fT bS b233.2.2.2.1 a232.1,bL b233.2.1 [vS (p0.1),v0,v1,v2,v3,vI (a232.2.1),b233.2.2.2.2.1] 218,Ar cE.raw b233.2.2.2.2.1 b233.2.2.2.2.2,fT bO b233.2.2.2.2.2 a232.2.2,bL b222 Pj 107,bL b221 [v2,v3] 29,bL b220 [vS (p0.1),v0,v1] 36,bL b8 [gM] 69,bL b7 [gM] 68]) (fun a232 b233=>[Sl aH v0 p0.2.1,Sl aE v1 p0.2.2,PF (Value.agg #[vS p0.1,v0,v1]),Sl bI v2 p1.1,S2 aY v3 z4 p1.2,S2 bI v5 z6 p3,Sl pI v7 p4,Gb 0 (cellsOf AV oA)]) rfl rfl rfl (pV.fn (show aP Tryz.prog 79 from Tryz.call79) rfl) Tryz.func79 rfl Tryz.ntmps79 rfl rfl (fun _ _=>(mW [] rfl)) ?_ ?_
  ·refine sqR<|aF (aI.box (cs:=[vS (p0.1),v0,v1]) rfl rfl) rfl fun b242=>aF (aI.box (cs:=[v2,v3]) rfl rfl) rfl fun b243=>qkAsg rfl<|dtN<|aG ?_
   refine JR.start [0,0,0,6,0,0,62,127,255,511] 7 mixedOrders (by decide +kernel) ?_
   refine JR.open (by exact rfl) ?_
   refine jkLdA 1 rfl<|jkLdA 1 rfl<|jkLdA 0 rfl<|GZ (A:=Int×aT) (B:=Nat×Value×List Value) (vs:=[Value.agg #[vS (p0.1),v0,v1],Value.agg #[v2,v3]]) (fun a249=>yS U p0 p1 p2 p3 p4 a249=some r) (fun a249 b250=>vP b250.1) (fun a249 b250=>[bL b250.1 [vS (p0.1),v0,v1,v2,v3,vI (a249.1),b250.2.1] 218,Ar cE.raw b250.2.1 b250.2.2,fT bO b250.2.2 a249.2,bL b243 [v2,v3] 29,bL b242 [vS (p0.1),v0,v1] 36,bL b222 Pj 107,bL b221 [v2,v3] 29,bL b220 [vS (p0.1),v0,v1] 36,bL b8 [gM] 69,bL b7 [gM] 68]) (fun a249 b250=>[Sl aH v0 p0.2.1,Sl aE v1 p0.2.2,PF (Value.agg #[vS p0.1,v0,v1]),Sl bI v2 p1.1,S2 aY v3 z4 p1.2,S2 bI v5 z6 p3,Sl pI v7 p4,Gb 0 (cellsOf AV oA)]) rfl rfl rfl (pV.fn (show aP Tryz.prog 113 from Tryz.call113) rfl) Tryz.func113 rfl Tryz.ntmps113 rfl rfl (fun _ _=>(mW [([4],[])] rfl)) ?_ ?_
   ·refine sqR<|aF (aI.box (cs:=[vS (p0.1),v0,v1]) rfl rfl) rfl fun b256=>aF (aI.box (cs:=[v2,v3]) rfl rfl) rfl fun b257=>qkAsg rfl<|dtN<|aG ?_
    refine JR.start [0,0,0,4,12,28,63,127,255] 6 mixedOrders (by decide +kernel) ?_
    refine JR.open (by exact rfl) ?_
    refine jkLdA 1 rfl<|jkLdA 0 rfl<|jkFld rfl<|jkLd 0 rfl<|bG rfl .nil (lX 4 rfl) (iW rfl (aB.fact 0 rfl) rfl) aK.z<|ckE h fun j258 h=>JR.stp (uH bO (Int.toNat (List.length p1.2:Int)))<|JR.loud rfl rfl rfl (pN (e:=cE.raw) (gM) rfl rfl rfl rfl j258 rfl rfl rfl) rfl (fun u259=>(mW [([2],[]),([3],[])] rfl)) fun u259=>bD 6 rfl rfl<|bM (Know.one (aB.sl (aV (i:=0) (j:=1) rfl rfl cC))) fun ho260=>?_
    refine aA (KH (r:=Value.agg #[vS (p0.1),v0,v1,v2,v3,vI (0:Int),u259]) rfl rfl rfl (by intro w;simp[Instr.build,Instr.fill,c_,cS,cF,dA,dB,cT,eB,fS ho260])) rfl ?_
    refine aF (aI.box (cs:=[vS (p0.1),v0,v1,v2,v3,vI (0:Int),u259]) rfl rfl) rfl fun b261=>qkAsg rfl<|dtN<|aG<|midL (B:=eV) (fun a265=>sY U p0 p1 p2 p3 p4 a265=some r) (fun a265 b266=>[(5,vP b261)]) (fun a265 b266=>[bL b261 [vS (p0.1),v0,v1,v2,v3,vI (a265.1),u259] 218,Ar cE.raw u259 b266,fT bO b266 a265.2,bL b243 [v2,v3] 29,bL b242 [vS (p0.1),v0,v1] 36,bL b222 Pj 107,bL b221 [v2,v3] 29,bL b220 [vS (p0.1),v0,v1] 36,bL b8 [gM] 69,bL b7 [gM] 68]) ?_ ?_
    ·refine sqR<|qkFld rfl<|qkLd 3 rfl<|aA (iW rfl (aB.fact 4 rfl) rfl) rfl<|qkMove rfl<|dtN<|aN<|loopL (B:=eV) (nX U p0 p1 p2 p3 p4) (fun a272 b273=>[(3,vP b257),(5,vP b261),(19,v3),(20,vI (List.length p1.2:Int)),(21,vI (a272.1))]) (fun a272 b273=>[bL b261 [vS (p0.1),v0,v1,v2,v3,vI (a272.2.1),u259] 218,Ar cE.raw u259 b273,fT bO b273 a272.2.2,bL b257 [v2,v3] 29,bL b243 [v2,v3] 29,bL b242 [vS (p0.1),v0,v1] 36,bL b222 Pj 107,bL b221 [v2,v3] 29,bL b220 [vS (p0.1),v0,v1] 36,bL b8 [gM] 69,bL b7 [gM] 68]) ((0:Int),(0:Int),(List.replicate (Int.toNat (List.length p1.2:Int)) ([]:aL))) (List.replicate (Int.toNat (List.length p1.2:Int)) (gM)) h SF (aR.ix [0,1,2,3,5,6,7,8,9,10,11] rfl rfl) ?_
     intro k274 a272 b273 h
     refine sqR<|qkLss rfl<|dtN<|aG ?_
     refine eT h rfl (fun h=>?_) fun h=>?_
     ·refine cJ<|aG<|midL (B:=eV) (fun a278=>xC p1 a272 (bJ (nX U p0 p1 p2 p3 p4) k274) a278=some r) (fun a278 b279=>[(3,vP b257),(5,vP b261),(19,v3),(20,vI (List.length p1.2:Int)),(21,vI (a272.1))]) (fun a278 b279=>[bL b261 [vS (p0.1),v0,v1,v2,v3,vI (max a272.2.1 (at' p1.1 a272.1)),u259] 218,Ar cE.raw u259 b279,fT bO b279 a278,bL b257 [v2,v3] 29,bL b243 [v2,v3] 29,bL b242 [vS (p0.1),v0,v1] 36,bL b222 Pj 107,bL b221 [v2,v3] 29,bL b220 [vS (p0.1),v0,v1] 36,bL b8 [gM] 69,bL b7 [gM] 68]) ?_ ?_
      ·refine aN<|sqR<|qkMove rfl<|ckE h fun j280 h=>aA (cY rfl rfl (aB.fact 4 rfl) rfl rfl j280) rfl<|aA (cW rfl (aB.fact 4 rfl) rfl rfl j280) rfl<|qkAsg rfl<|qkAsg rfl<|dtN<|aG ?_
       refine JR.start [0,0,2,6,14,0,32,0,224,480,1022,2047,4095,8191] 11 mixedOrders (by decide +kernel) ?_
       refine JR.open (by exact rfl) ?_
       refine jkMove rfl<|jkMove rfl<|jqN rfl (bR rfl)<|jkFld rfl<|jkLd 0 rfl<|jkFld rfl<|jkLd 3 rfl<|jkMove rfl<|ckE h fun j281 h=>bG rfl .nil (lX 3 rfl) (a_ rfl rfl (aB.fact 0 rfl) rfl rfl j281) aK.z<|bG rfl .nil (lX 3 rfl) (bV rfl (aB.fact 0 rfl) rfl rfl rfl eD j281) aK.z<|jqN rfl (HK rfl rfl)<|bD 11 rfl rfl<|aA (bR rfl) rfl<|qkFld rfl<|eP 0 rfl rfl rfl rfl rfl rfl<|dtN<|sqR<|qkMove rfl<|aA (fR rfl (aB.el (aB.fact 4 rfl) j280.1 j280.2) rfl) rfl<|qkMove rfl<|dtN<|aN<|loopL (B:=eV) (sA U p1 a272 (bJ (nX U p0 p1 p2 p3 p4) k274)) (fun a286 b287=>[(3,vP b257),(5,vP b261),(6,vI (a272.1)),(19,v3),(20,vI (List.length p1.2:Int)),(21,vI (a272.1)),(39,(at' z4 a272.1).1),(40,vI (List.length (at' p1.2 a272.1):Int)),(41,vI (a286.1))]) (fun a286 b287=>[bL b261 [vS (p0.1),v0,v1,v2,v3,vI (max a272.2.1 (at' p1.1 a272.1)),u259] 218,Ar cE.raw u259 b287,fT bO b287 a286.2,bL b257 [v2,v3] 29,bL b243 [v2,v3] 29,bL b242 [vS (p0.1),v0,v1] 36,bL b222 Pj 107,bL b221 [v2,v3] 29,bL b220 [vS (p0.1),v0,v1] 36,bL b8 [gM] 69,bL b7 [gM] 68]) ((0:Int),a272.2.2) (b273) h SF (aR.refl _) ?_
       intro k288 a286 b287 h
       refine sqR<|qkLss rfl<|dtN<|aG ?_
       refine eT h rfl (fun h=>?_) fun h=>?_
       ·refine cJ<|aG<|aN<|sqR<|ckE h fun j290 h=>aA (a_ rfl rfl (aB.el (aB.fact 4 rfl) j280.1 j280.2) rfl rfl j290) rfl<|aA (iA (cs:=[vI ((at' (at' p1.2 a272.1) a286.1).1),vI ((at' (at' p1.2 a272.1) a286.1).2)]) rfl (aB.el (aB.fact 4 rfl) j280.1 j280.2) bN rfl rfl rfl rfl j290) rfl<|aF (aI.alloc (cs:=QK) rfl rfl) rfl fun b291=>bE 0 (vs:=[vI ((at' (at' p1.2 a272.1) a286.1).1),vI ((at' (at' p1.2 a272.1) a286.1).2)]) rfl rfl rfl rfl rfl rfl<|dtN ?_
        refine JR.start [0,1,3,7,0,0,32,96,224,0,992,2016,0,0,8192,0,61440,126976,262112,524287,1048575] 19 mixedOrders (by decide +kernel) ?_
        refine JR.open (by exact rfl) ?_
        refine jkMove rfl<|jqN rfl (bR rfl)<|jkFld rfl<|jkLd 1 rfl<|jkMove rfl<|jkMove rfl<|jqN rfl (bR rfl)<|jkFld rfl<|jkLd 1 rfl<|jkMove rfl<|ckE h fun j292 h=>cB (cQ 3 rfl) fun hl293=>?_
        refine bG rfl (aR.cons 2 rfl .nil) .nil (gH 0 rfl rfl rfl rfl rfl j292.1 (by have q1:=j292.2;have q2:=hl293;(try simp only[List.length_set]at q1);(try simp only[List.length_set]at q2);(try simp only[List.length_set]);omega)) aK.z ?_
        refine cB (cQ 3 rfl) fun hl294=>bG rfl (aR.cons 2 rfl .nil) .nil (kQ 0 rfl rfl hl294 rfl rfl j292) aK.z<|jkLdA 4 rfl<|jkFld rfl<|jkLd 0 rfl<|jkMove rfl<|bnE h fun r295 w296 h=>JR.loud rfl rfl rfl (aI.callQ Tw (CC U v2 v3 z4 r295 w296) rfl (lK [3,4] rfl)) rfl (fun x297=>(mW [([2],[]),([2],[]),([1],[]),([1],[])] rfl)) fun x297=>JR.loud rfl rfl rfl (bU (e:=bO) ([r295]) [(0,vI (r295))] rfl rfl rfl rfl (iJ (vI (r295)) rfl) rfl rfl rfl) rfl (fun u298=>(mW [([3],[]),([3],[]),([2],[]),([2],[])] rfl)) fun u298=>ckE h fun j300 h=>JR.loud rfl rfl rfl (mZ 4 cC rfl rfl rfl (aO (aB.res 0 rfl) cC) rfl rfl rfl rfl j292 j300 rfl) rfl (fun u299=>(mW [([2],[])] rfl)) fun u299=>bD 19 rfl rfl<|ckE h fun j301 h=>bM (cQ 4 rfl) fun hl302=>?_
        refine aA (gH 3 rfl rfl rfl rfl rfl j301.1 (by have q1:=j301.2;have q2:=hl302;(try simp only[List.length_set]at q1);(try simp only[List.length_set]at q2);(try simp only[List.length_set]);omega)) rfl ?_
        refine bM (xI 4 (k:=a272.1) rfl ⟨j301.1,by first|exact j301.2|simpa using j301.2⟩) fun ho303=>?_
        refine nY 3 4 ⟨j301.1,by first|exact j301.2|simpa using j301.2⟩ rfl rfl rfl rfl rfl (by simp) ho303 rfl ?_
        refine dN<|inT<|aM<|qkAdd rfl<|qkMove rfl<|dtN ?_
        exact kZ ((wI .i64 (a286.1+(1:Int))),(List.set a286.2 (Int.toNat a272.1) ((at' a286.2 a272.1)++[r295]))) (List.set b287 (Int.toNat a272.1) u299) h SF (aR.ix [2,3,4,5,6,7,8,9,10,11,12] rfl rfl) (aD.refl _ _)
       refine oK<|dJ<|dJ<|uF<|inT ?_
       exact gR (a286.2) (b287) h SF rfl
      intro a278 b279 h
      unfold xC at h
      refine aM<|qkAdd rfl<|qkMove rfl<|dtN ?_
      exact yX ((wI .i64 (a272.1+(1:Int))),(max a272.2.1 (at' p1.1 a272.1)),a278) (b279) h SF rfl
     refine fM ?_
     exact bT (a272.2.1,a272.2.2) (b273) h SF (aR.ix [0,1,2,4,5,6,7,8,9,10] rfl rfl) (aD.refl _ _)
    intro a265 b266 h
    unfold sY at h
    refine sqR<|qkMove rfl<|qkAsg rfl<|dtN<|aQ ?_
    exact oL (a265.1,a265.2) (b261,u259,b266) h (.inl rfl) (Df.r1 rfl (RV.tmp rfl)) rfl (aR.refl _) (aD.refl _ _)
   intro a249 b250 h
   unfold yS at h
   refine bG rfl (aR.cons 4 rfl .nil) .nil (eN 0 rfl rfl rfl rfl) (aK.h (aR.ix [1] rfl rfl) .nil aK.z)<|bG rfl (aR.cons 3 rfl .nil) .nil (eN 0 rfl rfl rfl rfl) (aK.h (aR.ix [0] rfl rfl) .nil aK.z)<|bnE h fun r251 w252 h=>JR.loud rfl rfl rfl (aI.callQ Ot (zM U v0 v1 v2 v3 z4 r251 w252) rfl (lK [0,1,2,3,4] rfl)) rfl (fun x253=>(mW [([6],[])] rfl)) fun x253=>bD 7 rfl rfl<|bM (Know.one (aB.sl (aV (i:=0) (j:=1) rfl rfl bN))) fun ho254=>?_
   refine aA (KH (r:=Value.agg #[vS (p0.1),v0,v1,Value.pointer (some ⟨b250.1,0,none⟩),x253.1]) rfl rfl rfl (by intro w;simp[Instr.build,Instr.fill,c_,cS,cF,dA,dB,cT,eB,fS ho254])) rfl ?_
   refine aF (aI.box (cs:=[vS (p0.1),v0,v1,vP b250.1,x253.1]) rfl rfl) rfl fun b255=>qkAsg rfl<|dtN<|aQ ?_
   exact oL (r251,a249.1,a249.2) (b255,b250.1,x253.1,x253.2,b250.2.1,b250.2.2) h (.inl rfl) (Df.r1 rfl (RV.tmp rfl)) rfl (aR.ix [0,1,2,3,4,5,8,9,10,11,12] rfl rfl) (aD.refl _ _)
  intro a232 b233 h
  unfold yR at h
  refine bG rfl (aR.cons 7 rfl .nil) .nil (eN 0 rfl rfl rfl rfl) (aK.h (aR.ix [1] rfl rfl) .nil aK.z)<|bnE h fun r234 w235 h=>JR.loud rfl rfl rfl (aI.callQ Pz (BK U v2 v3 z4 r234 w235) rfl (lK [3,4] rfl)) rfl (fun x236=>(mW [] rfl)) fun x236=>jqN rfl (dD rfl)<|bG rfl (aR.cons 8 rfl .nil) .nil (eN 0 rfl rfl rfl rfl) (aK.h (aR.ix [7] rfl rfl) .nil (aK.h (aR.ix [1] rfl rfl) .nil aK.z))<|bnE h fun r237 w238 h=>JR.loud rfl rfl rfl (aI.callQ Py (Gz U v2 v3 z4 r237 w238) rfl (lK [3,4] rfl)) rfl (fun x239=>(mW [] rfl)) fun x239=>jqN rfl (dD rfl)<|bD 9 rfl rfl<|bM (Know.one ((aO (aB.res 0 rfl) fJ))) fun ho240=>?_
  refine aA (Y.bld5 (r:=Value.agg #[Value.pointer (some ⟨b233.1,0,none⟩),x236,vI (p2),vU (r237),Value.func (.func 109) #[] #[Value.pointer (some ⟨b7,0,none⟩),Value.pointer (some ⟨b8,0,none⟩)]]) rfl rfl rfl rfl rfl (by intro w;simp[Instr.build,Instr.fill,c_,cS,cF,dA,dB,cT,eB,fS ho240])) rfl ?_
  refine bM (Know.one ((aO (aB.res 0 rfl) fJ))) fun ho241=>bE 7 (vs:=[vP b233.1,x236,vI (p2),vU (r237),Value.func (.func 109) #[] #[vP b7,vP b8]]) rfl rfl (bY rfl (bY ho241 (bY rfl (bY rfl (bY rfl rfl))))) rfl rfl rfl<|dtN<|aQ ?_
  exact oL (r237,r234,a232.1,a232.2.1,a232.2.2) (b233.1,x236,b233.2.1,b233.2.2.1,b233.2.2.2.1,b233.2.2.2.2.1,b233.2.2.2.2.2) h (.inl rfl) (Df.r1 rfl (RV.cell 7 rfl rfl rfl rfl)) rfl (aR.ix [0,1,2,3,4,5,6,10,11] rfl rfl) (aD.refl _ _)
 intro a21 b22 h
 refine aF (aI.alloc (cs:=Pj) rfl rfl) rfl fun b23=>bM (Know.one ((aO (aB.res 1 rfl) fJ))) fun ho24=>bE 0 (vs:=[vP b22.1,b22.2.1,vI (p2),vU (a21.1),Value.func (.func 109) #[] #[vP b7,vP b8]]) rfl rfl (bY rfl (bY ho24 (bY rfl (bY rfl (bY rfl rfl))))) rfl rfl rfl<|dtN<|aG<|sqR<|qkLdA 0 rfl<|qkMove rfl<|qkMove rfl<|uQ (A:=Ys) (B:=Value×Value×Value×Value×Value×List Value×List Value×List (List Value)) (vs:=[Value.agg #[vP b22.1,b22.2.1,vI (p2),vU (a21.1),Value.func (.func 109) #[] #[vP b7,vP b8]],v5,v7]) (fun a44=>EY  a44=some r) (fun a44 b45=>Value.tuple #[Value.agg #[b45.1,b45.2.1,b45.2.2.1,vI (a44.1),vI (a44.2.1),vI (a44.2.2.1),vI (a44.2.2.2.1),vU (a44.2.2.2.2.1)],vI (a44.2.2.2.2.2.1)]) (fun a44 b45=>[Ar cH b45.2.2.2.1 a44.2.2.2.2.2.2.2.2.2.1,Jh bO b45.2.2.2.2.2.2.1 b45.2.2.2.2.2.2.2 a44.2.2.2.2.2.2.2.2.2.2,Ar cE.raw b45.2.2.2.2.1 b45.2.2.2.2.2.2.1,bL b8 [b45.2.2.2.1] 69,bL b7 [b45.2.2.2.2.1] 68,Ar gK b45.1 a44.2.2.2.2.2.2.1,Ar gK b45.2.1 a44.2.2.2.2.2.2.2.1,Ar cE.raw b45.2.2.1 b45.2.2.2.2.2.1,fT bO b45.2.2.2.2.2.1 a44.2.2.2.2.2.2.2.2.1]) (fun a44 b45=>[Sl aH v0 p0.2.1,Sl aE v1 p0.2.2,PF (Value.agg #[vS p0.1,v0,v1]),Sl bI v2 p1.1,S2 aY v3 z4 p1.2,S2 bI v5 z6 p3,Sl pI v7 p4,Gb 0 (cellsOf AV oA)]) (pV.fn (show aP Tryz.prog 62 from Tryz.call62) rfl) Tryz.func62 rfl Tryz.ntmps62 rfl rfl ?_ ?_
 ·refine sqR<|aF (aI.box (cs:=[vP b22.1,b22.2.1,vI (p2),vU (a21.1),Value.func (.func 109) #[] #[vP b7,vP b8]]) rfl rfl) rfl fun b51=>bM (Know.one ((aB.fact 6 rfl))) fun ho53=>?_
  refine aF (aI.box (cs:=[v7]) rfl (by rw[fS ho53])) rfl fun b52=>?_
  refine aF (aI.alloc (cs:=zS) rfl rfl) rfl fun b54=>qkAsg rfl<|dtN<|sqR<|qkLdA 2 rfl<|qkMove rfl<|qkLd 1 rfl<|qkLen (aB.fact 6 rfl) rfl<|aA (uC (cs:=[.tmp 3,.tmp 5]) (vs:=[vP b51,vP b52]) rfl) rfl<|uQ (A:=Yt) (B:=Value×Value×List Value×List (List Value)×Value×Value×Value×List Value) (vs:=[Value.agg #[vP b22.1,b22.2.1,vI (p2),vU (a21.1),Value.func (.func 109) #[] #[vP b7,vP b8]],v5,vI (List.length p4:Int),Value.func (.func 105) #[] #[vP b51,vP b52]]) (fun a74=>yQ  a74=some r) (fun a74 b75=>Value.tuple #[Value.agg #[b75.2.2.2.2.1,b75.2.2.2.2.2.1,b75.2.2.2.2.2.2.1,vI (a74.2.2.2.2.2.1),vI (a74.2.2.2.2.2.2.1),vI (a74.2.2.2.2.2.2.2.1),vI (a74.2.2.2.2.2.2.2.2.1),vU (a74.2.2.2.2.2.2.2.2.2.1)],vI (a74.2.2.2.2.2.2.2.2.2.2)]) (fun a74 b75=>[Ar cH b75.1 a74.1,Jh bO b75.2.2.1 b75.2.2.2.1 a74.2.1,Ar cE.raw b75.2.1 b75.2.2.1,bL b54 zS 63,bL b8 [b75.1] 69,bL b7 [b75.2.1] 68,Ar gK b75.2.2.2.2.1 a74.2.2.1,Ar gK b75.2.2.2.2.2.1 a74.2.2.2.1,Ar cE.raw b75.2.2.2.2.2.2.1 b75.2.2.2.2.2.2.2,fT bO b75.2.2.2.2.2.2.2 a74.2.2.2.2.1]) (fun a74 b75=>[Sl aH v0 p0.2.1,Sl aE v1 p0.2.2,PF (Value.agg #[vS p0.1,v0,v1]),Sl bI v2 p1.1,S2 aY v3 z4 p1.2,S2 bI v5 z6 p3,Sl pI v7 p4,Gb 0 (cellsOf AV oA)]) (pV.fn (show aP Tryz.prog 104 from Tryz.call104) rfl) Tryz.func104 rfl Tryz.ntmps104 rfl rfl ?_ ?_
  ·refine sqR<|aF (aI.box (cs:=[vP b22.1,b22.2.1,vI (p2),vU (a21.1),Value.func (.func 109) #[] #[vP b7,vP b8]]) rfl rfl) rfl fun b79=>aF (aI.alloc (cs:=zS) rfl rfl) rfl fun b80=>qkAsg rfl<|dtN<|sqR<|aF (aI.alloc (cs:=zS) rfl rfl) rfl fun b81=>dtN<|sqR<|qkMove rfl<|bnE h fun r82 w83 h=>aF (aI.callQ EA (tB U v5 z6 r82 w83) rfl (lK [5] rfl)) rfl fun x84=>qkAsg rfl<|dtN<|aG ?_
   refine JR.start [0,1,0,7,0,16,63,127] 6 mixedOrders (by decide +kernel) ?_
   refine JR.open (by exact rfl) ?_
   refine jkFld rfl<|jkLd 4 rfl<|jkMove rfl<|bnE h fun r85 w86 h=>JR.loud rfl rfl rfl (aI.callQ KS (kU U b22.1 v0 v1 b22.2.2.1 v0 v1 v2 v3 z4 b22.2.2.2.2.2.1 (List.zip b22.2.2.2.2.2.2 a21.2.2.2.2) b22.2.2.2.1 (List.zip b22.2.2.2.2.1 a21.2.2.1) x84.1 (List.zip x84.2 r82) r85 w86) rfl (aD.cons (aB.res 10 rfl) (aD.cons (aB.fact 0 rfl) (aD.cons (aB.fact 1 rfl) (aD.cons (aB.res 13 rfl) (aD.cons (aB.fact 0 rfl) (aD.cons (aB.fact 1 rfl) (aD.cons (aB.fact 3 rfl) (aD.cons (aB.fact 4 rfl) (aD.cons (aV (i:=14) (j:=15) rfl rfl cC) (aD.cons (aV (i:=11) (j:=12) rfl rfl bN) (aD.cons (aV (i:=0) (j:=1) rfl rfl cC) .nil)))))))))))) rfl (fun x87=>(mW [] rfl)) fun x87=>jqN rfl (cZ rfl rfl rfl rfl rfl)<|bG rfl (aR.cons 4 rfl .nil) .nil (eF 0 rfl rfl rfl rfl rfl) (aK.h (aR.ix [4] rfl rfl) .nil aK.z)<|bD 6 rfl rfl<|qkAnd rfl<|qkAsg rfl<|dtN<|sqR<|qkMove rfl<|bnE h fun r88 w89 h=>aF (aI.callQ PE (BJ U  r88 w89) rfl .nil) rfl fun x90=>aF (aI.alloc (cs:=XX) rfl rfl) rfl fun b91=>bE 0 (vs:=[vI (r88.1),vI (r88.2.1),vI (r88.2.2.1),vI (r88.2.2.2.1),vU (r88.2.2.2.2)]) rfl rfl rfl rfl rfl rfl<|dtN<|sqR<|qkFld rfl<|qkLd 5 rfl<|qkMove rfl<|qkMove rfl<|qkLdA 0 rfl<|uQ (A:=yF) (B:=Value×Value×List Value×List (List Value)) (vs:=[x84.1,vU (cD .u32 r85 a21.1),Value.agg #[vI (r88.1),vI (r88.2.1),vI (r88.2.2.1),vI (r88.2.2.2.1),vU (r88.2.2.2.2)],vP b7,vP b8]) (fun a97=>Bv U p0 p1 p2 p4 a21 r82 r85 r88 a97=some r) (fun a97 b98=>Value.tuple #[]) (fun a97 b98=>[Ar cH b98.1 (([]:Kk)++([(r88.1,r88.2.1,r88.2.2.1,r88.2.2.2.1,r88.2.2.2.2)])),Jh bO b98.2.2.1 b98.2.2.2 a97,Ar cE.raw b98.2.1 b98.2.2.1,bL b91 [vI (r88.1),vI (r88.2.1),vI (r88.2.2.1),vI (r88.2.2.2.1),vU (r88.2.2.2.2)] 61,Ar cE.raw x84.1 x84.2,fT bO x84.2 r82,bL b81 zS 63,bL b80 zS 63,bL b79 [vP b22.1,b22.2.1,vI (p2),vU (a21.1),Value.func (.func 109) #[] #[vP b7,vP b8]] 107,bL b54 zS 63,bL b52 [v7] 25,bL b51 [vP b22.1,b22.2.1,vI (p2),vU (a21.1),Value.func (.func 109) #[] #[vP b7,vP b8]] 107,Ar gK b22.2.1 a21.2.1,bL b22.1 [vS (p0.1),v0,v1,vP b22.2.2.1,b22.2.2.2.1] 170,Ar cE.raw b22.2.2.2.1 b22.2.2.2.2.1,fT bS b22.2.2.2.2.1 a21.2.2.1,bL b22.2.2.1 [vS (p0.1),v0,v1,v2,v3,vI (a21.2.2.2.1),b22.2.2.2.2.2.1] 218,Ar cE.raw b22.2.2.2.2.2.1 b22.2.2.2.2.2.2,fT bO b22.2.2.2.2.2.2 a21.2.2.2.2,bL b8 [b98.1] 69,bL b7 [b98.2.1] 68]) (fun a97 b98=>[Sl aH v0 p0.2.1,Sl aE v1 p0.2.2,PF (Value.agg #[vS p0.1,v0,v1]),Sl bI v2 p1.1,S2 aY v3 z4 p1.2,S2 bI v5 z6 p3,Sl pI v7 p4,Gb 0 (cellsOf AV oA)]) (CL (us:=[x84.1,vU (cD .u32 r85 a21.1),Value.agg #[vI (r88.1),vI (r88.2.1),vI (r88.2.2.1),vI (r88.2.2.2.1),vU (r88.2.2.2.2)]]) (cs:=[vP b7,vP b8]) (show aP Tryz.prog 109 from Tryz.call109) rfl rfl rfl) Tryz.func109 rfl Tryz.ntmps109 rfl rfl ?_ ?_
   ·refine sqR<|aF (aI.box (cs:=[vI (r88.1),vI (r88.2.1),vI (r88.2.2.1),vI (r88.2.2.2.1),vU (r88.2.2.2.2)]) rfl rfl) rfl fun b205=>dtN<|aG ?_
    refine JR.start [0,0,2,6,15,31] 4 mixedOrders (by decide +kernel) ?_
    refine JR.open (by exact rfl) ?_
    refine jkLd 19 rfl<|jkMove rfl<|bnE h fun r206 w207 h=>JR.loud rfl rfl rfl (aI.callQ EA (tB U x84.1 (List.zip x84.2 r82) r206 w207) rfl (aD.cons (aV (i:=2) (j:=3) rfl rfl cC) .nil)) rfl (fun x208=>(mW [([21],[])] rfl)) fun x208=>cB (Know.one (aB.sl (aV (i:=0) (j:=1) rfl rfl cC))) fun ho209=>JR.stp (yW bO)<|JR.stp (Ps 1 2 rfl rfl rfl)<|JR.stp (HB 0 1 rfl rfl rfl) ?_
    refine JR.loud rfl rfl rfl (bU (e:=cE.raw) (([]:eV)++[x208.1]) [(0,x208.1)] rfl rfl rfl rfl (iJ (x208.1) ho209) rfl rfl (by simp[cellsOf,cE.raw,ho209])) rfl (fun u210=>(mW [([21],[])] rfl)) fun u210=>?_
    refine bD 4 rfl rfl<|eQ (dH cE.raw) (eQ (yW bO) ?_)
    refine bM (uR 0 rfl) fun hl211=>bM (uR 3 rfl) fun hl212=>ckE h fun j213 h=>eQ (HD 0 3 rfl rfl rfl) ?_
    refine aF (aI.append 1 2 rfl rfl rfl rfl rfl rfl rfl (by have q:=j213;have q1:=hl211;have q2:=hl212;(try simp only[List.length_cons,List.length_nil,List.length_append]at q q1 q2 ⊢);omega) (by have q:=j213;have q1:=hl211;have q2:=hl212;(try simp only[List.length_cons,List.length_nil,List.length_append]at q q1 q2 ⊢);omega) rfl) rfl fun u214=>?_
    refine bM (Hz 1 rfl) fun ho215=>eP 22 rfl rfl ho215 rfl rfl rfl<|dtN<|aM<|qkLd 21 rfl<|qkLdA 3 rfl<|aF (bU (e:=cH) ([((r88.1,r88.2.1,r88.2.2.1,r88.2.2.2.1,r88.2.2.2.2))]) [(0,Value.agg #[vI (r88.1),vI (r88.2.1),vI (r88.2.2.1),vI (r88.2.2.2.1),vU (r88.2.2.2.2)])] rfl rfl rfl rfl (MK (vI (r88.1)) (vI (r88.2.1)) (vI (r88.2.2.1)) (vI (r88.2.2.2.1)) (vU (r88.2.2.2.2))) rfl rfl rfl) rfl fun u216=>eQ (dH cH)<|ckE h fun j218 h=>aF (dW 0 iU rfl rfl rfl (aO (aB.res 1 rfl) iU) rfl rfl rfl rfl j218 rfl) rfl fun u217=>bM (Know.one ((aO (aB.res 0 rfl) iU))) fun ho219=>eP 23 rfl rfl ho219 rfl rfl rfl<|dN ?_
    exact oL (([]:yF)++(([]:yF)++[r206])) (u217,u214,(([]:eV)++(([]:eV)++[x208.1])),(([]:List (List Value))++(([]:List (List Value))++[x208.2]))) h (.inr rfl) (Df.r0 rfl) rfl (aR.ix [0,2,3,6,7,8,9,10,11,12,13,14,16,17,18,19,20,21,22,23,24] rfl rfl) (aD.refl _ _)
   intro a97 b98 h
   refine dtN<|sqR<|qkFld rfl<|qkLd 6 rfl<|qkMove rfl<|aF (bU (e:=gK) ([(cD .u32 r85 a21.1)]) [(0,vU (cD .u32 r85 a21.1))] rfl rfl rfl rfl (iJ (vU (cD .u32 r85 a21.1)) rfl) rfl rfl rfl) rfl fun u99=>eQ (dH gK)<|ckE h fun j101 h=>aF (dW 0 fJ rfl rfl rfl (aO (aB.res 1 rfl) fJ) rfl rfl rfl rfl j101 rfl) rfl fun u100=>qkFld rfl<|bM (Know.one ((aO (aB.res 0 rfl) fJ))) fun ho102=>eP 8 rfl rfl ho102 rfl rfl rfl<|dtN<|aG<|midL (B:=Value×List Value×Value×Value×Value×Value×List Value×List (List Value)) (fun a121=>vH  a121=some r) (fun a121 b122=>[(1,b122.1),(8,vP b80),(10,vP b81),(12,vP b91)]) (fun a121 b122=>[Ar gK b122.2.2.2.1 a121.1,Ar cH b122.2.2.2.2.1 a121.2.2.2.2.2.2.2.2.1,Jh bO b122.2.2.2.2.2.2.1 b122.2.2.2.2.2.2.2 a121.2.2.2.2.2.2.2.2.2,Ar cE.raw b122.2.2.2.2.2.1 b122.2.2.2.2.2.2.1,bL b91 [vI (a121.2.1),vI (a121.2.2.1),vI (a121.2.2.2.1),vI (a121.2.2.2.2.1),vU (a121.2.2.2.2.2.1)] 61,Ar cE.raw b122.1 b122.2.1,fT bO b122.2.1 a121.2.2.2.2.2.2.1,bL b81 [b122.2.2.1,b122.2.2.2.1,gM,vI (0:Int),vI (0:Int),vI (0:Int),vI (0:Int),vU (0:Int)] 63,bL b80 zS 63,bL b54 zS 63,bL b8 [b122.2.2.2.2.1] 69,bL b7 [b122.2.2.2.2.2.1] 68,Ar gK b122.2.2.1 a121.2.2.2.2.2.2.2.1]) ?_ ?_
   ·refine sqR<|qkMove rfl<|qkMove rfl<|dtN<|aN<|eQ (dH gK)<|loopL (B:=Value×List Value×Value×Value×Value×Value×List Value×List (List Value)) (r_ U p0 p1 p2 p4 a21) (fun a150 b151=>[(1,b151.1),(3,Value.func (.func 105) #[] #[vP b51,vP b52]),(4,vP b79),(8,vP b80),(10,vP b81),(11,vU (a150.1)),(12,vP b91),(39,vI (List.length p4:Int)),(40,vI (a150.2.2.1))]) (fun a150 b151=>[Ar gK b151.2.2.2.1 a150.2.1,Ar cH b151.2.2.2.2.1 a150.2.2.2.2.2.2.2.2.2.2.1,Jh bO b151.2.2.2.2.2.2.1 b151.2.2.2.2.2.2.2 a150.2.2.2.2.2.2.2.2.2.2.2,Ar cE.raw b151.2.2.2.2.2.1 b151.2.2.2.2.2.2.1,bL b91 [vI (a150.2.2.2.1),vI (a150.2.2.2.2.1),vI (a150.2.2.2.2.2.1),vI (a150.2.2.2.2.2.2.1),vU (a150.2.2.2.2.2.2.2.1)] 61,Ar cE.raw b151.1 b151.2.1,fT bO b151.2.1 a150.2.2.2.2.2.2.2.2.1,bL b81 [b151.2.2.1,b151.2.2.2.1,gM,vI (0:Int),vI (0:Int),vI (0:Int),vI (0:Int),vU (0:Int)] 63,bL b80 zS 63,bL b79 [vP b22.1,b22.2.1,vI (p2),vU (a21.1),Value.func (.func 109) #[] #[vP b7,vP b8]] 107,bL b54 zS 63,bL b52 [v7] 25,bL b51 [vP b22.1,b22.2.1,vI (p2),vU (a21.1),Value.func (.func 109) #[] #[vP b7,vP b8]] 107,Ar gK b22.2.1 a21.2.1,bL b22.1 [vS (p0.1),v0,v1,vP b22.2.2.1,b22.2.2.2.1] 170,Ar cE.raw b22.2.2.2.1 b22.2.2.2.2.1,fT bS b22.2.2.2.2.1 a21.2.2.1,bL b22.2.2.1 [vS (p0.1),v0,v1,v2,v3,vI (a21.2.2.2.1),b22.2.2.2.2.2.1] 218,Ar cE.raw b22.2.2.2.2.2.1 b22.2.2.2.2.2.2,fT bO b22.2.2.2.2.2.2 a21.2.2.2.2,bL b8 [b151.2.2.2.2.1] 69,bL b7 [b151.2.2.2.2.2.1] 68,Ar gK b151.2.2.1 a150.2.2.2.2.2.2.2.2.2.1]) ((cD .u32 r85 a21.1),(([]:aL)++([(cD .u32 r85 a21.1)])),(0:Int),r88.1,r88.2.1,r88.2.2.1,r88.2.2.2.1,r88.2.2.2.2,r82,([]:aL),(([]:Kk)++([(r88.1,r88.2.1,r88.2.2.1,r88.2.2.2.1,r88.2.2.2.2)])),a97) (x84.1,x84.2,(gM),u100,b98.1,b98.2.1,b98.2.2.1,b98.2.2.2) h SF (aR.ix [1,3,4,5,6,7,8,9,10,11,12,13,14,15,16,17,18,19,20,21,22,23,0] rfl rfl) ?_
    intro k152 a150 b151 h
    refine sqR<|qkLss rfl<|dtN<|aG ?_
    refine eT h rfl (fun h=>?_) fun h=>?_
    ·refine cJ<|aG<|aN<|sqR<|qkMove rfl<|qkAsg rfl<|dtN<|sqR<|qkMove rfl<|qkMove rfl<|qkMove rfl<|uQ (A:=Int) (B:=Unit) (vs:=[vI (a150.2.2.1),vU (a150.1),vP b51,vP b52]) (fun a155=>Bw U p0 p1 p2 a21 a150 (bJ (r_ U p0 p1 p2 p4 a21) k152) a155=some r) (fun a155 b156=>Value.tuple #[vU (a155),vB (decide (a150.1≠(0:Int)))]) (fun a155 b156=>[Ar gK b151.2.2.2.1 a150.2.1,Ar cH b151.2.2.2.2.1 a150.2.2.2.2.2.2.2.2.2.2.1,Jh bO b151.2.2.2.2.2.2.1 b151.2.2.2.2.2.2.2 a150.2.2.2.2.2.2.2.2.2.2.2,Ar cE.raw b151.2.2.2.2.2.1 b151.2.2.2.2.2.2.1,bL b91 [vI (a150.2.2.2.1),vI (a150.2.2.2.2.1),vI (a150.2.2.2.2.2.1),vI (a150.2.2.2.2.2.2.1),vU (a150.2.2.2.2.2.2.2.1)] 61,Ar cE.raw b151.1 b151.2.1,fT bO b151.2.1 a150.2.2.2.2.2.2.2.2.1,bL b81 [b151.2.2.1,b151.2.2.2.1,gM,vI (0:Int),vI (0:Int),vI (0:Int),vI (0:Int),vU (0:Int)] 63,bL b80 zS 63,bL b79 [vP b22.1,b22.2.1,vI (p2),vU (a21.1),Value.func (.func 109) #[] #[vP b7,vP b8]] 107,bL b54 zS 63,bL b52 [v7] 25,bL b51 [vP b22.1,b22.2.1,vI (p2),vU (a21.1),Value.func (.func 109) #[] #[vP b7,vP b8]] 107,Ar gK b22.2.1 a21.2.1,bL b22.1 [vS (p0.1),v0,v1,vP b22.2.2.1,b22.2.2.2.1] 170,Ar cE.raw b22.2.2.2.1 b22.2.2.2.2.1,fT bS b22.2.2.2.2.1 a21.2.2.1,bL b22.2.2.1 [vS (p0.1),v0,v1,v2,v3,vI (a21.2.2.2.1),b22.2.2.2.2.2.1] 218,Ar cE.raw b22.2.2.2.2.2.1 b22.2.2.2.2.2.2,fT bO b22.2.2.2.2.2.2 a21.2.2.2.2,bL b8 [b151.2.2.2.2.1] 69,bL b7 [b151.2.2.2.2.2.1] 68,Ar gK b151.2.2.1 a150.2.2.2.2.2.2.2.2.2.1]) (fun a155 b156=>[Sl aH v0 p0.2.1,Sl aE v1 p0.2.2,PF (Value.agg #[vS p0.1,v0,v1]),Sl bI v2 p1.1,S2 aY v3 z4 p1.2,S2 bI v5 z6 p3,Sl pI v7 p4,Gb 0 (cellsOf AV oA)]) (CL (us:=[vI (a150.2.2.1),vU (a150.1)]) (cs:=[vP b51,vP b52]) (show aP Tryz.prog 105 from Tryz.call105) rfl rfl rfl) Tryz.func105 rfl Tryz.ntmps105 rfl rfl ?_ ?_
     ·refine sqR<|qkAsg rfl<|qkAsg rfl<|dtN<|aG ?_
      refine JR.start [0,1,0,4,0,0,0,96,224,511,0,1024,1023,8191] 13 mixedOrders (by decide +kernel) ?_
      refine JR.open (by exact rfl) ?_
      refine jkFld rfl<|jkLd 12 rfl<|jkFld rfl<|jkLd 12 rfl<|jkMove rfl<|jkLd 11 rfl<|jkMove rfl<|ckE h fun j201 h=>bG rfl .nil (lX 6 rfl) (a_ rfl rfl (aB.fact 0 rfl) rfl rfl j201) aK.z<|bG rfl .nil (lX 6 rfl) (bV rfl (aB.fact 0 rfl) rfl rfl rfl Am j201) aK.z<|bnE h fun r202 w203 h=>JR.loud rfl rfl rfl (aI.callQ KP (pT U b22.2.1 r202 w203) rfl (aD.cons (aO (aB.res 13 rfl) fJ) (lK [7] rfl))) rfl (fun x204=>(mW [] rfl)) fun x204=>jqN rfl (dD rfl)<|jqN rfl (HL rfl rfl)<|jqN rfl (iV rfl)<|bD 13 rfl rfl<|qkAsg rfl<|dtN<|aQ ?_
      exact oL (r202) () h (.inl rfl) (Df.r2 rfl (RV.tmp rfl) (RV.tmp rfl)) rfl (aR.refl _) (aD.refl _ _)
     intro a155 b156 h
     refine qkMove rfl<|qkExt rfl<|qkExt rfl<|qkAsg rfl<|qkAsg rfl<|dtN<|aG<|sqR<|qkMove rfl<|aA (Tb rfl) rfl<|dtN ?_
     refine eT h rfl (fun h=>?_) fun h=>?_
     ·refine oK<|dJ<|Pr rfl<|dJ<|dJ<|uF<|wR ?_
      exact bT (a150.2.1,a150.2.2.2.1,a150.2.2.2.2.1,a150.2.2.2.2.2.1,a150.2.2.2.2.2.2.1,a150.2.2.2.2.2.2.2.1,a150.2.2.2.2.2.2.2.2.1,a150.2.2.2.2.2.2.2.2.2.1,a150.2.2.2.2.2.2.2.2.2.2.1,a150.2.2.2.2.2.2.2.2.2.2.2) (b151.1,b151.2.1,b151.2.2.1,b151.2.2.2.1,b151.2.2.2.2.1,b151.2.2.2.2.2.1,b151.2.2.2.2.2.2.1,b151.2.2.2.2.2.2.2) h SF (aR.ix [0,1,2,3,4,5,6,7,8,10,20,21,22] rfl rfl) (aD.refl _ _)
     refine cJ<|aG<|sqR<|qkFld rfl<|qkLd 9 rfl<|qkFld rfl<|qkLd 9 rfl<|qkMove rfl<|qkMove rfl<|bnE h fun r158 w159 h=>aF (aI.callQ KQ (pS U b22.2.1 r158 w159) rfl (aD.cons (aO (aB.res 13 rfl) fJ) (lK [7] rfl))) rfl fun x160=>aA (qX rfl) rfl<|dtN ?_
     refine AG h rfl (fun _ h=>?_) fun _ h=>?_
     ·refine sqR ?_
      refine aA (DU (r:=Value.agg #[gM,gM,gM,vI (0:Int),vI (0:Int),vI (0:Int),vI (0:Int),vU (0:Int)]) (by intro w;simp[Instr.build,Instr.fill,c_,cS,cF,dA,dB,cT,eB])) rfl ?_
      refine bE 8 (vs:=zS) rfl rfl rfl rfl rfl rfl<|qkAsg rfl<|dtN<|aQ<|aJ<|bQ<|aJ<|aJ<|bQ<|aJ<|eQ (dH gK)<|eQ (dH gK)<|eQ (dH cE.raw) (eQ (pL bO) ?_)
      exact oL (a150.2.2.2.2.2.2.2.2.2.2.1,a150.2.2.2.2.2.2.2.2.2.2.2,([]:aL),([]:aL),([]:aT),(0:Int),(0:Int),(0:Int),(0:Int),(0:Int),(11:Int)) (b151.2.2.2.2.1,b151.2.2.2.2.2.1,b151.2.2.2.2.2.2.1,b151.2.2.2.2.2.2.2,(gM),(gM),(gM),([]:eV)) h (.inl rfl) (Df.r2 rfl (RV.cell 12 rfl rfl rfl rfl) (RV.tmp rfl)) rfl (aR.ix [5,6,7,14,24,25,2,3,1,0] rfl rfl) (aD.refl _ _)
     refine cJ<|sqR<|qkFld rfl<|qkLd 9 rfl<|qkMove rfl<|qkMove rfl<|bnE h fun r162 w163 h=>aF (aI.callQ PG (xO U b22.1 v0 v1 b22.2.2.1 v0 v1 v2 v3 z4 b22.2.2.2.2.2.1 (List.zip b22.2.2.2.2.2.2 a21.2.2.2.2) b22.2.2.2.1 (List.zip b22.2.2.2.2.1 a21.2.2.1) b151.1 (List.zip b151.2.1 a150.2.2.2.2.2.2.2.2.1) r162 w163) rfl (aD.cons (aB.res 14 rfl) (aD.cons (aB.fact 0 rfl) (aD.cons (aB.fact 1 rfl) (aD.cons (aB.res 17 rfl) (aD.cons (aB.fact 0 rfl) (aD.cons (aB.fact 1 rfl) (aD.cons (aB.fact 3 rfl) (aD.cons (aB.fact 4 rfl) (aD.cons (aV (i:=18) (j:=19) rfl rfl cC) (aD.cons (aV (i:=15) (j:=16) rfl rfl bN) (aD.cons (aV (i:=5) (j:=6) rfl rfl cC) .nil)))))))))))) rfl fun x164=>qkAsg rfl<|dtN<|aG ?_
     refine JR.start [0,1,0,7,0,16,63,127] 6 mixedOrders (by decide +kernel) ?_
     refine JR.open (by exact rfl) ?_
     refine jkFld rfl<|jkLd 11 rfl<|jkMove rfl<|bnE h fun r165 w166 h=>JR.loud rfl rfl rfl (aI.callQ KS (kU U b22.1 v0 v1 b22.2.2.1 v0 v1 v2 v3 z4 b22.2.2.2.2.2.1 (List.zip b22.2.2.2.2.2.2 a21.2.2.2.2) b22.2.2.2.1 (List.zip b22.2.2.2.2.1 a21.2.2.1) x164.1 (List.zip x164.2 r162) r165 w166) rfl (aD.cons (aB.res 16 rfl) (aD.cons (aB.fact 0 rfl) (aD.cons (aB.fact 1 rfl) (aD.cons (aB.res 19 rfl) (aD.cons (aB.fact 0 rfl) (aD.cons (aB.fact 1 rfl) (aD.cons (aB.fact 3 rfl) (aD.cons (aB.fact 4 rfl) (aD.cons (aV (i:=20) (j:=21) rfl rfl cC) (aD.cons (aV (i:=17) (j:=18) rfl rfl bN) (aD.cons (aV (i:=0) (j:=1) rfl rfl cC) .nil)))))))))))) rfl (fun x167=>(mW [] rfl)) fun x167=>jqN rfl (cZ rfl rfl rfl rfl rfl)<|bG rfl (aR.cons 11 rfl .nil) .nil (eF 0 rfl rfl rfl rfl rfl) (aK.h (aR.ix [11] rfl rfl) .nil aK.z)<|bD 6 rfl rfl<|qkAnd rfl<|qkAsg rfl<|dtN<|sqR<|qkLdA 6 rfl<|qkMove rfl<|qkMove rfl<|bnE h fun r168 w169 h=>aF (aI.callQ PH (DF U  r168 w169) rfl .nil) rfl fun x170=>qkMove rfl<|qkExt rfl<|qkExt rfl<|bE 6 (vs:=[vI (r168.1.1),vI (r168.1.2.1),vI (r168.1.2.2.1),vI (r168.1.2.2.2.1),vU (r168.1.2.2.2.2)]) rfl rfl rfl rfl rfl rfl<|dtN<|sqR<|qkFld rfl<|qkLd 11 rfl<|qkMove rfl<|qkMove rfl<|qkLdA 6 rfl<|uQ (A:=yF) (B:=Value×Value×List Value×List (List Value)) (vs:=[x164.1,vU (cD .u32 r165 a21.1),Value.agg #[vI (r168.1.1),vI (r168.1.2.1),vI (r168.1.2.2.1),vI (r168.1.2.2.2.1),vU (r168.1.2.2.2.2)],vP b7,vP b8]) (fun a176=>By a21 a150 (bJ (r_ U p0 p1 p2 p4 a21) k152) a155 r162 r165 r168 a176=some r) (fun a176 b177=>Value.tuple #[]) (fun a176 b177=>[Ar cE.raw x164.1 x164.2,fT bO x164.2 r162,Ar gK b151.2.2.2.1 a150.2.1,Ar cH b177.1 (a150.2.2.2.2.2.2.2.2.2.2.1++([(r168.1.1,r168.1.2.1,r168.1.2.2.1,r168.1.2.2.2.1,r168.1.2.2.2.2)])),Jh bO b177.2.2.1 b177.2.2.2 a176,Ar cE.raw b177.2.1 b177.2.2.1,bL b91 [vI (r168.1.1),vI (r168.1.2.1),vI (r168.1.2.2.1),vI (r168.1.2.2.2.1),vU (r168.1.2.2.2.2)] 61,bL b81 [b151.2.2.1,b151.2.2.2.1,gM,vI (0:Int),vI (0:Int),vI (0:Int),vI (0:Int),vU (0:Int)] 63,bL b80 zS 63,bL b79 [vP b22.1,b22.2.1,vI (p2),vU (a21.1),Value.func (.func 109) #[] #[vP b7,vP b8]] 107,bL b54 zS 63,bL b52 [v7] 25,bL b51 [vP b22.1,b22.2.1,vI (p2),vU (a21.1),Value.func (.func 109) #[] #[vP b7,vP b8]] 107,Ar gK b22.2.1 a21.2.1,bL b22.1 [vS (p0.1),v0,v1,vP b22.2.2.1,b22.2.2.2.1] 170,Ar cE.raw b22.2.2.2.1 b22.2.2.2.2.1,fT bS b22.2.2.2.2.1 a21.2.2.1,bL b22.2.2.1 [vS (p0.1),v0,v1,v2,v3,vI (a21.2.2.2.1),b22.2.2.2.2.2.1] 218,Ar cE.raw b22.2.2.2.2.2.1 b22.2.2.2.2.2.2,fT bO b22.2.2.2.2.2.2 a21.2.2.2.2,bL b8 [b177.1] 69,bL b7 [b177.2.1] 68,Ar gK b151.2.2.1 a150.2.2.2.2.2.2.2.2.2.1]) (fun a176 b177=>[Sl aH v0 p0.2.1,Sl aE v1 p0.2.2,PF (Value.agg #[vS p0.1,v0,v1]),Sl bI v2 p1.1,S2 aY v3 z4 p1.2,S2 bI v5 z6 p3,Sl pI v7 p4,Gb 0 (cellsOf AV oA)]) (CL (us:=[x164.1,vU (cD .u32 r165 a21.1),Value.agg #[vI (r168.1.1),vI (r168.1.2.1),vI (r168.1.2.2.1),vI (r168.1.2.2.2.1),vU (r168.1.2.2.2.2)]]) (cs:=[vP b7,vP b8]) (show aP Tryz.prog 109 from Tryz.call109) rfl rfl rfl) Tryz.func109 rfl Tryz.ntmps109 rfl rfl ?_ ?_
     ·refine sqR<|aF (aI.box (cs:=[vI (r168.1.1),vI (r168.1.2.1),vI (r168.1.2.2.1),vI (r168.1.2.2.2.1),vU (r168.1.2.2.2.2)]) rfl rfl) rfl fun b186=>dtN<|aG ?_
      refine JR.start [0,0,2,6,15,31] 4 mixedOrders (by decide +kernel) ?_
      refine JR.open (by exact rfl) ?_
      refine jkLd 24 rfl<|jkMove rfl<|bnE h fun r187 w188 h=>JR.loud rfl rfl rfl (aI.callQ EA (tB U x164.1 (List.zip x164.2 r162) r187 w188) rfl (aD.cons (aV (i:=1) (j:=2) rfl rfl cC) .nil)) rfl (fun x189=>(mW [([26],[])] rfl)) fun x189=>cB (Know.one (aB.sl (aV (i:=0) (j:=1) rfl rfl cC))) fun ho190=>JR.stp (yW bO)<|JR.stp (Ps 1 2 rfl rfl rfl)<|JR.stp (HB 0 1 rfl rfl rfl) ?_
      refine JR.loud rfl rfl rfl (bU (e:=cE.raw) (([]:eV)++[x189.1]) [(0,x189.1)] rfl rfl rfl rfl (iJ (x189.1) ho190) rfl rfl (by simp[cellsOf,cE.raw,ho190])) rfl (fun u191=>(mW [([26],[])] rfl)) fun u191=>?_
      refine bD 4 rfl rfl<|bM (uR 7 rfl) fun hl192=>bM (uR 1 rfl) fun hl193=>ckE h fun j194 h=>eQ (HD 7 1 rfl rfl rfl) ?_
      refine aF (aI.append 7 0 rfl rfl rfl rfl rfl rfl rfl (by have q:=j194;have q1:=hl192;have q2:=hl193;(try simp only[List.length_cons,List.length_nil,List.length_append]at q q1 q2 ⊢);omega) (by have q:=j194;have q1:=hl192;have q2:=hl193;(try simp only[List.length_cons,List.length_nil,List.length_append]at q q1 q2 ⊢);omega) rfl) rfl fun u195=>?_
      refine bM (Hz 7 rfl) fun ho196=>eP 25 rfl rfl ho196 rfl rfl rfl<|dtN<|aM<|qkLd 24 rfl<|qkLdA 1 rfl<|aF (bU (e:=cH) ([((r168.1.1,r168.1.2.1,r168.1.2.2.1,r168.1.2.2.2.1,r168.1.2.2.2.2))]) [(0,Value.agg #[vI (r168.1.1),vI (r168.1.2.1),vI (r168.1.2.2.1),vI (r168.1.2.2.2.1),vU (r168.1.2.2.2.2)])] rfl rfl rfl rfl (MK (vI (r168.1.1)) (vI (r168.1.2.1)) (vI (r168.1.2.2.1)) (vI (r168.1.2.2.2.1)) (vU (r168.1.2.2.2.2))) rfl rfl rfl) rfl fun u197=>ckE h fun j199 h=>aF (dW 6 iU rfl rfl rfl (aO (aB.res 0 rfl) iU) rfl rfl rfl rfl j199 rfl) rfl fun u198=>bM (Know.one ((aO (aB.res 6 rfl) iU))) fun ho200=>eP 25 rfl rfl ho200 rfl rfl rfl<|dN ?_
      exact oL (a150.2.2.2.2.2.2.2.2.2.2.2++(([]:yF)++[r187])) (u198,u195,(b151.2.2.2.2.2.2.1++(([]:eV)++[x189.1])),(b151.2.2.2.2.2.2.2++(([]:List (List Value))++[x189.2]))) h (.inr rfl) (Df.r0 rfl) rfl (aR.ix [3,4,5,6,7,8,9,12,13,14,15,16,17,18,19,20,21,22,23,24,25,26,27] rfl rfl) (aD.refl _ _)
     intro a176 b177 h
     refine dtN<|sqR<|qkFld rfl<|qkLd 7 rfl<|qkMove rfl<|aF (bU (e:=gK) ([a155]) [(0,vU (a155))] rfl rfl rfl rfl (iJ (vU (a155)) rfl) rfl rfl rfl) rfl fun u178=>ckE h fun j180 h=>aF (dW 23 fJ rfl rfl rfl (aO (aB.res 0 rfl) fJ) rfl rfl rfl rfl j180 rfl) rfl fun u179=>qkFld rfl<|bM (Know.one ((aO (aB.res 23 rfl) fJ))) fun ho181=>eP 8 rfl rfl ho181 rfl rfl rfl<|dtN<|aM<|qkFld rfl<|qkLd 8 rfl<|qkMove rfl<|aF (bU (e:=gK) ([(cD .u32 r165 a21.1)]) [(0,vU (cD .u32 r165 a21.1))] rfl rfl rfl rfl (iJ (vU (cD .u32 r165 a21.1)) rfl) rfl rfl rfl) rfl fun u182=>ckE h fun j184 h=>aF (dW 4 fJ rfl rfl rfl (aO (aB.res 0 rfl) fJ) rfl rfl rfl rfl j184 rfl) rfl fun u183=>qkFld rfl<|bM (Know.one ((aO (aB.res 4 rfl) fJ))) fun ho185=>eP 9 rfl rfl ho185 rfl rfl rfl<|dN<|inT<|aM<|qkAdd rfl<|qkMove rfl<|dtN ?_
     exact kZ ((cD .u32 r165 a21.1),(a150.2.1++([(cD .u32 r165 a21.1)])),(wI .i64 (a150.2.2.1+(1:Int))),r168.1.1,r168.1.2.1,r168.1.2.2.1,r168.1.2.2.2.1,r168.1.2.2.2.2,r162,(a150.2.2.2.2.2.2.2.2.2.1++[a155]),(a150.2.2.2.2.2.2.2.2.2.2.1++([(r168.1.1,r168.1.2.1,r168.1.2.2.1,r168.1.2.2.2.1,r168.1.2.2.2.2)])),a176) (x164.1,x164.2,u179,u183,b177.1,b177.2.1,b177.2.2.1,b177.2.2.2) h SF (aR.ix [4,5,6,7,8,2,3,9,10,11,12,13,14,15,16,17,18,19,20,21,22,23,24] rfl rfl) (aD.refl _ _)
    refine fM ?_
    exact bT (a150.2.1,a150.2.2.2.1,a150.2.2.2.2.1,a150.2.2.2.2.2.1,a150.2.2.2.2.2.2.1,a150.2.2.2.2.2.2.2.1,a150.2.2.2.2.2.2.2.2.1,a150.2.2.2.2.2.2.2.2.2.1,a150.2.2.2.2.2.2.2.2.2.2.1,a150.2.2.2.2.2.2.2.2.2.2.2) (b151.1,b151.2.1,b151.2.2.1,b151.2.2.2.1,b151.2.2.2.2.1,b151.2.2.2.2.2.1,b151.2.2.2.2.2.2.1,b151.2.2.2.2.2.2.2) h SF (aR.ix [0,1,2,3,4,5,6,7,8,10,20,21,22] rfl rfl) (aD.refl _ _)
   intro a121 b122 h
   unfold vH at h
   refine aG ?_
   refine JR.start [0,0,1,5,15,31] 4 mixedOrders (by decide +kernel) ?_
   refine JR.open (by exact rfl) ?_
   refine jkMove rfl<|jkLdA 4 rfl<|jkFld rfl<|cB (Know.one (aB.sl (aV (i:=5) (j:=6) rfl rfl cC))) fun ho124=>sQ rfl rfl rfl (Gh 7 rfl rfl ho124 rfl rfl rfl) (fun x123=>(mW [([4],[])] rfl)) fun x123=>bD 4 rfl rfl<|qkFld rfl<|Kz (B_ 7 (us:=[vI (a121.2.1),vI (a121.2.2.1),vI (a121.2.2.2.1),vI (a121.2.2.2.2.1),vU (a121.2.2.2.2.2.1)]) rfl rfl rfl rfl rfl rfl rfl rfl rfl) fun x125=>dtN<|sqR<|qkLdA 7 rfl<|bM (Know.one ((aO (aB.res 12 rfl) fJ))) fun ho126=>bM (Know.one ((aO (aB.res 0 rfl) fJ))) fun ho127=>bM (Know.one (aB.sl (aV (i:=5) (j:=6) rfl rfl cC))) fun ho128=>bE 8 (vs:=[b122.2.2.1,b122.2.2.2.1,b122.1,vI (a121.2.1),vI (a121.2.2.1),vI (a121.2.2.2.1),vI (a121.2.2.2.2.1),vU (a121.2.2.2.2.2.1)]) rfl rfl (bY ho126 (bY ho127 (bY ho128 (bY rfl (bY rfl (bY rfl (bY rfl (bY rfl rfl)))))))) rfl rfl rfl<|qkAsg rfl<|dtN<|aQ ?_
   exact oL (a121.2.2.2.2.2.2.2.2.1,a121.2.2.2.2.2.2.2.2.2,a121.2.2.2.2.2.2.2.1,a121.1,a121.2.2.2.2.2.2.1,a121.2.1,a121.2.2.1,a121.2.2.2.1,a121.2.2.2.2.1,a121.2.2.2.2.2.1,(0:Int)) (b122.2.2.2.2.1,b122.2.2.2.2.2.1,b122.2.2.2.2.2.2.1,b122.2.2.2.2.2.2.2,b122.2.2.1,b122.2.2.2.1,b122.1,b122.2.1) h (.inl rfl) (Df.r2 rfl (RV.cell 8 rfl rfl rfl rfl) (RV.tmp rfl)) rfl (aR.ix [1,2,3,9,10,11,12,0,5,6] rfl rfl) (aD.refl _ _)
  intro a74 b75 h
  unfold yQ at h
  refine qkExt rfl<|qkExt rfl<|bM (Know.one ((aO (aB.res 6 rfl) fJ))) fun ho76=>bM (Know.one ((aO (aB.res 7 rfl) fJ))) fun ho77=>bM (Know.one (aB.sl (aV (i:=8) (j:=9) rfl rfl cC))) fun ho78=>bE 3 (vs:=[b75.2.2.2.2.1,b75.2.2.2.2.2.1,b75.2.2.2.2.2.2.1,vI (a74.2.2.2.2.2.1),vI (a74.2.2.2.2.2.2.1),vI (a74.2.2.2.2.2.2.2.1),vI (a74.2.2.2.2.2.2.2.2.1),vU (a74.2.2.2.2.2.2.2.2.2.1)]) rfl rfl (bY ho76 (bY ho77 (bY ho78 (bY rfl (bY rfl (bY rfl (bY rfl (bY rfl rfl)))))))) rfl rfl rfl<|qkAsg rfl<|dtN<|aQ ?_
  exact oL (a74.2.2.2.2.2.1,a74.2.2.2.2.2.2.1,a74.2.2.2.2.2.2.2.1,a74.2.2.2.2.2.2.2.2.1,a74.2.2.2.2.2.2.2.2.2.1,a74.2.2.2.2.2.2.2.2.2.2,a74.2.2.1,a74.2.2.2.1,a74.2.2.2.2.1,a74.1,a74.2.1) (b75.2.2.2.2.1,b75.2.2.2.2.2.1,b75.2.2.2.2.2.2.1,b75.1,b75.2.1,b75.2.2.2.2.2.2.2,b75.2.2.1,b75.2.2.2.1) h (.inl rfl) (Df.r2 rfl (RV.cell 3 rfl rfl rfl rfl) (RV.tmp rfl)) rfl (aR.ix [0,1,2,4,5,6,7,8,9] rfl rfl) (aD.refl _ _)
 intro a44 b45 h
 refine qkMove rfl<|qkExt rfl<|qkExt rfl<|aF (aI.alloc (cs:=zS) rfl rfl) rfl fun b46=>bM (Know.one ((aO (aB.res 6 rfl) fJ))) fun ho47=>bM (Know.one ((aO (aB.res 7 rfl) fJ))) fun ho48=>bM (Know.one (aB.sl (aV (i:=8) (j:=9) rfl rfl cC))) fun ho49=>bE 0 (vs:=[b45.1,b45.2.1,b45.2.2.1,vI (a44.1),vI (a44.2.1),vI (a44.2.2.1),vI (a44.2.2.2.1),vU (a44.2.2.2.2.1)]) rfl rfl (bY ho47 (bY ho48 (bY ho49 (bY rfl (bY rfl (bY rfl (bY rfl (bY rfl rfl)))))))) rfl rfl rfl<|qkAsg rfl<|dtN<|sqR<|qkMove rfl<|qkNeq rfl<|dtN ?_
 refine eT h rfl (fun h=>?_) fun h=>?_
 ·refine sqR<|qkMove rfl<|qkAsg rfl<|qkAsg rfl<|qkAsg rfl<|dtN<|aQ<|aJ<|eQ (dH cE.raw) (eQ (yW bO) ?_)
  refine eQ (dH cH) ?_
  cases h
  exact GY ((gM),([]:eV),([]:List (List Value)),(gM)) rfl rfl (RV.tmp rfl) (RV.tmp rfl) (RV.tmp rfl) (aR.ix [2,1,0] rfl rfl) aD.nil
 refine cJ<|aG ?_
 refine JR.start [0,0,1,7,15] 3 mixedOrders (by decide +kernel) ?_
 refine JR.open (by exact rfl) ?_
 refine jkLd 5 rfl<|jkLd 4 rfl<|jqN rfl (iV rfl)<|bD 3 rfl rfl<|qkAsg rfl<|qkAsg rfl<|dtN<|aQ ?_
 cases h
 exact GY (b45.2.2.2.2.1,b45.2.2.2.2.2.2.1,b45.2.2.2.2.2.2.2,b45.2.2.2.1) rfl rfl (RV.tmp rfl) (RV.tmp rfl) (RV.tmp rfl) (aR.ix [3,2,1] rfl rfl) aD.nil
end Go.Proofs.YtjlbcgddhnjcjaaGreatDoor
end
section
namespace Go.Proofs.YtjlbcgddhnjcjaaGreatDoor
open Go Go.Sx
section
theorem R_ {g:GR} (hV:VG g) (p:vZ) (kind:Int) (c:aT) (ws:aL):
  bJ (nX 1000 p g kind c ws) 1000 ((0:Int),(0:Int),(List.replicate (Int.toNat (List.length g.2:Int)) ([]:aL)))=sY 1000 p g kind c ws (gQ g g.2.length,eO g):=by
 have h24:=hV.n24
 have hlen:=hV.len
 let f:Nat->aL:=fun v=>(List.range (row g v).length).map (HQ g v)
 let Q:Nat->aT:=fun k=>(List.range k).map f++List.replicate (g.2.length - k) []
 have hQ:∀k,k<=g.2.length->(Q k).length=g.2.length:=fun k hk=>by simp[Q];omega
 rw[show List.replicate (Int.toNat (List.length g.2:Int)) ([]:aL)=Q 0 by simp[Q]]
 refine dV (step:=nX 1000 p g kind c ws) g.2.length (fun k=>((k:Int),gQ g k,Q k)) (fun k ag hk=> ?_) (fun ag=> ?_) 1000 (by omega)
 ·have hdeg:=(hV.node k hk).deg
  have hq:k<(Q k).length:=by rw[hQ k (by omega)];exact hk
  unfold nX
  dsimp only
  rw[if_pos (by omega),cP (by omega),cP (by omega)]
  let Rw:Nat->aL:=fun j=>(List.range j).map (HQ g k)
  have e0:Q k=(Q k).set k (Rw 0):=by
   have:at' (Q k) (k:Int)=Rw 0:=by
    rw[kF hq];simp[Q,Rw]
   rw[<-this]
   exact(Ef (Q k) (k:Int) (by simpa using hq) (by omega)).symm
  rw[show(Q k)=(Q k).set k (Rw 0)from e0]
  have hgen:∀A:aT,A.length=g.2.length->bJ (sA 1000 g ((k:Int),gQ g k,(Q k).set k (Rw 0)) ag) 1000 ((0:Int),A.set k (Rw 0))=ag (((k+1:Nat):Int),gQ g (k+1),A.set k (f k)):=by
   intro A hA
   refine dV (step:=sA 1000 g ((k:Int),gQ g k,(Q k).set k (Rw 0)) ag) (K:=ag (((k+1:Nat):Int),gQ g (k+1),A.set k (f k))) (row g k).length (fun j=>((j:Int),A.set k (Rw j))) (fun j ag2 hj=> ?_) (fun ag2=> ?_) 1000 (by omega)
   ·obtain⟨u,hu,hue⟩:=hV.to hk hj
    have hdu:=(hV.node u hu).deg
    have a1:at' (A.set k (Rw j)) (k:Int)=Rw j:=by rw[sL _ _ _ _ (by omega),if_pos rfl]
    have hRl:(Rw j).length=j:=by simp[Rw]
    unfold sA
    dsimp only
    rw[if_pos (show(j:Int)<((row g k).length:Int) by omega),cP (show 0<=(j:Int)∧(j:Int)<((row g k).length:Int) by omega),cP (by simp only[List.length_set];omega),show at' (at' g.2 (k:Int)) (j:Int)=jJ (row g k) j from rfl,hue,bA (show mG 1000 _ (u:Int) (k:Int)=_ from Kc g u (k:Int) hu (by omega)),a1,cP (by rw[hRl];simp;omega),cP (by simp only[List.length_set];omega),dO (by omega),Int.toNat_natCast,List.set_set]
    have:Rw j++[zD (row g u) (k:Int)]=Rw (j+1):=by
     simp only[Rw];rw[List.range_succ,List.map_append,List.map_singleton,HQ,hue,Int.toNat_natCast]
    rw[this]
   ·unfold sA xC
    dsimp only
    rw[if_neg (show¬((row g k).length:Int)<((row g k).length:Int)from Int.lt_irrefl _),dO (by omega)]
    rfl
  have:=hgen (Q k) (hQ k (by omega))
  rw[sT f [] g.2.length k hk]at this
  exact this
 ·unfold nX
  dsimp only
  rw[if_neg (by omega)]
  simp[Q,eO,f]
noncomputable def GG (p:vZ) (vars:List Dg) (R:List RL) (g:GR) (kind:Int) (ws:aL) (a:aT):Nat->CT
 |0=>(0,0,0,0,cD .u32 ((mV (bH p g) R (dC g) a:Nat):Int) 16777215)
 |k+1=>((gW 1000 (GG p vars R g kind ws a k) ((Yo g kind (mV (bH p g) R (dC g) (pG p vars R g kind ws a k)) (at' ws (k:Int)):Nat):Int) ((mV (bH p g) R (dC g) (pG p vars R g kind ws a (k+1)):Nat):Int)).getD ((0,0,0,0,0),0)).1
theorem Zq (p p':vZ) (vars:List Dg) (R:List RL) (g:GR) (kind:Int) (ws:aL) (a:aT) (k:Nat):GG p vars R g kind ws a k=GG p' vars R g kind ws a k:=by
 induction k with
 |zero=>rfl
 |succ k b=>rw[GG,GG,b,Ct p p',Ct p p' vars R g kind ws a (k+1),Gn p p',Gn p p']
section
variable {p:vZ} {g:GR} {R:List RL}
theorem VI (hV:VG g) (hp:Bc g p.2.1) (hz:p.2.2.map uX=Bi R) (hR:wO p.2.1.length R=true) {kind:Int} (hk1:1<=kind) (hk4:kind<=4) {c0:List (List Int)} (hc0:G_ g c0 p.2.1) {ws:List Int} (hws:ws.length<=900) (hw:∀k:Nat,k<ws.length->∃m:Nat,at' ws (k:Int)=(m:Int)∧m<4294967296)
  (P:Nat->List (List Int)->List Nat->CT->Prop) (h0:P 0 c0 [] (0,0,0,0,cD .u32 ((mV (bH p g) R (dC g) c0:Nat):Int) 16777215))
  (hstep:∀k c ch cnt t cnt' err,k<ws.length->pK g p.2.1.length c->P k c ch cnt->mV (bH p g) R (dC g) c≠0->t≠0->(∀i,t.testBit i=true->(mV (bH p g) R (dC g) c).testBit i=true)->(kind<=2->∀v u,t.testBit v=true->t.testBit u=true->¬El g v u)->(kind=4->t=mV (bH p g) R (dC g) c)->pG p p.2.1 R g kind ws c0 (k+1)=gJ (bH p g) p.2.1 R c t->
   gW 1000 cnt (t:Int) ((mV (bH p g) R (dC g) (gJ (bH p g) p.2.1 R c t):Nat):Int)=some (cnt',err)->P (k+1) (gJ (bH p g) p.2.1 R c t) (ch++[t]) cnt'):
  ∃k c ch,uM 1000 p g kind c0 ws=some ((List.range (k+1)).map (pG p p.2.1 R g kind ws c0),(List.range (k+1)).map (GG p p.2.1 R g kind ws c0),0)∧P k c ch (GG p p.2.1 R g kind ws c0 k)∧c=pG p p.2.1 R g kind ws c0 k∧k<=ws.length∧(∀j,j<k->mV (bH p g) R (dC g) (pG p p.2.1 R g kind ws c0 j)≠0)∧(k=ws.length∨mV (bH p g) R (dC g) c=0):=by
 have h24:=hV.n24
 have hvl:=hp.len
 let S:=bH p g
 have hVS:VG S.2.1:=hV
 obtain⟨net,hnet,hN⟩:=UE hV
 have hcheck:nV 1000 p g kind c0 (ws.length:Int)=some 0:=by
  unfold nV
  rw[bA (show pB 1000 _ _ c0=_ from MC hV hp hc0),if_neg (by decide)]
  have:o_ 1000 kind=some true:=by
   unfold o_ m_
   rw[if_pos hk1,decide_eq_true hk4]
  rw[bA this,if_neg (by decide),if_neg (by omega)]
 unfold uM
 rw[bA (show nV 1000 _ _ kind c0 _=_ from hcheck),if_neg (by decide),cP (by omega),R_ hV p kind c0 ws]
 unfold sY yS
 rw[bA (show jB 1000 _ _=_ from IZ hV hp)]
 unfold yR
 rw[bA (show g_ 1000 _=_ from hnet),bA (show rC 1000 _=some ((dC g:Nat):Int)from Td hV)]
 have hen:∀c,pK g p.2.1.length c->bW 1000 (p,(p,g,gQ g g.2.length,eO g),zQ g p.2.1) c=some ((Yh S R c:Nat):Int):=fun c hc=>Ie hV hc hz hR (by simp[zQ])
 have hand:∀c,cD .u32 ((Yh S R c:Nat):Int) ((dC g:Nat):Int)=((mV S R (dC g) c:Nat):Int):=fun c=>Gk (TQ hVS R c) (Pw hV)
 have hcopy:∀c,pK g p.2.1.length c->kB 1000 c=some c:=fun c hc=>KY c (by rw[hc.len];omega) (fun v hv=>by rw[hc.row v (by rw[<-hc.len];exact hv)];omega)
 unfold Bu
 dsimp only
 rw[bA (hcopy c0 hc0.shape),bA (show bW 1000 _ c0=_ from hen c0 hc0.shape),hand,bA (show nD 1000 _=some (0,0,0,0,cD .u32 ((mV S R (dC g) c0:Nat):Int) 16777215)from rfl),bA (hcopy c0 hc0.shape),cP (by simp),cP (by simp)]
 unfold Bv
 dsimp only
 rw[hand,cP (by simp),List.nil_append,List.nil_append,List.nil_append,List.nil_append]
 let A:Int×List Int×(List (List (Int×Int)))×Int×List (List Int):=(((dC g:Nat):Int),net,zQ g p.2.1,gQ g g.2.length,eO g)
 let rc:=pG p p.2.1 R g kind ws c0
 let cw:=GG p p.2.1 R g kind ws c0
 let T:=List (List (List Int))×List CT×Int
 let QQ:T->Prop:=fun r=>∃k c ch,r=((List.range (k+1)).map rc,(List.range (k+1)).map cw,0)∧P k c ch (cw k)∧c=rc k∧k<=ws.length∧(∀j,j<k->mV S R (dC g) (rc j)≠0)∧(k=ws.length∨mV S R (dC g) c=0)
 have fin:∀(k:Nat) (c:List (List Int)) (ch:List Nat) (ens:List Int),P k c ch (cw k)->c=rc k->k<=ws.length->(∀j,j<k->mV S R (dC g) (rc j)≠0)->(k=ws.length∨mV S R (dC g) c=0)->
   OK QQ (vH (ens,(cw k).1,(cw k).2.1,(cw k).2.2.1,(cw k).2.2.2.1,(cw k).2.2.2.2,c,As ch,(List.range (k+1)).map cw,(List.range (k+1)).map rc)):=fun k c ch ens a1 a2 a3 a6 a7=>⟨_,rfl,k,c,ch,rfl,a1,a2,a3,a6,a7⟩
 have key:=wW (step:=r_ 1000 p g kind ws A) (Q:=QQ)
  (fun x=>∃(k:Nat) (c:List (List Int)) (ch:List Nat) (ens:List Int),x=(((mV S R (dC g) c:Nat):Int),ens,(k:Int),(cw k).1,(cw k).2.1,(cw k).2.2.1,(cw k).2.2.2.1,(cw k).2.2.2.2,c,As ch,(List.range (k+1)).map cw,(List.range (k+1)).map rc)∧P k c ch (cw k)∧pK g p.2.1.length c∧c=rc k∧k<=ws.length∧ch.length=k∧ens.length=k+1∧∀j,j<k->mV S R (dC g) (rc j)≠0) (fun x=>ws.length - x.2.2.1.toNat) (fun x ag hI hrec=>by
  obtain⟨k,c,ch,ens,rfl,b1,b2,b3,b4,b5,b6,b9⟩:=hI
  unfold r_
  dsimp only
  by_cases hlt:k<ws.length
  rotate_left
  ·rw[if_neg (by omega)]
   exact fin k c ch ens b1 b3 b4 b9 (.inl (by omega))
  obtain⟨w,hwe,hw32⟩:=hw k hlt
  have hin:Pp g (mV S R (dC g) c):=TR S R (dC g) c
  obtain⟨t,ht,hsub,hne⟩:=II hV hN hk1 hk4 hin hw32
  rw[if_pos (by omega),cP (by omega),hwe,bA (show cO 1000 net kind _ _=_ from ht)]
  unfold Bw
  dsimp only
  by_cases he0:mV S R (dC g) c=0
  ·rw[if_pos (by omega)]
   exact fin k c ch ens b1 b3 b4 b9 (.inr he0)
  obtain⟨ht0,hperm,hk2,hk4'⟩:=hne he0
  have ht32:t<4294967296:=by have:=Pp.lt hV (fun i hi=>hin i (hsub i hi));omega
  rw[if_neg (by omega),bA (show dL 1000 net kind _ _=_ from hperm),if_neg (by decide)]
  have hst:eJ 1000 (p,(p,g,gQ g g.2.length,eO g),zQ g p.2.1) c (t:Int)=some (gJ S p.2.1 R c t):=QC (gr:=gQ g g.2.length) hV hp b2 hz hR ht32 (fun v hv=>((yL S R (dC g) c v).1 (hsub v hv)).2.1)
  have hsh:pK g p.2.1.length (gJ S p.2.1 R c t):=b2.step
  obtain⟨⟨cnt',err⟩,hadd⟩:=Mt (cw k) ht32 ((mV S R (dC g) (gJ S p.2.1 R c t):Nat):Int)
  rw[bA (show eJ 1000 _ c (t:Int)=_ from hst),bA (show bW 1000 _ _=_ from hen _ hsh),hand,bA (show gW 1000 _ (t:Int) _=_ from hadd),bA (hcopy _ hsh),cP (by simp;omega),cP (by simp;omega)]
  unfold By
  dsimp only
  rw[hand,cP (by simp[As];omega),cP (by simp;omega),dO (by omega)]
  have en:Yo g kind (mV S R (dC g) (rc k)) (at' ws (k:Int))=t:=by
   unfold Yo
   rw[bA hnet,hwe,<-b3,ht];simp
  have hr:rc (k+1)=gJ S p.2.1 R c t:=by
   show gJ S p.2.1 R (rc k) (Yo g kind (mV S R (dC g) (rc k)) (at' ws (k:Int)))=_
   rw[en,<-b3]
  obtain rfl:cnt'=cw (k+1):=by
   show cnt'=((gW 1000 (cw k) ((Yo g kind (mV S R (dC g) (rc k)) (at' ws (k:Int)):Nat):Int) ((mV S R (dC g) (rc (k+1)):Nat):Int)).getD ((0,0,0,0,0),0)).1
   rw[en,hr,hadd];rfl
  refine hrec _ ⟨k+1,gJ S p.2.1 R c t,ch++[t],ens++[((mV S R (dC g) (gJ S p.2.1 R c t):Nat):Int)],?_,hstep k c ch (cw k) t (cw (k+1)) err hlt b2 b1 he0 ht0 hsub hk2 hk4' hr hadd,hsh,hr.symm,by omega,by simp[b5],by simp[b6],fun j hj=> ?_⟩ (by dsimp only;omega)
  ·rw[List.nil_append,List.range_succ (n:=k+1),List.map_append,List.map_singleton,List.map_append,List.map_singleton,hr]
   simp[As]
  ·by_cases e:j<k
   ·exact b9 j e
   ·obtain rfl:j=k:=by omega
    rw[<-b3];exact he0) 1000 (((mV S R (dC g) c0:Nat):Int),[((mV S R (dC g) c0:Nat):Int)],(0:Int),0,0,0,0,cD .u32 ((mV S R (dC g) c0:Nat):Int) 16777215,c0,[],[(0,0,0,0,cD .u32 ((mV S R (dC g) c0:Nat):Int) 16777215)],[c0])
  ⟨0,c0,[],[((mV S R (dC g) c0:Nat):Int)],rfl,h0,hc0.shape,rfl,by omega,rfl,rfl,fun j hj=>by omega⟩ (by dsimp only;omega)
 obtain⟨r,hr,k,c,ch,rfl,hrest⟩:=key
 exact⟨k,c,ch,hr,hrest⟩
end
theorem Vb {p p':vZ} {g:GR} {R:List RL} {vars:List Dg} {kind:Int} {ws:List Int} {b:List (List Int)} {k a:Nat}
  (l:k<=ws.length) (f:k=ws.length∨mV (bH p g) R (dC g) (pG p vars R g kind ws b k)=0) (h:∀j,j<k->mV (bH p g) R (dC g) (pG p vars R g kind ws b j)≠0)
  (i:a<=ws.length) (c:a=ws.length∨mV (bH p' g) R (dC g) (pG p' vars R g kind ws b a)=0) (d:∀j,j<a->mV (bH p' g) R (dC g) (pG p' vars R g kind ws b j)≠0):k=a:=by
 rcases Nat.lt_trichotomy k a with q|q|q
 ·have:=d k q
  rw[Ct p' p,Gn p' p]at this
  rcases f with e|e
  ·omega
  ·exact absurd e this
 ·exact q
 ·have:=h a q
  rw[Ct p p',Gn p p']at this
  rcases c with e|e
  ·omega
  ·exact absurd e this
end
section
def guL:E:= .bi 41 (.lf 5 0) (.ag 21 (.lf 12 0))
def guE:E:= .bi 41 (.un 19 (.lf 5 0)) (.un 19 (.ag 21 (.lf 12 0)))
def RM:List RL:=[(guL,[(0,.lf 3 0)]),(guE,[(0,.lf 2 0)])]
def VP (g:GR) (c:aT) (v:Nat):Prop:=∃i,i<(row g v).length∧xZ g c v i≠0
section
variable {p:vZ} {g:GR} {c:List (List Int)} {v:Nat}
theorem ZF:uK (bH p g) c v guL=Fz (decide (yU c v≠0)&&decide (Fz (((List.range (row g v).length).map fun q=>xZ g c v q).any nz)≠0)):=rfl
theorem ZE:uK (bH p g) c v guE=Fz (decide (Fz (decide (yU c v=0))≠0)&&decide (Fz (decide (Fz (((List.range (row g v).length).map fun q=>xZ g c v q).any nz)=0))≠0)):=rfl
theorem HO (b:Bool):Fz b≠0↔b=true:=by cases b<;>simp[Fz]
theorem aaT (b:Bool):Fz b=0↔b=false:=by cases b<;>simp[Fz]
theorem Te:((List.range (row g v).length).map fun q=>xZ g c v q).any nz=true↔VP g c v:=by
 unfold VP
 rw[List.any_eq_true]
 constructor
 ·rintro⟨x,d,b⟩
  obtain⟨i,a,rfl⟩:=List.mem_map.1 d
  exact⟨i,List.mem_range.1 a,by simpa [nz]using b⟩
 ·rintro⟨i,a,b⟩
  exact⟨_,List.mem_map.2 ⟨i,List.mem_range.2 a,rfl⟩,by simpa [nz]using b⟩
theorem Wm:((List.range (row g v).length).map fun q=>xZ g c v q).any nz=false↔¬VP g c v:=by
 rw[<-Te];simp
theorem Xq:uK (bH p g) c v guL≠0↔yU c v≠0∧VP g c v:=by
 rw[ZF,HO,Bool.and_eq_true,decide_eq_true_eq,decide_eq_true_eq,HO,Te]
theorem Xp:uK (bH p g) c v guE≠0↔yU c v=0∧¬VP g c v:=by
 rw[ZE,HO,Bool.and_eq_true,decide_eq_true_eq,decide_eq_true_eq,HO,HO,decide_eq_true_eq,decide_eq_true_eq,aaT,Wm]
theorem U_ (h:0<=sF (bH p g) RM c v):(sF (bH p g) RM c v=0∧yU c v≠0∧VP g c v)∨(sF (bH p g) RM c v=1∧yU c v=0∧¬VP g c v):=by
 obtain⟨i,b,a,d⟩:=(Cs (bH p g) RM c v).resolve_left (fun e=>by omega)
 have a:i<2:=a
 match i,a with
 |0,_=>exact .inl ⟨b,Xq.1 d⟩
 |1,_=>exact .inr ⟨b,Xp.1 d⟩
theorem abv (a:(at' c (v:Int)).length=1):at' (yC (bH p g) GU RM c v 0) 0=0:=by
 have e:yC (bH p g) GU RM c v 0=(at' c (v:Int)).set 0 0:=rfl
 rw[e]
 have:=sL (at' c (v:Int)) 0 0 (0:Int) (by omega)
 rw[if_pos rfl]at this
 exact this
theorem abw (a:(at' c (v:Int)).length=1):at' (yC (bH p g) GU RM c v 1) 0=1:=by
 have e:yC (bH p g) GU RM c v 1=(at' c (v:Int)).set 0 1:=rfl
 rw[e]
 have:=sL (at' c (v:Int)) 0 0 (1:Int) (by omega)
 rw[if_pos rfl]at this
 exact this
end
end
section
def StM (g:GR) (c:aT) (v:Nat):Prop:=yU c v≠0∧¬VP g c v
def abV (g:GR) (a d:aT) (v:Nat):Prop:=yU d v=yU a v∧∀u,El g v u->yU d u=yU a u
section
variable {p:vZ} {g:GR} {c:List (List Int)} {lv t:Nat}
theorem Se (l:G_ g c GU) (h:∀i,t.testBit i=true->(mV (bH p g) RM lv c).testBit i=true):
  (∀v,t.testBit v=true->v<g.2.length∧((yU c v≠0∧VP g c v∧yU (gJ (bH p g) GU RM c t) v=0)∨(yU c v=0∧¬VP g c v∧yU (gJ (bH p g) GU RM c t) v=1)))∧∀v,v<g.2.length->t.testBit v=false->yU (gJ (bH p g) GU RM c t) v=yU c v:=by
 have k:=l.len
 have f:∀v,v<g.2.length->at' (gJ (bH p g) GU RM c t) (v:Int)=if t.testBit v=true then yC (bH p g) GU RM c v (sF (bH p g) RM c v)else at' c (v:Int):=fun v d=>Fb (by rw[k];exact d)
 refine⟨fun v d=> ?_,fun v d n=> ?_⟩
 ·obtain⟨j,m,_⟩:=(yL (bH p g) RM lv c v).1 (h v d)
  refine⟨j,?_⟩
  unfold yU
  rw[f v j,if_pos d]
  rcases U_ m with⟨e,a,b⟩|⟨e,a,b⟩
  ·rw[e];exact .inl ⟨a,b,abv (l.row v j)⟩
  ·rw[e];exact .inr ⟨a,b,abw (l.row v j)⟩
 ·unfold yU
  rw[f v d,if_neg (by rw[n];decide)]
variable (hV:VG g) (hr:G_ g c GU) (hsub:∀i,t.testBit i=true->(mV (bH p g) RM lv c).testBit i=true)
 include hV hr hsub
theorem enterM (b:∀v u,t.testBit v=true->t.testBit u=true->¬El g v u) {v:Nat} (j:t.testBit v=true) (h:yU c v=0):StM g (gJ (bH p g) GU RM c t) v:=by
 obtain⟨n,m⟩:=Se hr hsub
 obtain⟨w,q⟩:=n v j
 rcases q with⟨q,_⟩|⟨_,o,e⟩
 ·exact absurd h q
 ·refine⟨by rw[e];decide,?_⟩
  rintro⟨i,l,k⟩
  obtain⟨u,s,d,a⟩:=hV.port w l
  have f:t.testBit u=false:=by
   cases r:t.testBit u with
   |false=>rfl
   |true=>exact absurd a (b v u j r)
  rw[qQ d,m u s f]at k
  exact o ⟨i,l,by rw[qQ d];exact k⟩
end
end
section
section
variable {g:GR} {cl d:List (List Int)} {S v:Nat}
theorem ZB (j:VG g) (l:∀u,u<g.2.length->(S.testBit u=true↔yU d u≠yU cl u)) (f:v<g.2.length) (h:¬Jf g S 1 v):abV g cl d v:=by
 have c:∀u,u<g.2.length->S.testBit u≠true->yU d u=yU cl u:=fun u n q=>Decidable.not_not.1 fun e=>q ((l u n).2 e)
 refine⟨c v f fun q=>h ((JE j).2 (.inl (JF.2 ⟨q,f⟩))),fun u a=> ?_⟩
 obtain⟨i,m,o⟩:=id a
 obtain⟨p,b,k,_⟩:=j.port f m
 have:u=p:=by omega
 subst this
 exact c u b fun q=>h ((JE j).2 (.inr ⟨f,u,a,JF.2 ⟨q,b⟩⟩))
end
end
end Go.Proofs.YtjlbcgddhnjcjaaGreatDoor
end
section
namespace Go.Proofs.YtjlbcgddhnjcjaaGreatDoor
open Go.Sx
section
def tR  (a:aT):Option aT:=
 some (a)
def p_ (a:aT×Int) (c:(aT×Int)->Option aT) (b:aL):Option aT:=
 ck ((List.length a.1:Int)+(List.length ([b]):Int)<=1099511627) (c ((a.1++[b]),(wI .i64 (a.2+(1:Int)))))
def kW (U:Nat) (p0:aT) (p2:aL) (p3:Int) (a:aT×Int) (b:(aT×Int)->Option aT) (c:Bool):Option aT:=
 if c=true then(ck (0<=a.2∧a.2<(List.length p2:Int)) (Option.bind (eZ U (at' p2 a.2) p3) fun d=>(ck (0<=(0:Int)∧(0:Int)<(List.length (([]:aL)++(at' p0 a.2)):Int)) (p_ a b (List.set (([]:aL)++(at' p0 a.2)) (Int.toNat (0:Int)) d)))))else(p_ a b (([]:aL)++(at' p0 a.2)))
def kX (U:Nat) (p0:aT) (p1:Int) (p2:aL) (p3:Int) (a:aT×Int) (b:(aT×Int)->Option aT):Option aT:=
 if a.2<(List.length p0:Int)then(ck (0<=a.2∧a.2<(List.length p0:Int)) (ck ((List.length ([]:aL):Int)+(List.length (at' p0 a.2):Int)<=1099511627) (Option.bind (Ae U p1 a.2) fun c=>(if c=true then(if a.2<(List.length p2:Int)then(kW U p0 p2 p3 a b (decide ((List.length (([]:aL)++(at' p0 a.2)):Int)=(1:Int))))else(kW U p0 p2 p3 a b (false)))else(kW U p0 p2 p3 a b (false))))))else(tR  (a.1))
def pA (U:Nat) (p0:aT) (p1:Int) (p2:aL) (p3:Int):Option aT:=
 bJ (kX U p0 p1 p2 p3) U (([]:aT),(0:Int))
theorem YV:aP Tryz.prog 28:=Tryz.call28
theorem IR (U:Nat) {p0:aT} {p1:Int} {p2:aL} {p3:Int} (v0:Value)  (z1:oC)  (v2:Value) (r:aT) (h:pA U p0 p1 p2 p3=some r):
  aU Tryz.prog 28 #[v0,vU (p1),v2,vI (p3)] [S2 bI v0 z1 p0,Sl bI v2 p2] (fun x:CG=>x.1) (fun x l=>Ar cE.raw x.1 x.2::fT bO x.2 r::l) (fun _ l=>l):=by
 refine aU.of Tryz.func28 rfl Tryz.ntmps28 rfl fun c=>?_
 unfold pA at h
 refine sqR<|qkAsg rfl<|dtN<|sqR<|qkAsg rfl<|dtN<|aG<|midL (B:=CG) (fun a4=>tR  a4=some r) (fun a4 b5=>[(9,b5.1)]) (fun a4 b5=>[Ar cE.raw b5.1 b5.2,fT bO b5.2 a4]) ?_ ?_
 ·refine sqR<|qkAsg rfl<|dtN<|aN<|eQ (dH cE.raw) (eQ (pL bO) ?_)
  refine loopL (B:=CG) (kX U p0 p1 p2 p3) (fun a11 b12=>[(0,v0),(1,vU (p1)),(2,v2),(3,vI (p3)),(9,b12.1),(10,vI (a11.2))]) (fun a11 b12=>[Ar cE.raw b12.1 b12.2,fT bO b12.2 a11.1]) (([]:aT),(0:Int)) ((gM),([]:eV)) h SF (aR.ix [1,0] rfl rfl) ?_
  intro k13 a11 b12 h
  refine aG<|sqR<|qkMove rfl<|qkMove rfl<|aA (iW rfl (aB.fact 0 rfl) rfl) rfl<|qkLss rfl<|dtN ?_
  refine eT h rfl (fun h=>?_) fun h=>?_
  ·refine cJ<|aG<|aN<|sqR<|aF (bU (e:=bO) ([]:aL) [] rfl rfl rfl rfl ((fun i h=>by simp at h;subst h;rfl)) rfl rfl rfl) rfl fun u15=>qkMove rfl<|qkMove rfl<|ckE h fun j16 h=>aA (cY rfl rfl (aB.fact 0 rfl) rfl rfl j16) rfl<|aA (cW rfl (aB.fact 0 rfl) rfl rfl j16) rfl<|ckE h fun j18 h=>aF (dW 0 cC rfl rfl rfl (aB.el (aB.fact 0 rfl) j16.1 j16.2) rfl rfl rfl rfl j18 rfl) rfl fun u17=>qkAsg rfl<|dtN<|aG<|midU (fun a20=>p_ a11 (bJ (kX U p0 p1 p2 p3) k13) a20=some r) (fun a20 b21=>[(0,v0),(1,vU (p1)),(2,v2),(3,vI (p3)),(9,b12.1),(10,vI (a11.2)),(11,u17)]) (fun a20 b21=>[Ar bO u17 a20,Ar cE.raw b12.1 b12.2,fT bO b12.2 a11.1]) ?_ ?_
   ·refine aG<|midU (fun a29=>kW U p0 p2 p3 a11 (bJ (kX U p0 p1 p2 p3) k13) a29=some r) (fun a29 b30=>[(0,v0),(1,vU (p1)),(2,v2),(3,vI (p3)),(9,b12.1),(10,vI (a11.2)),(11,u17),(37,vB (a29))]) (fun a29 b30=>[Ar bO u17 (([]:aL)++(at' p0 a11.2)),Ar cE.raw b12.1 b12.2,fT bO b12.2 a11.1]) ?_ ?_
    ·refine aM<|qkMove rfl<|qkMove rfl<|bnE h fun r37 w38 h=>aF (aI.callQ YX (Nx U  r37 w38) rfl .nil) rfl fun x39=>qkMove rfl ?_
     refine zX (by exact rfl) (by exact rfl) (fun hp40=>?_) (fun hp40=>?_)
     ·have h:=JU hp40 h
      refine gyMove rfl<|gyMove rfl<|aS rfl (fR rfl (aB.fact 1 rfl) rfl) rfl<|aS rfl (Cg rfl rfl) rfl<|qkPkT rfl<|qkMove rfl ?_
      refine BS h rfl (fun _ h=>?_) fun _ h=>?_
      ·refine gyMove rfl<|aS rfl (fR rfl (aO (aB.res 0 rfl) cC) rfl) rfl<|aS rfl (Dr rfl rfl) rfl<|qkPkT rfl<|dtN ?_
       exact gR (decide ((List.length (([]:aL)++(at' p0 a11.2)):Int)=(1:Int))) () h SF rfl
      refine gdSkip rfl<|gdSkip rfl<|gdSkip rfl<|qkPkF rfl<|dtN ?_
      exact gR (false) () h SF rfl
     have h:=Io hp40 h
     refine gdSkip rfl<|gdSkip rfl<|gdSkip rfl<|gdSkip rfl<|qkPkF rfl<|qkMove rfl<|gdSkip rfl<|gdSkip rfl<|gdSkip rfl<|qkPkF rfl<|dtN ?_
     exact gR (false) () h SF rfl
    intro a29 b30 h
    refine AG h rfl (fun _ h=>?_) fun _ h=>?_
    ·refine aM<|qkMove rfl<|qkMove rfl<|qkMove rfl<|ckE h fun j32 h=>aA (a_ rfl rfl (aB.fact 1 rfl) rfl rfl j32) rfl<|aA (bV rfl (aB.fact 1 rfl) rfl rfl rfl eD j32) rfl<|qkMove rfl<|bnE h fun r33 w34 h=>aF (aI.callQ Bf (jC U  r33 w34) rfl .nil) rfl fun x35=>ckE h fun j36 h=>aA (a_ rfl rfl (aO (aB.res 0 rfl) cC) rfl rfl j36) rfl<|xH 0 r33 j36 rfl rfl rfl rfl rfl rfl rfl<|dtN ?_
     exact gR (List.set (([]:aL)++(at' p0 a11.2)) (Int.toNat (0:Int)) r33) () h SF rfl
    refine cJ ?_
    exact gR (([]:aL)++(at' p0 a11.2)) () h SF rfl
   intro a20 b21 h
   refine aM<|qkMove rfl<|qkMove rfl<|eQ (pL bO)<|bM (Know.one ((aO (aB.res 1 rfl) cC))) fun ho22=>eQ (HC 0 1 rfl rfl rfl) ?_
   refine aF (bU (e:=cE.raw) [u17] [(0,u17)] rfl rfl rfl rfl (iJ (u17) ho22) rfl rfl (by simp[cellsOf,cE.raw,ho22])) rfl fun u23=>?_
   refine bM (cQ 3 rfl) fun hl24=>bM (cQ 1 rfl) fun hl25=>ckE h fun j26 h=>eQ (Gi 3 1 rfl rfl rfl) ?_
   refine aF (aI.append 1 0 rfl rfl rfl rfl rfl rfl rfl (by have q:=j26;have q1:=hl24;have q2:=hl25;(try simp only[List.length_cons,List.length_nil]at q q1 q2 ⊢);omega) (by have q:=j26;have q1:=hl24;have q2:=hl25;(try simp only[List.length_cons,List.length_nil]at q q1 q2 ⊢);omega) rfl) rfl fun u27=>?_
   refine qkAsg rfl<|dN<|inT<|aM<|qkMove rfl<|qkAdd rfl<|qkAsg rfl<|dtN ?_
   exact kZ ((a11.1++[a20]),(wI .i64 (a11.2+(1:Int)))) (u27,(b12.2++[u17])) h SF (aR.ix [1,2] rfl rfl) (aD.refl _ _)
  refine fM ?_
  exact gR (a11.1) (b12.1,b12.2) h SF rfl
 intro a4 b5 h
 unfold tR at h
 refine sqR<|qkMove rfl<|qkAsg rfl<|dtN<|aQ ?_
 cases h
 exact gY (b5.1,b5.2) rfl rfl (RV.tmp rfl) (aR.refl _) aD.nil
end
section
def x_  (a:Unit):Option (Bool):=
 some (true)
def tW (p0:aL) (p1:aL) (a:Int) (b:(Int)->Option (Bool)):Option (Bool):=
 if a<(List.length p0:Int)then(ck (0<=a∧a<(List.length p0:Int)) (ck (0<=a∧a<(List.length p1:Int)) (if(at' p0 a)≠(at' p1 a)then(some (false))else(b (wI .i64 (a+(1:Int)))))))else(x_  (()))
def vE (U:Nat) (p0:aL) (p1:aL):Option (Bool):=
 if(List.length p0:Int)≠(List.length p1:Int)then(some (false))else(bJ (tW p0 p1) U (0:Int))
theorem Zb:aP Tryz.prog 58:=Tryz.call58
theorem IV (U:Nat) {p0:aL} {p1:aL} (v0:Value)  (v1:Value) (r:Bool) (h:vE U p0 p1=some r):
  aU Tryz.prog 58 #[v0,v1] [Sl bI v0 p0,Sl bI v1 p1] (fun x:Unit=>vB (r)) (fun x l=>l) (fun _ l=>l):=by
 refine aU.of Tryz.func58 rfl Tryz.ntmps58 rfl fun c=>?_
 refine sqR<|qkAsg rfl<|dtN<|aG<|sqR<|qkMove rfl<|qkLen (aB.fact 0 rfl) rfl<|qkMove rfl<|qkLen (aB.fact 1 rfl) rfl<|qkNeq rfl<|dtN ?_
 refine eT h rfl (fun h=>?_) fun h=>?_
 ·refine sqR<|qkAsg rfl<|dtN<|aQ<|aJ ?_
  cases h
  exact lC rfl
 refine cJ<|aG<|midU (fun a2=>x_  a2=some r) (fun a2 b3=>[]) (fun a2 b3=>[]) ?_ ?_
 ·refine sqR<|qkMove rfl<|qkLen (aB.fact 0 rfl) rfl<|qkMove rfl<|dtN<|aN<|loopL (tW p0 p1) (fun a6 b7=>[(0,v0),(1,v1),(12,vI (List.length p0:Int)),(13,vI (a6))]) (fun a6 b7=>[]) (0:Int) () h SF (aR.refl _) ?_
  intro k8 a6 b7 h
  refine sqR<|qkLss rfl<|dtN<|aG ?_
  refine eT h rfl (fun h=>?_) fun h=>?_
  ·refine cJ<|aG<|aN<|sqR<|qkMove rfl<|qkAsg rfl<|dtN<|aG ?_
   refine JR.start [0,0,3,7,0,0,48,112,255] 8 mixedOrders (by decide +kernel) ?_
   refine JR.open (by exact rfl) ?_
   refine jkMove rfl<|jkMove rfl<|ckE h fun j10 h=>bG rfl .nil (lX 0 rfl) (a_ rfl rfl (aB.fact 0 rfl) rfl rfl j10) aK.z<|bG rfl .nil (lX 0 rfl) (bV rfl (aB.fact 0 rfl) rfl rfl rfl eD j10) aK.z<|jkMove rfl<|jkMove rfl<|ckE h fun j11 h=>bG rfl .nil (lX 1 rfl) (a_ rfl rfl (aB.fact 0 rfl) rfl rfl j11) aK.z<|bG rfl .nil (lX 1 rfl) (bV rfl (aB.fact 0 rfl) rfl rfl rfl eD j11) aK.z<|bD 8 rfl rfl<|qkNeq rfl<|dtN ?_
   refine eT h rfl (fun h=>?_) fun h=>?_
   ·refine sqR<|qkAsg rfl<|dtN<|aQ<|bQ<|aJ<|aJ<|bQ<|aJ ?_
    cases h
    exact lC rfl
   refine dQ<|inT<|aM<|qkAdd rfl<|qkMove rfl<|dtN ?_
   exact yX (wI .i64 (a6+(1:Int))) () h SF rfl
  refine fM ?_
  exact gR () (()) h SF rfl
 intro a2 b3 h
 unfold x_ at h
 refine sqR<|qkAsg rfl<|dtN<|aQ ?_
 cases h
 exact lC rfl
end
section
def rX  (a:Int):Option (Int):=
 some (a)
def pE (c:eK) (b:d_->Option (Int)) (a:Int):Option (Int):=
 b (a,(wI .i64 (c.2+(1:Int))))
def lS (a:eK) (b:d_->Option (Int)) (c:Bool):Option (Int):=
 if c=true then(ck (0<=a.2) (pE a b (Em .u32 a.1 (xS .u32 (1:Int) a.2))))else(pE a b (a.1))
def lT (U:Nat) (p0:aT) (p1:aT) (a7:eK) (ag6:d_->Option (Int)):Option (Int):=
 if a7.2<(24:Int)then(if((decide (a7.2<(List.length p0:Int))) != (decide (a7.2<(List.length p1:Int))))=true then(lS a7 ag6 (true))else(if a7.2<(List.length p0:Int)then(ck (0<=a7.2∧a7.2<(List.length p0:Int)) (ck (0<=a7.2∧a7.2<(List.length p1:Int)) (Option.bind (vE U (at' p0 a7.2) (at' p1 a7.2)) fun r23=>(lS a7 ag6 ((!r23))))))else(lS a7 ag6 (false))))else(rX  (a7.1))
def qC (U:Nat) (p0:aT) (p1:aT):Option (Int):=
 bJ (lT U p0 p1) U ((0:Int),(0:Int))
theorem YW:aP Tryz.prog 29:=Tryz.call29
theorem GQ (U:Nat) {p0:aT} {p1:aT} (v0:Value)  (z1:oC)  (v2:Value)  (z3:oC) (r:Int) (h:qC U p0 p1=some r):
  aU Tryz.prog 29 #[v0,v2] [S2 bI v0 z1 p0,S2 bI v2 z3 p1] (fun x:Unit=>vU (r)) (fun x l=>l) (fun _ l=>l):=by
 refine aU.of Tryz.func29 rfl Tryz.ntmps29 rfl fun c=>?_
 unfold qC at h
 refine sqR<|qkAsg rfl<|dtN<|sqR<|qkAsg rfl<|dtN<|aG<|midU (fun a2=>rX  a2=some r) (fun a2 b3=>[(5,vU (a2))]) (fun a2 b3=>[]) ?_ ?_
 ·refine sqR<|qkMove rfl<|dtN<|aN<|loopL (lT U p0 p1) (fun a7 b8=>[(0,v0),(1,v2),(5,vU (a7.1)),(9,vI (a7.2))]) (fun a7 b8=>[]) ((0:Int),(0:Int)) () h SF (aR.refl _) ?_
  intro k9 a7 b8 h
  refine sqR<|qkLss rfl<|dtN<|aG ?_
  refine eT h rfl (fun h=>?_) fun h=>?_
  ·refine cJ<|aG<|midU (fun a12=>pE a7 (bJ (lT U p0 p1) k9) a12=some r) (fun a12 b13=>[(0,v0),(1,v2),(5,vU (a12)),(9,vI (a7.2))]) (fun a12 b13=>[]) ?_ ?_
   ·refine aN<|sqR<|qkMove rfl<|qkAsg rfl<|dtN<|sqR<|qkMove rfl<|qkMove rfl<|aA (iW rfl (aB.fact 0 rfl) rfl) rfl<|qkLss rfl<|qkMove rfl<|qkMove rfl<|aA (iW rfl (aB.fact 1 rfl) rfl) rfl<|qkLss rfl<|qkAsg rfl<|qkAsg rfl<|dtN<|aG<|midU (fun a15=>lS a7 (bJ (lT U p0 p1) k9) a15=some r) (fun a15 b16=>[(0,v0),(1,v2),(5,vU (a7.1)),(6,vI (a7.2)),(9,vI (a7.2)),(37,vB (a15))]) (fun a15 b16=>[]) ?_ ?_
    ·refine JR.start [0,0,3,7,15,31,63,63,255,511,63,63,3135,7231,16383,32767,65535,131071] 14 mixedOrders (by decide +kernel) ?_
     refine JR.open (by exact rfl) ?_
     refine jkMove rfl<|jkMove rfl<|jqN rfl (Ta rfl rfl rfl)<|jkMove rfl ?_
     refine JR.guard (by exact rfl) (by exact rfl) (by exact rfl) (fun hp19=>?_) (fun hp19=>?_)
     ·have h:=JU hp19 h
      refine bB rfl rfl rfl rfl<|bB rfl rfl rfl rfl<|Gg (h:= ?_)
      refine Gg (h:= ?_)
      refine Gg (h:= ?_)
      refine Gg (h:= ?_)
      refine Gg (h:= ?_)
      refine Gg (h:= ?_)
      refine Gg (h:= ?_)
      refine Gg (h:= ?_)
      refine bD 14 rfl rfl<|LS (h:= ?_)
      refine LS (h:= ?_)
      refine gdSkip rfl<|qkPkT rfl<|dtN ?_
      exact gR (true) () h SF rfl
     have h:=Io hp19 h
     refine fF rfl .nil .nil (dD rfl) aK.z<|fF rfl .nil .nil (dD rfl) aK.z ?_
     refine AB (by exact rfl) (by exact rfl) (by exact rfl) (fun hp20=>?_) (fun hp20=>?_)
     ·have h:=JU hp20 h
      refine fF rfl .nil .nil (dD rfl) aK.z<|fF rfl .nil .nil (dD rfl) aK.z<|ckE h fun j21 h=>fF rfl .nil (lX 0 rfl) (cY rfl rfl (aB.fact 0 rfl) rfl rfl j21) aK.z<|fF rfl .nil (lX 0 rfl) (cW rfl (aB.fact 0 rfl) rfl rfl j21) aK.z<|fF rfl .nil .nil (dD rfl) aK.z<|fF rfl .nil .nil (dD rfl) aK.z<|ckE h fun j22 h=>fF rfl .nil (lX 1 rfl) (cY rfl rfl (aB.fact 0 rfl) rfl rfl j22) aK.z<|fF rfl .nil (lX 1 rfl) (cW rfl (aB.fact 0 rfl) rfl rfl j22) aK.z<|bD 14 rfl rfl<|bnE h fun r23 w24 h=>tF rfl (aI.callQ Zb (IV U ((at' z1 a7.2).1) ((at' z3 a7.2).1) r23 w24) rfl (aD.cons (aB.el (aB.fact 0 rfl) j21.1 j21.2) (aD.cons (aB.el (aB.fact 1 rfl) j22.1 j22.2) .nil))) rfl fun x25=>aS rfl (qX rfl) rfl<|aS rfl (zZ rfl rfl) rfl<|qkPkF rfl<|dtN ?_
      exact gR ((!r23)) () h SF rfl
     have h:=Xu hp20 h
     refine bB rfl rfl rfl rfl<|bB rfl rfl rfl rfl<|bB rfl rfl rfl rfl<|bB rfl rfl rfl rfl<|bB rfl rfl rfl rfl<|bB rfl rfl rfl rfl<|bB rfl rfl rfl rfl<|bB rfl rfl rfl rfl<|bD 14 rfl rfl<|gdSkip rfl<|gdSkip rfl<|aS rfl (tH rfl rfl) rfl<|qkPkF rfl<|dtN ?_
     exact gR (false) () h SF rfl
    intro a15 b16 h
    refine AG h rfl (fun _ h=>?_) fun _ h=>?_
    ·refine aM<|qkMove rfl<|qkMove rfl<|ckE h fun j18 h=>aA (Gj rfl rfl j18) rfl<|aA (Mq rfl rfl) rfl<|qkAsg rfl<|dN<|inT ?_
     exact gR (Em .u32 a7.1 (xS .u32 (1:Int) a7.2)) () h SF rfl
    refine dQ<|inT ?_
    exact gR (a7.1) () h SF rfl
   intro a12 b13 h
   unfold pE at h
   refine aM<|qkAdd rfl<|qkMove rfl<|dtN ?_
   exact yX (a12,(wI .i64 (a7.2+(1:Int)))) () h SF rfl
  refine fM ?_
  exact gR (a7.1) () h SF rfl
 intro a2 b3 h
 unfold rX at h
 refine sqR<|qkMove rfl<|qkAsg rfl<|dtN<|aQ ?_
 cases h
 exact lC rfl
end
end Go.Proofs.YtjlbcgddhnjcjaaGreatDoor
end
section
namespace Go.Proofs.YtjlbcgddhnjcjaaGreatDoor
open Go Go.Sx
theorem Tj {p q:aL} (c:p.length=q.length) (h:∀k:Nat,k<p.length->at' p (k:Int)=at' q (k:Int)):p=q:=by
 refine List.ext_getElem c fun i a b=> ?_
 have:=h i a
 rwa[iX,iX,List.getD_eq_getElem?_getD,List.getD_eq_getElem?_getD,List.getElem?_eq_getElem a,List.getElem?_eq_getElem b]at this
theorem Sc (p q:aL) (h:q.length<900):vE 1000 p q=some (decide (p=q)):=by
 unfold vE
 by_cases f:p.length=q.length
 ·rw[if_neg (by omega)]
  have a:=OH (step:=tW p q) (K:=some true) (bad:=some false) p.length (fun k=>at' p (k:Int)=at' q (k:Int)) (fun k=>(k:Int)) (fun k c d b=> ?_) (fun k c d b=> ?_) (fun c=> ?_) 1000 (by omega)
  ·by_cases e:p=q
   ·rw[decide_eq_true e];exact a.1 fun k d=>by rw[e]
   ·rw[decide_eq_false e];exact a.2 fun g=>e (Tj f fun v i=>g v i)
  all_goals unfold tW
  ·rw[if_pos (by omega),cP (by omega),cP (by omega),if_neg (by simpa using b),dO (by omega)]
  ·rw[if_pos (by omega),cP (by omega),cP (by omega),if_pos b]
  ·rw[if_neg (by omega)];rfl
 ·rw[if_pos (by omega),decide_eq_false fun e=>f (by rw[e])]

def EF (c d:aT) (n:Nat) (v:Nat):Bool:=decide (v<n) && !decide (at' c (v:Int)=at' d (v:Int))
theorem Rt {c d:aT} {n:Nat} (hn:n<=24) (hc:c.length=n) (hd:d.length=n) (hr:∀v:Nat,v<n->(at' d (v:Int)).length<900):
  qC 1000 c d=some ((j_ (EF c d n) 24:Nat):Int):=by
 unfold qC
 refine dV (F:=fun v:Nat=>(((j_ (EF c d n) v:Nat):Int),(v:Int))) 24 (fun v ag hv=> ?_) (fun ag=> ?_) 1000 (by omega)
 ·have hm:=Af (EF c d n) (k:=v) (by omega)
  have hS:∀b:Bool,EF c d n v=b->lS (((j_ (EF c d n) v:Nat):Int),(v:Int)) ag b=ag (((j_ (EF c d n) (v+1):Nat):Int),((v+1:Nat):Int)):=fun b hb=>by
   unfold lS pE
   dsimp only
   rw[dO (by omega)]
   cases b with
   |true=>rw[if_pos rfl,cP (by omega),FA hm (by omega)];simp[j_,hb]
   |false=>rw[if_neg (by decide)];simp[j_,hb]
  unfold lT
  dsimp only
  rw[if_pos (by omega),hc,hd,if_neg (by simp)]
  by_cases hvn:v<n
  ·rw[if_pos (by omega),cP (by omega),cP (by omega),bA (Sc _ _ (hr v hvn))]
   exact hS _ (by unfold EF;rw[decide_eq_true hvn,Bool.true_and])
  ·rw[if_neg (by omega)]
   exact hS _ (by unfold EF;rw[decide_eq_false hvn,Bool.false_and])
 ·unfold lT rX
  dsimp only
  rw[if_neg (by omega)]
theorem Xa {c d:aT} {n:Nat} (a:n<=24) (v:Nat):(j_ (EF c d n) 24).testBit v=true↔v<n∧at' c (v:Int)≠at' d (v:Int):=by
 rw[AL]
 unfold EF
 simp only[Bool.and_eq_true,decide_eq_true_eq,Bool.not_eq_true',decide_eq_false_iff_not]
 constructor
 ·rintro⟨_,h⟩;exact h
 ·intro h;exact⟨by omega,h⟩
theorem W_ {c d:aT} {n:Nat} (hn:n<=24) (h1:∀v:Nat,v<n->(at' c (v:Int)).length=1) (h2:∀v:Nat,v<n->(at' d (v:Int)).length=1) (v:Nat) (hv:v<n):(j_ (EF c d n) 24).testBit v=true↔yU d v≠yU c v:=by
 rw[Xa hn]
 constructor
 ·rintro⟨_,h⟩ e
  exact h (Tj (by rw[h1 v hv,h2 v hv]) fun k hk=>by
   obtain rfl:k=0:=by rw[h1 v hv]at hk;omega
   exact e.symm)
 ·intro h
  exact⟨hv,fun e=>h (by unfold yU;rw[e])⟩

theorem Sd {g:GR} {vars:List Dg} {c:aT} (h24:g.2.length<=24) (hvl:vars.length=1) (hc:G_ g c vars) {d:Nat} (hd:d<4294967296) (vals:aL) {m:Int} (h1:1<=m) (hm4:m<=4611686018427387904) (hm:∀a v,0<=a->a<m->v<g.2.length->lo g (at' vars ((0:Nat):Int)) v<=a∧a<=hi g (at' vars ((0:Nat):Int)) v):
  ∃r,pA 1000 c (d:Int) vals m=some r∧G_ g r vars∧∀v:Nat,v<g.2.length->d.testBit v=false->at' r (v:Int)=at' c (v:Int):=by
 have hcl:=hc.len
 have hone:∀v:Nat,v<g.2.length->(at' c (v:Int)).length=1:=fun v hv=>by rw[hc.row v hv,hvl]
 unfold pA
 obtain⟨⟨r,i⟩,⟨hi,hl,hb⟩,he⟩:=rA (step:=kX 1000 c (d:Int) vals m) (K:=fun z=>some z.1) g.2.length
  (fun k z=>z.2=(k:Int)∧z.1.length=k∧∀v:Nat,v<k->(at' z.1 (v:Int)).length=1∧(lo g (at' vars ((0:Nat):Int)) v<=at' (at' z.1 (v:Int)) 0∧at' (at' z.1 (v:Int)) 0<=hi g (at' vars ((0:Nat):Int)) v)∧(d.testBit v=false->at' z.1 (v:Int)=at' c (v:Int))) (fun k z ag hk hI=>by
  obtain⟨r,i⟩:=z
  obtain⟨hi,hl,hb⟩:=hI
  dsimp only at hi hl hb
  subst hi
  have snoc:∀l:aL,l.length=1->(lo g (at' vars ((0:Nat):Int)) k<=at' l 0∧at' l 0<=hi g (at' vars ((0:Nat):Int)) k)->(d.testBit k=false->l=at' c (k:Int))->∃z':aT×Int,(z'.2=((k+1:Nat):Int)∧z'.1.length=k+1∧∀v:Nat,v<k+1->(at' z'.1 (v:Int)).length=1∧(lo g (at' vars ((0:Nat):Int)) v<=at' (at' z'.1 (v:Int)) 0∧at' (at' z'.1 (v:Int)) 0<=hi g (at' vars ((0:Nat):Int)) v)∧(d.testBit v=false->at' z'.1 (v:Int)=at' c (v:Int)))∧p_ (r,(k:Int)) ag l=ag z':=fun l a1 a2 a3=>by
   refine⟨(r++[l],((k+1:Nat):Int)),⟨rfl,by simp[hl],fun v hv=> ?_⟩,?_⟩
   ·dsimp only
    rw[Hr r l (by omega),hl]
    by_cases e:v<k
    ·rw[if_pos e];exact hb v e
    ·rw[if_neg e]
     obtain rfl:v=k:=by omega
     exact⟨a1,a2,a3⟩
   ·unfold p_
    dsimp only
    rw[cP (by simp;omega),dO (by omega)]
  have hk1:=hone k hk
  have hok:=hc.ok k hk 0 (by omega)
  unfold kX
  dsimp only
  rw[if_pos (by omega),cP (by omega),cP (by simp;omega),bA (YO 1000 hd (by omega))]
  have plain:∃z':aT×Int,(z'.2=((k+1:Nat):Int)∧z'.1.length=k+1∧∀v:Nat,v<k+1->(at' z'.1 (v:Int)).length=1∧(lo g (at' vars ((0:Nat):Int)) v<=at' (at' z'.1 (v:Int)) 0∧at' (at' z'.1 (v:Int)) 0<=hi g (at' vars ((0:Nat):Int)) v)∧(d.testBit v=false->at' z'.1 (v:Int)=at' c (v:Int)))∧kW 1000 c vals m (r,(k:Int)) ag false=ag z':=by
   unfold kW
   rw[if_neg (by decide)]
   exact snoc _ (by simpa using hk1) hok (fun _=>by simp)
  cases hbit:d.testBit k with
  |false=>rw[if_neg (by decide)];exact plain
  | true =>
   rw[if_pos rfl]
   by_cases hlt:k<vals.length
   ·rw[if_pos (by omega),decide_eq_true (show(List.length (([]:aL)++at' c (k:Int)):Int)=1 by simp[hk1])]
    unfold kW
    rw[if_pos rfl,cP (by dsimp only;omega),bA (sB _ m h1 hm4),cP (by simp[hk1])]
    have hw1:=Int.emod_nonneg (at' vals (k:Int)) (show m≠0 by omega)
    have hw2:=Int.emod_lt_of_pos (at' vals (k:Int)) (show 0<m by omega)
    have hl1:(([]:aL)++at' c (k:Int)).length=1:=by simpa using hk1
    obtain⟨a,ha⟩:∃a,([]:aL)++at' c (k:Int)=[a]:=List.length_eq_one_iff.1 hl1
    dsimp only
    rw[ha]
    exact snoc [at' vals (k:Int)%m] rfl (hm _ k hw1 hw2 hk) (fun h=>by rw[h]at hbit;cases hbit)
   ·rw[if_neg (by omega)];exact plain) (fun z ag hI=>by
  obtain⟨r,i⟩:=z
  obtain⟨hi,hl,hb⟩:=hI
  dsimp only at hi
  subst hi
  unfold kX tR
  dsimp only
  rw[if_neg (by omega)]) 1000 (([]:aT),(0:Int)) ⟨rfl,rfl,fun j hj=>by omega⟩ (by omega)
 dsimp only at hl hb
 refine⟨r,he,⟨hl,fun v hv=>by rw[(hb v hv).1,hvl],fun v hv x hx=> ?_⟩,fun v hv=>(hb v hv).2.2⟩
 obtain rfl:x=0:=by omega
 exact(hb v hv).2.1
end Go.Proofs.YtjlbcgddhnjcjaaGreatDoor
end
section
namespace Go.Proofs.YtjlbcgddhnjcjaaGreatDoor
open Go.Sx
section
def iL (U:Nat)  : Option (ByteArray):=
 some (ByteArray.mk #[112,114,111,103,114,97,109,32,99,111,108,111,117,114,105,110,103,59,10,118,97,114,32,99,32,58,32,48,32,46,46,32,110,59,10,114,117,108,101,32,102,105,120,58,32,115,111,109,101,40,113,46,99,32,61,61,32,99,41,32,45,62,32,99,32,58,61,32,109,101,120,40,113,46,99,41,59,10])
theorem Oq:aP Tryz.prog 11:=Tryz.call11
theorem wQ (U:Nat)  (r:ByteArray) (h:iL U  = some r):
  aU Tryz.prog 11 #[] [] (fun x:Unit=>vS (r)) (fun x l=>l) (fun _ l=>l):=by
 refine aU.of Tryz.func11 rfl Tryz.ntmps11 rfl fun c=>?_
 unfold iL at h
 refine sqR<|qkAsg rfl<|dtN<|sqR<|qkAsg rfl<|dtN<|aQ ?_
 cases h
 exact lC rfl
end
section
def jT (U:Nat) (p0:tD) (p1:cU) (p2:Int) (p3:aT) (p4:aL):Option ((Int×Int×Int×Int×Bool×aT)×Int):=
 Option.bind (lM U ((p0.1,p0.2.1,p0.2.2)) ((p1.1,p1.2)) p2 p3 p4) fun a=>(if a.2≠(0:Int)then(some ((((0:Int),(0:Int),(0:Int),(0:Int),false,([]:aT))),a.2))else(Option.bind (jF U ((a.1.1,a.1.2.1,a.1.2.2.1,((a.1.2.2.2.1,a.1.2.2.2.2.1,a.1.2.2.2.2.2.1,a.1.2.2.2.2.2.2.1,a.1.2.2.2.2.2.2.2))))) fun b=>(ck (0<=(wI .i64 ((List.length a.1.2.1:Int) - (1:Int)))∧(wI .i64 ((List.length a.1.2.1:Int) - (1:Int)))<(List.length a.1.2.1:Int)) (some (((b.1,b.2,a.1.2.2.2.2.1,a.1.2.2.2.2.2.2.1,(decide ((at' a.1.2.1 (wI .i64 ((List.length a.1.2.1:Int) - (1:Int))))=(0:Int))),a.1.2.2.1)),(0:Int))))))
theorem YR:aP Tryz.prog 17:=Tryz.call17
theorem BV (U:Nat) {p0:tD} {p1:cU} {p2:Int} {p3:aT} {p4:aL} (m:Value)  (n:Value)  (o:Value)  (p:Value)  (y:lW)  (t:Value)  (A:oC)  (u:Value) (r:QG) (h:jT U p0 p1 p2 p3 p4=some r):
  aU Tryz.prog 17 #[Value.agg #[vS (p0.1),m,n],Value.agg #[o,p],vI (p2),t,u] [Sl aH m p0.2.1,Sl aE n p0.2.2,PF (Value.agg #[vS p0.1,m,n]),Sl bI o p1.1,S2 aY p y p1.2,S2 bI t A p3,Sl pI u p4,Gb 0 (cellsOf AV oA)] (fun x:CG=>Value.tuple #[Value.agg #[vU (r.1.1),vI (r.1.2.1),vI (r.1.2.2.1),vI (r.1.2.2.2.1),vB (r.1.2.2.2.2.1),x.1],vI (r.2)]) (fun x l=>Ar cE.raw x.1 x.2::fT bO x.2 r.1.2.2.2.2.2::l) (fun _ l=>l):=by
 refine aU.of Tryz.func17 rfl Tryz.ntmps17 rfl fun c=>?_
 refine sqR<|aF (aI.box (cs:=[vS (p0.1),m,n]) rfl rfl) rfl fun D=>aF (aI.box (cs:=[o,p]) rfl rfl) rfl fun E=>aF (aI.alloc (cs:=vD5) rfl rfl) rfl fun F=>qkAsg rfl<|dtN<|sqR<|qkLdA 2 rfl<|qkLdA 1 rfl<|qkMove rfl<|qkMove rfl<|qkMove rfl<|bnE h fun a B h=>aF (aI.callQ HS (vK U m n o p y t A u a B) rfl (lK [0,1,2,3,4,5,6,7] rfl)) rfl fun d=>qkMove rfl<|qkExt rfl<|qkExt rfl<|aF (aI.alloc (cs:=zS) rfl rfl) rfl fun G=>bM (Know.one ((aO (aB.res 1 rfl) fJ))) fun q=>bM (Know.one ((aO (aB.res 2 rfl) fJ))) fun s=>bM (Know.one (aB.sl (aV (i:=3) (j:=4) rfl rfl cC))) fun e=>bE 0 (vs:=[d.1,d.2.1,d.2.2.1,vI (a.1.2.2.2.1),vI (a.1.2.2.2.2.1),vI (a.1.2.2.2.2.2.1),vI (a.1.2.2.2.2.2.2.1),vU (a.1.2.2.2.2.2.2.2)]) rfl rfl (bY q (bY s (bY e (bY rfl (bY rfl (bY rfl (bY rfl (bY rfl rfl)))))))) rfl rfl rfl<|qkAsg rfl<|dtN<|aG<|sqR<|qkMove rfl<|qkNeq rfl<|dtN ?_
 refine eT h rfl (fun h=>?_) fun h=>?_
 ·refine sqR ?_
  refine aA (DU (r:=Value.agg #[vU (0:Int),vI (0:Int),vI (0:Int),vI (0:Int),vB (false),gM]) (by intro w;simp[Instr.build,Instr.fill,c_,cS,cF,dA,dB,cT,eB])) rfl ?_
  refine qkMove rfl<|bE 5 (vs:=vD5) rfl rfl rfl rfl rfl rfl<|qkAsg rfl<|dtN<|aQ<|aJ<|eQ (dH cE.raw) (eQ (pL bO) ?_)
  cases h
  exact iO ((gM),([]:eV)) rfl rfl (RV.cell 7 rfl rfl rfl rfl) (RV.tmp rfl) (aR.ix [1,0] rfl rfl) aD.nil
 refine cJ<|sqR<|qkLdA 0 rfl<|bnE h fun b v h=>aF (aI.callQ Y_ (Dm U d.1 d.2.1 d.2.2.1 (List.zip d.2.2.2 a.1.2.2.1) b v) rfl (aD.cons (aO (aB.res 1 rfl) fJ) (aD.cons (aO (aB.res 2 rfl) fJ) (aD.cons (aV (i:=3) (j:=4) rfl rfl cC) .nil)))) rfl fun C=>qkMove rfl<|qkExt rfl<|qkExt rfl<|qkAsg rfl<|qkAsg rfl<|dtN<|aG ?_
 refine JR.start [0,0,0,4,12,0,32,96,0,256,0,1024,3072,7168,16128,32512,65280,0,131072,524287,1048575,2097151] 19 mixedOrders (by decide +kernel) ?_
 refine JR.open (by exact rfl) ?_
 refine jkMove rfl<|jkMove rfl<|jkFld rfl<|jkFld rfl<|jkLd 0 rfl<|jkFld rfl<|jkFld rfl<|jkLd 0 rfl<|jkFld rfl<|jkLd 0 rfl<|jkFld rfl<|jkLd 0 rfl<|bG rfl (aR.cons 2 rfl .nil) .nil (fR rfl (aO (aB.res 0 rfl) fJ) rfl) aK.z<|jqN rfl (pO rfl rfl)<|ckE h fun k h=>bG rfl (aR.cons 2 rfl .nil) .nil (a_ rfl rfl (aO (aB.res 0 rfl) fJ) rfl rfl k) aK.z<|bG rfl (aR.cons 2 rfl .nil) .nil (bV rfl (aO (aB.res 0 rfl) fJ) rfl rfl rfl Am k) aK.z<|jqN rfl (Dr rfl rfl)<|jkFld rfl<|jkLd 0 rfl<|bD 19 rfl rfl<|bM (Know.one (aB.sl (aV (i:=3) (j:=4) rfl rfl cC))) fun f=>?_
 refine aA (Y.bld6 (r:=Value.agg #[vU (b.1),vI (b.2),vI (a.1.2.2.2.2.1),vI (a.1.2.2.2.2.2.2.1),vB (decide ((at' a.1.2.1 (wI .i64 ((List.length a.1.2.1:Int) - (1:Int))))=(0:Int))),d.2.2.1]) rfl rfl rfl rfl rfl rfl (by intro w;simp[Instr.build,Instr.fill,c_,cS,cF,dA,dB,cT,eB,fS f])) rfl ?_
 refine bM (Know.one (aB.sl (aV (i:=3) (j:=4) rfl rfl cC))) fun g=>bE 5 (vs:=[vU (b.1),vI (b.2),vI (a.1.2.2.2.2.1),vI (a.1.2.2.2.2.2.2.1),vB (decide ((at' a.1.2.1 (wI .i64 ((List.length a.1.2.1:Int) - (1:Int))))=(0:Int))),d.2.2.1]) rfl rfl (bY rfl (bY rfl (bY rfl (bY rfl (bY rfl (bY g rfl)))))) rfl rfl rfl<|qkAsg rfl<|dtN<|aQ ?_
 cases h
 exact iO (d.2.2.1,d.2.2.2) rfl rfl (RV.cell 5 rfl rfl rfl rfl) (RV.tmp rfl) (aR.ix [3,4] rfl rfl) aD.nil
end
end Go.Proofs.YtjlbcgddhnjcjaaGreatDoor
end
section
namespace Go.Proofs.YtjlbcgddhnjcjaaGreatDoor
open Go Go.Sx Go.Gx
set_option maxRecDepth 100000
def Au (fuel:Nat):Option (Bool):=some (true)
theorem Tk:aP Tryz.prog 21:=Tryz.call21
theorem TH:okT (HX IJ gp2 4000 21 [] H0)=true:=by kernel_rfl
theorem Jq (fuel:Nat) (r:Bool) (h:Au fuel=some r):
  aU Tryz.prog 21 #[] [Gb 0 (cellsOf AV oA)] (fun x:Unit=>Value.bool (r)) (fun x l=>l) (fun _ l=>l):=by
 obtain rfl:=Option.some.inj h
 obtain⟨H',a⟩:=UL TH
 rw[EC Hp]at a
 exact Ll Ui Tk (fun ρ c h=>h.bool_inv) fun T b=>EB (gs:=gl T) aes a (eX.start b rfl) .nil
end Go.Proofs.YtjlbcgddhnjcjaaGreatDoor
end
