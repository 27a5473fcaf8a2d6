/- Models and proofs. Conditions: none. -/
import Derived.Test.YtpenklncfhiloaaGreatDoorZCLi5
import Derived.Test.YtpenklncfhiloaaGreatDoorZCLi7
import Derived.Test.YtpenklncfhiloaaGreatDoorZCLi2
import Derived.Test.YtpenklncfhiloaaGreatDoorZCLi6
import Derived.Test.YtpenklncfhiloaaGreatDoorZCLi1
import Derived.KernelRfl
set_option linter.unusedVariables false
set_option linter.unusedSimpArgs false
set_option maxHeartbeats 4000000
set_option maxRecDepth 20000
section
namespace Go.Proofs.YtpenklncfhiloaaGreatDoor
open Go.Sx
noncomputable def lG (a:PT) (b:Bool):Option (a_×Bool):=
 some (a.2.2.2.2.2.2.2.2,b)
noncomputable def rP  (a:PT):Option (a_×Bool):=
 if a.1=(0:Int)then(if(0:Int)<(List.length a.2.2.2.2.2.2.2.1:Int)then(ck (0<=(wI .i64 ((List.length a.2.2.2.2.2.2.2.1:Int) - (1:Int)))∧(wI .i64 ((List.length a.2.2.2.2.2.2.2.1:Int) - (1:Int)))<(List.length a.2.2.2.2.2.2.2.1:Int)) (lG a (decide ((at' a.2.2.2.2.2.2.2.1 (wI .i64 ((List.length a.2.2.2.2.2.2.2.1:Int) - (1:Int))))=(0:Int)))))else(lG a (false)))else(lG a (false))
noncomputable def mN (U:Nat) (p0:ByteArray) (p1:cT) (p2:a_):Option (a_×Bool):=
 Option.bind (mO U p0) fun b=>Qq b.2.2 fun d=>(Option.bind (kA U ([]:aQ) (60:Int)) fun c=>(Option.bind (k_ U ((b.1,b.2.1,d)) ((p1.1,p1.2)) (1:Int) p2 c) fun a=>(rP  (a.2,a.1.2.2.2.1,a.1.2.2.2.2.1,a.1.2.2.2.2.2.1,a.1.2.2.2.2.2.2.1,a.1.2.2.2.2.2.2.2,a.1.1,a.1.2.1,a.1.2.2.1))))
theorem ZX:aO Tryz.prog 5:=Tryz.call5
theorem Gm (U:Nat) {p0:ByteArray} {p1:cT} {p2:a_} (K:Value)  (L:Value)  (z2:jT)  (M:Value)  (z4:oV) (r:a_×Bool) (h:mN U p0 p1 p2=some r):
  aV Tryz.prog 5 #[vS (p0),Value.agg #[K,L],M] [Sl bL K p1.1,S2 aW L z2 p1.2,S2 bL M z4 p2,Gb 0 (cellsOf EK uB)] (fun x:Cd=>Value.tuple #[x.1,vB (r.2)]) (fun x l=>Ar c_.raw x.1 x.2::gU cE x.2 r.1::l) (fun _ l=>l):=by
 refine aV.of Tryz.func5 rfl Tryz.ntmps5 rfl fun c=>?_
 unfold mN at h
 refine sqR<|aE (aG.box (cs:=[K,L]) rfl rfl) rfl fun b1=>qkAsg rfl<|qkAsg rfl<|dtN<|aH<|midL (B:=Nat×Value×Value×Value×List Value) (fun d=>rP  d=some r) (fun d b=>[(8,vP b.1),(9,vI (d.1))]) (fun d b=>[bS b.1 [b.2.1,b.2.2.1,b.2.2.2.1,vI (d.2.1),vI (d.2.2.1),vI (d.2.2.2.1),vI (d.2.2.2.2.1),vU (d.2.2.2.2.2.1)] 64,Ar nQ b.2.1 d.2.2.2.2.2.2.1,Ar nQ b.2.2.1 d.2.2.2.2.2.2.2.1,Ar c_.raw b.2.2.2.1 b.2.2.2.2,gU cE b.2.2.2.2 d.2.2.2.2.2.2.2.2]) ?_ ?_
 ·have⟨r24,w25,h⟩:=ZV h
  refine Ad [0,1,0,0,3,31,63,127,127,0,767,2047] 11 [[0,2,3,1,4,5,6,7,8,9,10,11],[0,2,3,1,4,9,5,6,7,8,10,11],[0,2,3,1,9,4,5,6,7,8,10,11],[0,2,3,9,1,4,5,6,7,8,10,11]] mixedOrders (by decide +kernel) (by decide +kernel) ?_
  intro o ho
  simp only[List.mem_cons,List.not_mem_nil,or_false]at ho
  rcases ho with rfl|rfl|rfl|rfl
  ·refine jkMove rfl<|jkLdA 0 rfl<|jkMove rfl<|JR.loud rfl rfl rfl (aG.call ES (pQ U r24 w25) rfl (lA 3 rfl) (fun _ _=>rfl) (fun _ _=>rfl)) rfl (fun⟨C,D,e,v⟩=>(jM [([0],[])] rfl)) fun⟨C,D,e,v⟩=>?_
   have h:=Aj h e v
   refine bnE h fun n p h=>JR.loud rfl rfl rfl (aG.callQ Dn (mA U (eG) n p) rfl (aA.cons aC.nil .nil)) rfl (fun ag=>(jM [([1],[])] rfl)) fun ag=>bnE h fun a q h=>JR.loud rfl rfl rfl (aG.callQ Hj (uY U C D K L z2 M z4 ag a q) rfl (aA.cons (aC.fact 0 rfl) (aA.cons (aC.fact 1 rfl) (aA.cons (aC.fact 2 rfl) (aA.cons (aC.fact 3 rfl) (aA.cons (aC.fact 4 rfl) (aA.cons (aC.fact 5 rfl) (aA.cons (aT (aC.res 0 rfl) jP) (iJ [6] rfl))))))))) rfl (fun f=>(jM [] rfl)) fun f=>jqN rfl (kT rfl)<|jqN rfl (e_ rfl rfl)<|jqN rfl (e_ rfl rfl)<|JR.loud rfl rfl rfl (aG.alloc (cs:=DK) rfl rfl) rfl (fun O=>(jM [([6],[])] rfl)) fun O=>bN (Know.one ((aT (aC.res 1 rfl) jP))) fun S=>bN (Know.one ((aT (aC.res 2 rfl) jP))) fun T=>bN (Know.one (aC.sl (aP (i:=3) (j:=4) rfl rfl cW))) fun V=>pH rfl rfl rfl (nK 0 (vs:=[f.1,f.2.1,f.2.2.1,vI (a.1.2.2.2.1),vI (a.1.2.2.2.2.1),vI (a.1.2.2.2.2.2.1),vI (a.1.2.2.2.2.2.2.1),vU (a.1.2.2.2.2.2.2.2)]) rfl rfl (cB S (cB T (cB V (cB rfl (cB rfl (cB rfl (cB rfl (cB rfl rfl)))))))) rfl rfl rfl) (fun ak=>(jM [] rfl)) fun ak=>bF 11 rfl rfl<|qkAsg rfl<|dtN ?_
   exact bO (a.2,a.1.2.2.2.1,a.1.2.2.2.2.1,a.1.2.2.2.2.2.1,a.1.2.2.2.2.2.2.1,a.1.2.2.2.2.2.2.2,a.1.1,a.1.2.1,a.1.2.2.1) (O,f.1,f.2.1,f.2.2.1,f.2.2.2) h SF (aS.ix [0,1,2,3,4] rfl rfl) (iJ [3,4,5,6] rfl)
  ·refine jkMove rfl<|jkLdA 0 rfl<|jkMove rfl<|JR.loud rfl rfl rfl (aG.call ES (pQ U r24 w25) rfl (lA 3 rfl) (fun _ _=>rfl) (fun _ _=>rfl)) rfl (fun⟨E,F,e,w⟩=>(jM [([0],[])] rfl)) fun⟨E,F,e,w⟩=>?_
   have h:=Aj h e w
   refine bnE h fun n p h=>JR.loud rfl rfl rfl (aG.callQ Dn (mA U (eG) n p) rfl (aA.cons aC.nil .nil)) rfl (fun ah=>(jM [([1],[])] rfl)) fun ah=>JR.loud rfl rfl rfl (aG.alloc (cs:=DK) rfl rfl) rfl (fun P=>(jM [([2],[])] rfl)) fun P=>bnE h fun a q h=>JR.loud rfl rfl rfl (aG.callQ Hj (uY U E F K L z2 M z4 ah a q) rfl (aA.cons (aC.fact 0 rfl) (aA.cons (aC.fact 1 rfl) (aA.cons (aC.fact 2 rfl) (aA.cons (aC.fact 3 rfl) (aA.cons (aC.fact 4 rfl) (aA.cons (aC.fact 5 rfl) (aA.cons (aT (aC.res 1 rfl) jP) (iJ [6] rfl))))))))) rfl (fun g=>(jM [] rfl)) fun g=>jqN rfl (kT rfl)<|jqN rfl (e_ rfl rfl)<|jqN rfl (e_ rfl rfl)<|bN (Know.one ((aT (aC.res 0 rfl) jP))) fun W=>bN (Know.one ((aT (aC.res 1 rfl) jP))) fun X=>bN (Know.one (aC.sl (aP (i:=2) (j:=3) rfl rfl cW))) fun Y=>pH rfl rfl rfl (nK 4 (vs:=[g.1,g.2.1,g.2.2.1,vI (a.1.2.2.2.1),vI (a.1.2.2.2.2.1),vI (a.1.2.2.2.2.2.1),vI (a.1.2.2.2.2.2.2.1),vU (a.1.2.2.2.2.2.2.2)]) rfl rfl (cB W (cB X (cB Y (cB rfl (cB rfl (cB rfl (cB rfl (cB rfl rfl)))))))) rfl rfl rfl) (fun al=>(jM [] rfl)) fun al=>bF 11 rfl rfl<|qkAsg rfl<|dtN ?_
   exact bO (a.2,a.1.2.2.2.1,a.1.2.2.2.2.1,a.1.2.2.2.2.2.1,a.1.2.2.2.2.2.2.1,a.1.2.2.2.2.2.2.2,a.1.1,a.1.2.1,a.1.2.2.1) (P,g.1,g.2.1,g.2.2.1,g.2.2.2) h SF (aS.ix [4,0,1,2,3] rfl rfl) (iJ [3,4,5,6] rfl)
  ·refine jkMove rfl<|jkLdA 0 rfl<|jkMove rfl<|JR.loud rfl rfl rfl (aG.call ES (pQ U r24 w25) rfl (lA 3 rfl) (fun _ _=>rfl) (fun _ _=>rfl)) rfl (fun⟨G,H,e,y⟩=>(jM [([0],[])] rfl)) fun⟨G,H,e,y⟩=>?_
   have h:=Aj h e y
   refine JR.loud rfl rfl rfl (aG.alloc (cs:=DK) rfl rfl) rfl (fun Q=>(jM [([1],[])] rfl)) fun Q=>bnE h fun n p h=>JR.loud rfl rfl rfl (aG.callQ Dn (mA U (eG) n p) rfl (aA.cons aC.nil .nil)) rfl (fun ai=>(jM [([2],[])] rfl)) fun ai=>bnE h fun a q h=>JR.loud rfl rfl rfl (aG.callQ Hj (uY U G H K L z2 M z4 ai a q) rfl (aA.cons (aC.fact 0 rfl) (aA.cons (aC.fact 1 rfl) (aA.cons (aC.fact 2 rfl) (aA.cons (aC.fact 3 rfl) (aA.cons (aC.fact 4 rfl) (aA.cons (aC.fact 5 rfl) (aA.cons (aT (aC.res 0 rfl) jP) (iJ [6] rfl))))))))) rfl (fun k=>(jM [] rfl)) fun k=>jqN rfl (kT rfl)<|jqN rfl (e_ rfl rfl)<|jqN rfl (e_ rfl rfl)<|bN (Know.one ((aT (aC.res 0 rfl) jP))) fun Z=>bN (Know.one ((aT (aC.res 1 rfl) jP))) fun aa=>bN (Know.one (aC.sl (aP (i:=2) (j:=3) rfl rfl cW))) fun ab=>pH rfl rfl rfl (nK 5 (vs:=[k.1,k.2.1,k.2.2.1,vI (a.1.2.2.2.1),vI (a.1.2.2.2.2.1),vI (a.1.2.2.2.2.2.1),vI (a.1.2.2.2.2.2.2.1),vU (a.1.2.2.2.2.2.2.2)]) rfl rfl (cB Z (cB aa (cB ab (cB rfl (cB rfl (cB rfl (cB rfl (cB rfl rfl)))))))) rfl rfl rfl) (fun am=>(jM [] rfl)) fun am=>bF 11 rfl rfl<|qkAsg rfl<|dtN ?_
   exact bO (a.2,a.1.2.2.2.1,a.1.2.2.2.2.1,a.1.2.2.2.2.2.1,a.1.2.2.2.2.2.2.1,a.1.2.2.2.2.2.2.2,a.1.1,a.1.2.1,a.1.2.2.1) (Q,k.1,k.2.1,k.2.2.1,k.2.2.2) h SF (aS.ix [5,0,1,2,3] rfl rfl) (iJ [3,4,5,6] rfl)
  refine jkMove rfl<|jkLdA 0 rfl<|jkMove rfl<|JR.loud rfl rfl rfl (aG.alloc (cs:=DK) rfl rfl) rfl (fun R=>(jM [([1],[])] rfl)) fun R=>JR.loud rfl rfl rfl (aG.call ES (pQ U r24 w25) rfl (lA 3 rfl) (fun _ _=>rfl) (fun _ _=>rfl)) rfl (fun⟨I,J,e,A⟩=>(jM [([1],[])] rfl)) fun⟨I,J,e,A⟩=>?_
  have h:=Aj h e A
  refine bnE h fun n p h=>JR.loud rfl rfl rfl (aG.callQ Dn (mA U (eG) n p) rfl (aA.cons aC.nil .nil)) rfl (fun aj=>(jM [([2],[])] rfl)) fun aj=>bnE h fun a q h=>JR.loud rfl rfl rfl (aG.callQ Hj (uY U I J K L z2 M z4 aj a q) rfl (aA.cons (aC.fact 0 rfl) (aA.cons (aC.fact 1 rfl) (aA.cons (aC.fact 2 rfl) (aA.cons (aC.fact 3 rfl) (aA.cons (aC.fact 4 rfl) (aA.cons (aC.fact 5 rfl) (aA.cons (aT (aC.res 0 rfl) jP) (iJ [6] rfl))))))))) rfl (fun m=>(jM [] rfl)) fun m=>jqN rfl (kT rfl)<|jqN rfl (e_ rfl rfl)<|jqN rfl (e_ rfl rfl)<|bN (Know.one ((aT (aC.res 0 rfl) jP))) fun ac=>bN (Know.one ((aT (aC.res 1 rfl) jP))) fun ad=>bN (Know.one (aC.sl (aP (i:=2) (j:=3) rfl rfl cW))) fun ae=>pH rfl rfl rfl (nK 5 (vs:=[m.1,m.2.1,m.2.2.1,vI (a.1.2.2.2.1),vI (a.1.2.2.2.2.1),vI (a.1.2.2.2.2.2.1),vI (a.1.2.2.2.2.2.2.1),vU (a.1.2.2.2.2.2.2.2)]) rfl rfl (cB ac (cB ad (cB ae (cB rfl (cB rfl (cB rfl (cB rfl (cB rfl rfl)))))))) rfl rfl rfl) (fun an=>(jM [] rfl)) fun an=>bF 11 rfl rfl<|qkAsg rfl<|dtN ?_
  exact bO (a.2,a.1.2.2.2.1,a.1.2.2.2.2.1,a.1.2.2.2.2.2.1,a.1.2.2.2.2.2.2.1,a.1.2.2.2.2.2.2.2,a.1.1,a.1.2.1,a.1.2.2.1) (R,m.1,m.2.1,m.2.2.1,m.2.2.2) h SF (aS.ix [5,0,1,2,3] rfl rfl) (iJ [3,4,5,6] rfl)
 intro d b h
 unfold rP at h
 refine aH<|midU (fun s=>lG d s=some r) (fun s N=>[(6,b.2.2.2.1),(7,vB (s))]) (fun s N=>[Ar c_.raw b.2.2.2.1 b.2.2.2.2,gU cE b.2.2.2.2 d.2.2.2.2.2.2.2.2]) ?_ ?_
 ·refine JR.start [0,1,0,4,12,28,60,124,252,508,1020,2044,4092,2044,10236,26620,59388,131068,262140,524284,1048572,2047,4194303] 22 mixedOrders (by decide +kernel) ?_
  refine JR.open (by exact rfl) ?_
  refine jkFld rfl<|jkLd 0 rfl<|jkMove rfl<|jqN rfl (yE rfl rfl)<|jkMove rfl ?_
  refine IK (by exact rfl) (by exact rfl) (by exact rfl) (fun t=>?_) (fun t=>?_)
  ·have h:=Ji t h
   refine vM rfl .nil .nil (dD rfl rfl rfl rfl rfl) aK.z<|vM rfl (aS.cons 0 rfl .nil) .nil (d_ 0 rfl rfl rfl rfl rfl) aK.z<|vM rfl (aS.cons 2 rfl .nil) .nil (fM rfl (aT (aC.res 0 rfl) jP) rfl) aK.z<|vM rfl .nil .nil (wX rfl rfl) aK.z<|jqN rfl (JW rfl rfl)<|jkMove rfl ?_
   refine IK (by exact rfl) (by exact rfl) (by exact rfl) (fun u=>?_) (fun u=>?_)
   ·have h:=Ji u h
    refine vM rfl .nil .nil (dD rfl rfl rfl rfl rfl) aK.z<|vM rfl (aS.cons 0 rfl .nil) .nil (d_ 0 rfl rfl rfl rfl rfl) aK.z<|vM rfl .nil .nil (dD rfl rfl rfl rfl rfl) aK.z<|vM rfl (aS.cons 0 rfl .nil) .nil (d_ 0 rfl rfl rfl rfl rfl) aK.z<|vM rfl (aS.cons 2 rfl .nil) .nil (fM rfl (aT (aC.res 0 rfl) jP) rfl) aK.z<|vM rfl .nil .nil (pD rfl rfl) aK.z<|ckE h fun af h=>vM rfl (aS.cons 2 rfl .nil) .nil (bG rfl rfl (aT (aC.res 0 rfl) jP) rfl rfl af) aK.z<|vM rfl (aS.cons 2 rfl .nil) .nil (cK rfl (aT (aC.res 0 rfl) jP) rfl rfl rfl AH af) aK.z<|vM rfl .nil .nil (yE rfl rfl) aK.z<|jqN rfl (JW rfl rfl)<|jqN rfl (nX rfl)<|bF 22 rfl rfl<|qkAsg rfl<|dtN ?_
    exact bO (decide ((at' d.2.2.2.2.2.2.2.1 (wI .i64 ((List.length d.2.2.2.2.2.2.2.1:Int) - (1:Int))))=(0:Int))) () h SF (aS.ix [3,4] rfl rfl) (aA.refl _ _)
   have h:=Zv u h
   refine eV rfl rfl rfl rfl<|eV rfl rfl rfl rfl<|eV rfl rfl rfl rfl<|eV rfl rfl rfl rfl<|eV rfl rfl rfl rfl<|eV rfl rfl rfl rfl<|eV rfl rfl rfl rfl<|eV rfl rfl rfl rfl<|eV rfl rfl rfl rfl<|jqN rfl (Gt rfl rfl)<|jqN rfl (nX rfl)<|bF 22 rfl rfl<|qkAsg rfl<|dtN ?_
   exact bO (false) () h SF (aS.ix [3,4] rfl rfl) (aA.refl _ _)
  have h:=Zv t h
  refine eV rfl rfl rfl rfl<|eV rfl rfl rfl rfl<|eV rfl rfl rfl rfl<|eV rfl rfl rfl rfl<|jqN rfl (Gt rfl rfl)<|jkMove rfl<|eV rfl rfl rfl rfl<|eV rfl rfl rfl rfl<|eV rfl rfl rfl rfl<|eV rfl rfl rfl rfl<|eV rfl rfl rfl rfl<|eV rfl rfl rfl rfl<|eV rfl rfl rfl rfl<|eV rfl rfl rfl rfl<|eV rfl rfl rfl rfl<|jqN rfl (Gt rfl rfl)<|jqN rfl (nX rfl)<|bF 22 rfl rfl<|qkAsg rfl<|dtN ?_
  exact bO (false) () h SF (aS.ix [3,4] rfl rfl) (aA.refl _ _)
 intro s N h
 unfold lG at h
 refine aN ?_
 cases h
 exact dR (b.2.2.2.1,b.2.2.2.2) rfl rfl (RV.tmp rfl) (RV.tmp rfl) (aS.refl _) aA.nil
end Go.Proofs.YtpenklncfhiloaaGreatDoor
end
section
namespace Go.Proofs.YtpenklncfhiloaaGreatDoor
open Go Go.Sx
abbrev pC (z:List rU):xP:=(ByteArray.mk #[99,111,108,111,117,114,105,110,103],eY,z)
theorem aaO:∀x,x<eY.length->BA (at' eY (x:Int)) ∧ -100000<=(at' eY (x:Int)).2.2.1∧(at' eY (x:Int)).2.2.1<=(at' eY (x:Int)).2.2.2.1:=by
 intro x hx
 refine⟨PR x hx,?_⟩
 obtain rfl:x=0:=by simp[eY]at hx;exact hx
 exact⟨by decide,by decide⟩
theorem LW {z:List rU} {g:GR} {c:a_} (h:vC (bY (pC z) g) RC (gO g) c=0) (v:Nat) (a:v<g.2.length):¬vD g c v:=fun q=>by
 have:(vC (bY (pC z) g) RC (gO g) c).testBit v=true:=(AO _ RC _ c v).2 ⟨a,wB.2 q,by unfold gO;rw[Vq,decide_eq_true a]⟩
 rw[h]at this;simp at this
def We (z:List rU) (g:GR) (b:a_) (ws:aQ) (k:Nat) (c:a_):Prop:=
 ∃ch d a,k_ 1000 (pC z) g 1 b ws=some ((BK ch,a,c,d),0)∧Qg g (gO g) k c ch∧k<=ws.length∧a.length=k+1∧at' a (k:Int)=((vC (bY (pC z) g) RC (gO g) c:Nat):Int)∧(k=ws.length∨vC (bY (pC z) g) RC (gO g) c=0)∧c=Br (pC z) eY RC g 1 ws b k∧∀j,j<k->vC (bY (pC z) g) RC (gO g) (Br (pC z) eY RC g 1 ws b j)≠0
theorem MF {g:GR} (I:VG g) {E:a_} (W:g.2.length<=9) (u:IA g E eY):∃c,mN 1000 zV g E=some (c,true)∧IA g c eY∧∀v,v<g.2.length->¬vD g c v:=by
 obtain⟨ws,N,V,M⟩:=JD ([]:aQ) (n:=60) (by omega)
 have D:∀z:List rU,z.map vW=CL RC->∃k c,We z g E ws k c:=fun z C=>by
  obtain⟨k,c,ch,s,j,d,F,K,G,S,x,q,a,o,h⟩:=NM (p:=pC z) I (MY I) C KA (kind:=1) (by omega) (by omega) u (ws:=ws) (by omega) M
   (fun k c ch=>Qg g (gO g) k c ch) (Uv u).m
   (fun k c ch t G K F h L B y=>Xm I F L B (y (by decide)))
  exact⟨k,c,ch,s,j,d,F,G,x,q,a,o,h⟩
 obtain⟨P,O⟩:=exZ (CL RC)
 obtain⟨X,c,H,Q,R,_,l,J,_,_,b,w,A⟩:=D P O
 have i:vC (bY (pC P) g) RC (gO g) c=0:=by
  rcases b with e|e
  ·have:=Uw (f:=xG H) (n:=g.2.length) l.one
   have:=l.sum
   omega
  ·exact e
 refine⟨c,?_,l.r,LW i⟩
 unfold mN
 rw[aZ (Mt 1000)]
 refine OH fun z C=> ?_
 have C:z.map vW=CL RC:=C
 obtain⟨k,T,ch,s,j,d,F,G,x,q,a,o,h⟩:=D z C
 obtain rfl:c=T:=Uq J b w A G a o h
 rw[aZ (show kA 1000 ([]:aQ) 60=_ from N)]
 refine(aZ (show k_ 1000 (pC z) g 1 E ws=_ from d)).trans ?_
 unfold rP lG
 dsimp only
 have U:wI .i64 ((j.length:Int) - 1)=(k:Int):=by rw[wr (by omega) (by omega)];omega
 rw[if_pos rfl,if_pos (by omega),U,cQ (by omega),q,Pd _ (pC P),i]
 rfl
end Go.Proofs.YtpenklncfhiloaaGreatDoor
end
section
namespace Go.Proofs.YtpenklncfhiloaaGreatDoor
open Go.Sx
def mZ  (a:eS):Option eR:=
 some (a.1,a.2)
def m_ (p0:MN) (a:Int×Int×Int×aQ) (c:(Int×Int×Int×aQ)->Option eR) (b:Int×aQ):Option eR:=
 c ((EH .u32 a.1 (at' p0.1 a.2.2.1)),b.1,(wI .i64 (a.2.2.1+(1:Int))),b.2)
def jY (p0:MN) (b:Int×Int×Int×aQ) (c:(Int×Int×Int×aQ)->Option eR) (a:Int×Int×aQ) (d:(Int×Int×aQ)->Option eR):Option eR:=
 if a.2.1<(24:Int)then(ck ((0<=a.2.1∧a.2.1<((24:Nat):Int))∧List.length a.2.2=24) (ck (0<=a.2.1) (ck ((0<=a.2.1∧a.2.1<((24:Nat):Int))∧List.length a.2.2=24) (ck ((0<=a.2.1∧a.2.1<((24:Nat):Int))∧List.length (List.set a.2.2 (Int.toNat a.2.1) (wI .i64 ((at' a.2.2 a.2.1)+(wI .i64 (dC .u32 (oU .u32 (at' p0.1 b.2.2.1) a.2.1) (1:Int))))))=24) (d ((max a.1 (at' (List.set a.2.2 (Int.toNat a.2.1) (wI .i64 ((at' a.2.2 a.2.1)+(wI .i64 (dC .u32 (oU .u32 (at' p0.1 b.2.2.1) a.2.1) (1:Int)))))) a.2.1)),(wI .i64 (a.2.1+(1:Int))),(List.set a.2.2 (Int.toNat a.2.1) (wI .i64 ((at' a.2.2 a.2.1)+(wI .i64 (dC .u32 (oU .u32 (at' p0.1 b.2.2.1) a.2.1) (1:Int))))))))))))else(m_ p0 b c (a.1,a.2.2))
def fO (U:Nat) (p0:MN) (a:Int×Int×Int×aQ) (b:(Int×Int×Int×aQ)->Option eR):Option eR:=
 if a.2.2.1<(List.length p0.1:Int)then(ck (0<=a.2.2.1∧a.2.2.1<(List.length p0.1:Int)) (bM (jY p0 a b) U (a.2.1,(0:Int),a.2.2.2)))else(mZ  (a.1,a.2.1))
def iP (U:Nat) (p0:MN):Option eR:=
 bM (fO U p0) U ((0:Int),(0:Int),(0:Int),(List.replicate 24 (0:Int)))
theorem XX:aO Tryz.prog 47:=Tryz.call47
theorem CQ (U:Nat) {p0:MN} (v0:Value)  (v1:Value)  (v2:Value)  (z3:oV) (r:eS) (h:iP U p0=some r):
  aV Tryz.prog 47 #[Value.agg #[v0,v1,v2,vI (p0.2.2.2.1),vI (p0.2.2.2.2.1),vI (p0.2.2.2.2.2.1),vI (p0.2.2.2.2.2.2.1),vU (p0.2.2.2.2.2.2.2)]] [Sl wV v0 p0.1,Sl wV v1 p0.2.1,S2 bL v2 z3 p0.2.2.1] (fun x:Unit=>Value.tuple #[vU (r.1),vI (r.2)]) (fun x l=>l) (fun _ l=>l):=by
 refine aV.of Tryz.func47 rfl Tryz.ntmps47 rfl fun c=>?_
 unfold iP at h
 refine sqR<|aE (aG.box (cs:=[v0,v1,v2,vI (p0.2.2.2.1),vI (p0.2.2.2.2.1),vI (p0.2.2.2.2.2.1),vI (p0.2.2.2.2.2.2.1),vU (p0.2.2.2.2.2.2.2)]) rfl rfl) rfl fun b1=>qkAsg rfl<|qkAsg rfl<|dtN<|sqR ?_
 refine aE (aG.alloc (cs:=cellsOf cE (List.replicate 24 (0:Int))) rfl (by kernel_rfl)) rfl fun b2=>?_
 refine dtN<|aH<|midU (fun a5=>mZ  a5=some r) (fun a5 b6=>[(2,vU (a5.1)),(3,vI (a5.2))]) (fun a5 b6=>[]) ?_ ?_
 ·refine sqR<|qkFld rfl<|qkLd 1 rfl<|qkLen (aC.fact 0 rfl) rfl<|qkMove rfl<|dtN<|aR<|loopL (fO U p0) (fun a12 b13=>[(2,vU (a12.1)),(3,vI (a12.2.1)),(4,vP b2),(9,v0),(10,vI (List.length p0.1:Int)),(11,vI (a12.2.2.1))]) (fun a12 b13=>[bS b2 (cellsOf cE a12.2.2.2) 138]) ((0:Int),(0:Int),(0:Int),(List.replicate 24 (0:Int))) () h SF (aS.ix [0] rfl rfl) ?_
  intro k14 a12 b13 h
  refine sqR<|qkLss rfl<|dtN<|aH ?_
  refine eZ h rfl (fun h=>?_) fun h=>?_
  ·refine cL<|aH<|midU (fun a18=>m_ p0 a12 (bM (fO U p0) k14) a18=some r) (fun a18 b19=>[(2,vU (EH .u32 a12.1 (at' p0.1 a12.2.2.1))),(3,vI (a18.1)),(4,vP b2),(9,v0),(10,vI (List.length p0.1:Int)),(11,vI (a12.2.2.1))]) (fun a18 b19=>[bS b2 (cellsOf cE a18.2) 138]) ?_ ?_
   ·refine aR<|sqR<|ckE h fun j20 h=>aB (bG rfl rfl (aC.fact 0 rfl) rfl rfl j20) rfl<|aB (cK rfl (aC.fact 0 rfl) rfl rfl rfl AH j20) rfl<|qkAsg rfl<|dtN<|sqR<|qkMove rfl<|qkMove rfl<|aB (Nz rfl rfl) rfl<|qkAsg rfl<|dtN<|sqR<|qkMove rfl<|dtN<|aR<|loopL (jY p0 a12 (bM (fO U p0) k14)) (fun a25 b26=>[(2,vU (EH .u32 a12.1 (at' p0.1 a12.2.2.1))),(3,vI (a25.1)),(4,vP b2),(6,vU (at' p0.1 a12.2.2.1)),(9,v0),(10,vI (List.length p0.1:Int)),(11,vI (a12.2.2.1)),(18,vI (a25.2.1))]) (fun a25 b26=>[bS b2 (cellsOf cE a25.2.2) 138]) (a12.2.1,(0:Int),a12.2.2.2) () h SF (aS.refl _) ?_
    intro k27 a25 b26 h
    refine sqR<|qkLss rfl<|dtN<|aH ?_
    refine eZ h rfl (fun h=>?_) fun h=>?_
    ·refine cL<|aH<|aR<|sqR<|qkMove rfl<|qkAsg rfl<|dtN<|aH ?_
     refine JR.start [0,1,3,0,0,24,56,120,255,511,1023] 8 mixedOrders (by decide +kernel) ?_
     refine JR.open (by exact rfl) ?_
     refine jkMove rfl<|ckE h fun j29 h=>jqN rfl (eN rfl rfl rfl rfl rfl j29.1)<|bD rfl (aS.cons 0 rfl .nil) .nil (EO (e:=cE) rfl (aC.res 0 rfl) rfl rfl rfl rfl j29) aK.z<|jkMove rfl<|jkMove rfl<|ckE h fun j30 h=>jqN rfl (He rfl rfl j30)<|jqN rfl (Lu rfl rfl)<|jqN rfl (EN rfl rfl rfl)<|bF 8 rfl rfl<|qkAdd rfl<|ckE h fun j31 h=>aB (eN rfl rfl rfl rfl rfl j31.1) rfl<|Dk 0 (e:=cE) (wI .i64 ((at' a25.2.2 a25.2.1)+(wI .i64 (dC .u32 (oU .u32 (at' p0.1 a12.2.2.1) a25.2.1) (1:Int))))) j31 rfl rfl rfl rfl rfl rfl rfl<|dtN<|aM<|qkMove rfl<|qkMove rfl<|ckE h fun j32 h=>aB (eN rfl rfl rfl rfl rfl j32.1) rfl<|aB (EO (e:=cE) rfl (aC.res 0 rfl) rfl rfl rfl rfl j32) rfl<|aB (Hc rfl rfl) rfl<|qkAsg rfl<|eI<|inT<|aM<|qkAdd rfl<|qkMove rfl<|dtN ?_
     exact Ah ((max a25.1 (at' (List.set a25.2.2 (Int.toNat a25.2.1) (wI .i64 ((at' a25.2.2 a25.2.1)+(wI .i64 (dC .u32 (oU .u32 (at' p0.1 a12.2.2.1) a25.2.1) (1:Int)))))) a25.2.1)),(wI .i64 (a25.2.1+(1:Int))),(List.set a25.2.2 (Int.toNat a25.2.1) (wI .i64 ((at' a25.2.2 a25.2.1)+(wI .i64 (dC .u32 (oU .u32 (at' p0.1 a12.2.2.1) a25.2.1) (1:Int))))))) () h SF rfl
    refine qP<|eL<|eL<|wU<|inT ?_
    exact iQ (a25.1,a25.2.2) () h SF rfl
   intro a18 b19 h
   unfold m_ at h
   refine aM<|qkAdd rfl<|qkMove rfl<|dtN ?_
   exact Ah ((EH .u32 a12.1 (at' p0.1 a12.2.2.1)),a18.1,(wI .i64 (a12.2.2.1+(1:Int))),a18.2) () h SF rfl
  refine gH ?_
  exact bO (a12.1,a12.2.1) () h SF .nil (aA.refl _ _)
 intro a5 b6 h
 unfold mZ at h
 refine sqR<|qkMove rfl<|qkMove rfl<|qkAsg rfl<|qkAsg rfl<|dtN<|aN ?_
 cases h
 exact dR () rfl rfl (RV.tmp rfl) (RV.tmp rfl) (aS.refl _) aA.nil
end Go.Proofs.YtpenklncfhiloaaGreatDoor
end
section
namespace Go.Proofs.YtpenklncfhiloaaGreatDoor
open Go Go.Sx
def Rb (ch:gJ):Nat:=ch.foldl (· ||| ·) 0
theorem Uf (ch:gJ) (t:Nat):Rb (ch++[t])=Rb ch ||| t:=by unfold Rb;rw[List.foldl_append];rfl
theorem Ue:∀{ch:gJ},(∀t∈ch,t<4294967296)->Rb ch<4294967296:=by
 have c:∀(ch:gJ) (a:Nat),a<4294967296->(∀t∈ch,t<4294967296)->ch.foldl (· ||| ·) a<4294967296:=by
  intro ch
  induction ch with
  |nil=>intro a b _;exact b
  |cons t ch e=>intro a b h;exact e _ (Mm b (h t (by simp))) fun s d=>h s (by simp[d])
 intro ch h
 exact c ch 0 (by omega) h
theorem abe {a k:Nat} (c:k<32) (b:a<4294967296):dC .u32 (oU .u32 (a:Int) (k:Int)) 1=if a.testBit k=true then 1 else 0:=by
 split
 ·rename_i h;exact(NR c b).2 h
 ·rename_i h;exact(aau c b).2 (by simpa using h)
theorem TU {ch:gJ} (hch:∀t∈ch,t<4294967296) (hl:ch.length<=900) {b:Nat} (hb:∀v,v<24->xG ch v<=b) (r1:aQ) (r2:a_) (r3:CT):
  ∃most:Int,iP 1000 (BK ch,r1,r2,r3)=some (((Rb ch:Nat):Int),most)∧most<=(b:Int):=by
 have hil:(BK ch).length=ch.length:=by simp[BK]
 let F:Nat->Nat->Int:=fun k v=>((xG (ch.take k) v:Nat):Int)
 let Q:Nat->aQ:=fun k=>(List.range 24).map (F k)
 have hle:∀k v,xG (ch.take k) v<=900:=fun k v=>Nat.le_trans List.countP_le_length (by simp;omega)
 have hlb:∀k v,v<24->xG (ch.take k) v<=b:=fun k v hv=>Nat.le_trans (List.Sublist.countP_le (List.take_sublist k ch)) (hb v hv)
 unfold iP
 rw[show List.replicate 24 (0:Int)=Q 0 by
  refine List.ext_getElem (by simp[Q]) fun i h1 h2=> ?_
  rw[List.getElem_replicate];simp[Q,F,xG]]
 obtain⟨⟨o,mo,k,q⟩,⟨e1,e2,e3,e4⟩,he⟩:=yK (step:=fO 1000 (BK ch,r1,r2,r3)) (K:=fun x=>some (x.1,x.2.1)) ch.length
  (fun k x=>x.1=((Rb (ch.take k):Nat):Int)∧x.2.1<=(b:Int)∧x.2.2.1=(k:Int)∧x.2.2.2=Q k) (fun k x ag hk hI=>by
  obtain⟨o,mo,i,q⟩:=x
  obtain⟨e1,e2,e3,e4⟩:=hI
  dsimp only at e1 e2 e3 e4
  subst e1 e3 e4
  have ht:at' (BK ch) (k:Int)=((ch[k]:Nat):Int):=by rw[iZ (by omega)];simp[BK]
  have ht32:=hch ch[k] (List.getElem_mem hk)
  have htk:ch.take (k+1)=ch.take k++[ch[k]]:=by rw[Ay hk,iZ hk]
  let G:Nat->aQ:=fun j=>(List.range j).map (F (k+1))++(List.range' j (24 - j)).map (F k)
  have hG:∀j,j<=24->(G j).length=24:=fun j hj=>by simp[G];omega
  have hGj:∀j,j<24->at' (G j) (j:Int)=F k j:=fun j hj=>by
   rw[iZ (by rw[hG j (by omega)];exact hj)];simp[G]
  have hGs:∀j,j<24->(G j).set j (F (k+1) j)=G (j+1):=fun j hj=>by
   show((List.range j).map (F (k+1))++(List.range' j (24 - j)).map (F k)).set j (F (k+1) j)=(List.range (j+1)).map (F (k+1))++(List.range' (j+1) (24 - (j+1))).map (F k)
   rw[List.set_append_right _ _ (by simp),List.length_map,List.length_range,Nat.sub_self,show 24 - j=(24 - (j+1))+1 by omega,List.range'_succ,List.map_cons,List.set_cons_zero,List.range_succ,List.map_append,List.map_singleton,List.append_assoc]
   rfl
  unfold fO
  dsimp only
  rw[if_pos (by omega),cQ (by omega),show Q k=G 0 by simp[Q,G,List.range_eq_range']]
  obtain⟨⟨m',j',q'⟩,⟨i1,i2,i3⟩,hi⟩:=yK (step:=jY (BK ch,r1,r2,r3) (((Rb (ch.take k):Nat):Int),mo,(k:Int),G 0) ag) (K:=fun y=>ag (EH .u32 ((Rb (ch.take k):Nat):Int) ((ch[k]:Nat):Int),y.1,((k+1:Nat):Int),y.2.2)) 24
   (fun j y=>y.1<=(b:Int)∧y.2.1=(j:Int)∧y.2.2=G j) (fun j y ag2 hj hJ=>by
   obtain⟨m',j',q'⟩:=y
   obtain⟨i1,i2,i3⟩:=hJ
   dsimp only at i1 i2 i3
   subst i2 i3
   have hs:=IV (ch.take k) ch[k] j
   rw[<-htk]at hs
   have:=hle k j
   have hbj:=hlb (k+1) j hj
   have hGl:=hG j (by omega)
   have e:wI .i64 (at' (G j) (j:Int)+wI .i64 (dC .u32 (oU .u32 ((ch[k]:Nat):Int) (j:Int)) 1))=F (k+1) j:=by
    rw[abe (by omega) ht32,hGj j hj]
    show wI .i64 (((xG (ch.take k) j:Nat):Int)+_)=((xG (ch.take (k+1)) j:Nat):Int)
    rw[hs]
    split
    ·rw[show wI .i64 (1:Int)=1 from rfl,dY (by omega)]
    ·rw[show wI .i64 (0:Int)=0 from rfl,wr (by omega) (by omega)];omega
   refine⟨(max m' (F (k+1) j),((j+1:Nat):Int),G (j+1)),⟨?_,rfl,rfl⟩,?_⟩
   ·have:F (k+1) j<=(b:Int):=by show((xG (ch.take (k+1)) j:Nat):Int)<=_;omega
    dsimp only;omega
   ·unfold jY
    dsimp only
    have hat:at' ((G j).set j (F (k+1) j)) (j:Int)=F (k+1) j:=by rw[uD _ _ _ _ (by omega),if_pos rfl]
    rw[if_pos (by omega),cQ (by omega),cQ (by omega),cQ (by omega),ht,e,Int.toNat_natCast,cQ (by rw[List.length_set];omega),hat,dY (by omega),hGs j hj]) (fun y ag2 hJ=>by
   obtain⟨m',j',q'⟩:=y
   obtain⟨i1,i2,i3⟩:=hJ
   dsimp only at i1 i2 i3
   subst i2 i3
   unfold jY m_
   dsimp only
   rw[if_neg (by omega),ht,dY (by omega)]) 1000 (mo,(0:Int),G 0) ⟨e2,rfl,rfl⟩ (by omega)
  dsimp only at i1 i2 i3 hi
  refine⟨_,⟨?_,i1,rfl,?_⟩,hi⟩
  ·dsimp only
   rw[htk,Uf,XI (Ue fun t h=>hch t (List.mem_of_mem_take h)) ht32]
  ·dsimp only
   rw[i3];simp[G,Q]) (fun x ag hI=>by
  obtain⟨o,mo,i,q⟩:=x
  obtain⟨e1,e2,e3,e4⟩:=hI
  dsimp only at e1 e2 e3 e4
  subst e3
  unfold fO mZ
  dsimp only
  rw[if_neg (by omega)]) 1000 ((0:Int),(0:Int),(0:Int),Q 0) ⟨rfl,by dsimp only;omega,rfl,rfl⟩ (by omega)
 dsimp only at e1 e2 he
 refine⟨mo,?_,e2⟩
 rw[he,e1,List.take_length]
end Go.Proofs.YtpenklncfhiloaaGreatDoor
end
section
namespace Go.Proofs.YtpenklncfhiloaaGreatDoor
open Go.Sx
section
def tD  (a:a_):Option a_:=
 some (a)
def tE (b:yY) (a:(Int×a_)->Option a_) (c:a_):Option a_:=
 a ((wI .i64 (b.1+(1:Int))),c)
def pO (p0:cJ) (f:Int->Int->Option Int) (b:yY) (c:(Int×a_)->Option a_) (a:yY) (d:(Int×a_)->Option a_):Option a_:=
 if a.1<(List.length (at' p0 b.1):Int)then(ck (0<=b.1∧b.1<(List.length a.2:Int)) (Option.bind (f b.1 a.1) fun e=>(ck (0<=a.1∧a.1<(List.length (at' a.2 b.1):Int)) (d ((wI .i64 (a.1+(1:Int))),(List.set a.2 (Int.toNat b.1) (List.set (at' a.2 b.1) (Int.toNat a.1) e)))))))else(tE b c (a.2))
def kM (U:Nat) (p0:cJ) (c:Int->Int->Option Int) (a:yY) (b:(Int×a_)->Option a_):Option a_:=
 if a.1<(List.length p0:Int)then(ck (0<=a.1∧a.1<(List.length p0:Int)) (ck (0<=(List.length (at' p0 a.1):Int)∧(List.length (at' p0 a.1):Int)<=1099511627) (ck (0<=a.1∧a.1<(List.length a.2:Int)) (ck (0<=a.1∧a.1<(List.length p0:Int)) (bM (pO p0 c a b) U ((0:Int),(List.set a.2 (Int.toNat a.1) (List.replicate (Int.toNat (List.length (at' p0 a.1):Int)) (0:Int)))))))))else(tD  (a.2))
def uQ (U:Nat) (p0:cJ) (a:Int->Int->Option Int):Option a_:=
 ck (0<=(List.length p0:Int)∧(List.length p0:Int)<=1099511627) (bM (kM U p0 a) U ((0:Int),(List.replicate (Int.toNat (List.length p0:Int)) ([]:aQ))))
theorem XU:aO Tryz.prog 41:=Tryz.call41
theorem Ih (U:Nat) {p0:cJ} {g1:Int->Int->Option Int} (f1:FuncId) (cs1:dO) (Lf:List aX) (hb_g1:aO Tryz.prog f1) (hm_g1:∀(y0:Int) (y1:Int) (r:Int),g1 y0 y1=some r->aV Tryz.prog f1 ([vI (y0),vI (y1)]++cs1).toArray Lf (fun _:Unit=>vI (r)) (fun _ l=>l) (fun _ l=>l)) (v0:Value)  (z1:jT) (r:a_) (h:uQ U p0 g1=some r):
  aV Tryz.prog 41 #[v0,Value.func (.func f1) #[] (cs1).toArray] ([S2 aW v0 z1 p0]++Lf) (fun x:Cd=>x.1) (fun x l=>Ar c_.raw x.1 x.2::gU cE x.2 r::l) (fun _ l=>l):=by
 refine aV.of Tryz.func41 rfl Tryz.ntmps41 rfl fun c=>?_
 refine sqR<|qkAsg rfl<|dtN<|sqR<|qkMove rfl<|aB (iY rfl (aC.fact 0 rfl) rfl) rfl<|ckE h fun j1 h=>dV (oZ cE (Int.toNat (List.length p0:Int)))<|aE (nJ (e:=c_.raw) (eG) rfl rfl rfl rfl j1 rfl rfl rfl) rfl fun u2=>qkAsg rfl<|dtN<|aH<|xC (B:=dO) (fun a5=>tD  a5=some r) (fun a5 b6=>[(5,u2)]) (fun a5 b6=>[Ar c_.raw u2 b6,gU cE b6 a5]) (fun a5 b6=>([S2 aW v0 z1 p0]++Lf)) ?_ ?_
 ·refine sqR<|qkMove rfl<|aB (iY rfl (aC.fact 0 rfl) rfl) rfl<|qkMove rfl<|dtN<|aR<|Ch (B:=dO) (kM U p0 g1) (fun a11 b12=>[(0,v0),(1,Value.func (.func f1) #[] (cs1).toArray),(5,u2),(12,vI (List.length p0:Int)),(13,vI (a11.1))]) (fun a11 b12=>[Ar c_.raw u2 b12,gU cE b12 a11.2]) (fun a11 b12=>([S2 aW v0 z1 p0]++Lf)) ((0:Int),(List.replicate (Int.toNat (List.length p0:Int)) ([]:aQ))) (List.replicate (Int.toNat (List.length p0:Int)) (eG)) h SF (aS.refl _) (aA.refl _ _) ?_
  intro k13 a11 b12 h
  refine sqR<|qkLss rfl<|dtN<|aH ?_
  refine eZ h rfl (fun h=>?_) fun h=>?_
  ·refine cL<|aH<|xC (B:=dO) (fun a17=>tE a11 (bM (kM U p0 g1) k13) a17=some r) (fun a17 b18=>[(0,v0),(1,Value.func (.func f1) #[] (cs1).toArray),(5,u2),(12,vI (List.length p0:Int)),(13,vI (a11.1))]) (fun a17 b18=>[Ar c_.raw u2 b18,gU cE b18 a17]) (fun a17 b18=>([S2 aW v0 z1 p0]++Lf)) ?_ ?_
   ·refine aR<|sqR<|qkMove rfl<|qkAsg rfl<|dtN<|sqR<|qkMove rfl<|qkMove rfl<|qkMove rfl<|qkMove rfl<|ckE h fun j19 h=>aB (cG rfl rfl (aC.fact 0 rfl) rfl rfl j19) rfl<|aB (cI rfl (aC.fact 0 rfl) rfl rfl j19) rfl<|aB (fM rfl (aC.el (aC.fact 0 rfl) j19.1 j19.2) rfl) rfl<|ckE h fun j20 h=>aE (nJ (e:=cE) (0:Int) rfl rfl rfl rfl j20 rfl rfl rfl) rfl fun u21=>ckE h fun j22 h=>aB (cG rfl rfl (aP (i:=1) (j:=2) rfl rfl cW) rfl rfl j22) rfl<|bJ (Know.one ((aT (aC.res 0 rfl) cW))) fun ho23=>dV (qR (k:=a11.1) 2 0 rfl rfl rfl j22) ?_
    refine iK 0 1 ⟨j22.1,by first|exact j22.2|simpa using j22.2⟩ rfl rfl rfl rfl rfl (by simp) ho23 rfl ?_
    refine dtN<|sqR<|qkMove rfl<|qkMove rfl<|ckE h fun j24 h=>aB (cG rfl rfl (aC.fact 0 rfl) rfl rfl j24) rfl<|aB (cI rfl (aC.fact 0 rfl) rfl rfl j24) rfl<|aB (fM rfl (aC.el (aC.fact 0 rfl) j24.1 j24.2) rfl) rfl<|qkMove rfl<|dtN<|aR<|Ch (B:=Unit) (pO p0 g1 a11 (bM (kM U p0 g1) k13)) (fun a28 b29=>[(0,v0),(1,Value.func (.func f1) #[] (cs1).toArray),(5,u2),(6,vI (a11.1)),(12,vI (List.length p0:Int)),(13,vI (a11.1)),(29,vI (List.length (at' p0 a11.1):Int)),(30,vI (a28.1))]) (fun a28 b29=>[Ar c_.raw u2 (List.set b12 (Int.toNat a11.1) u21),gU cE (List.set b12 (Int.toNat a11.1) u21) a28.2]) (fun a28 b29=>([S2 aW v0 z1 p0]++Lf)) ((0:Int),(List.set a11.2 (Int.toNat a11.1) (List.replicate (Int.toNat (List.length (at' p0 a11.1):Int)) (0:Int)))) () h SF (aS.refl _) (aA.refl _ _) ?_
    intro k30 a28 b29 h
    refine sqR<|qkLss rfl<|dtN<|aH ?_
    refine eZ h rfl (fun h=>?_) fun h=>?_
    ·refine cL<|aH<|aR<|sqR<|qkMove rfl<|qkAsg rfl<|dtN ?_
     refine JR.start [0,0,3,7,0,0,0,0,224,511,1023] 9 mixedOrders (by decide +kernel) ?_
     refine JR.open (by exact rfl) ?_
     refine jkMove rfl<|jkMove rfl<|ckE h fun j32 h=>bN (bZ 1 rfl) fun hl33=>?_
     refine bD rfl (aS.cons 0 rfl .nil) .nil (eM 0 rfl rfl rfl rfl rfl j32.1 (by have q1:=j32.2;have q2:=hl33;(try simp only[List.length_set]at q1);(try simp only[List.length_set]at q2);(try simp only[List.length_set]);omega)) aK.z ?_
     refine bN (bZ 1 rfl) fun hl34=>bD rfl (aS.cons 0 rfl .nil) .nil (gZ 0 rfl rfl hl34 rfl rfl j32) aK.z<|jkMove rfl<|jkMove rfl<|jkMove rfl<|jkMove rfl<|bnE h fun r35 w36 h=>JR.loud rfl rfl rfl (oY (vs:=[vI (a11.1),vI (a28.1)]) (cs:=cs1) hb_g1 rfl (hm_g1 a11.1 a28.1 r35 w36) rfl (aA.tail _) (fun _ _=>rfl)) rfl (fun x37=>(jM [([0],[]),([0],[])] rfl)) fun x37=>bF 9 rfl rfl<|ckE h fun j38 h=>aB (bG rfl rfl (aC.row (j:=1) rfl cW j32.1 j32.2) rfl rfl j38) rfl<|JN (yB (us:=[vI (r35)]) (o:=0) (k:=a11.1) 1 r35 ⟨j32.1,by first|exact j32.2|simpa using j32.2⟩ j38 rfl rfl rfl rfl rfl rfl rfl rfl rfl rfl) fun x39=>eI<|inT<|aM<|qkAdd rfl<|qkMove rfl<|dtN ?_
     exact Ah ((wI .i64 (a28.1+(1:Int))),(List.set a28.2 (Int.toNat a11.1) (List.set (at' a28.2 a11.1) (Int.toNat a28.1) r35))) () h SF rfl
    refine qP<|eL<|eL<|wU<|inT ?_
    exact iQ (a28.2) (List.set b12 (Int.toNat a11.1) u21) h SF rfl
   intro a17 b18 h
   unfold tE at h
   refine aM<|qkAdd rfl<|qkMove rfl<|dtN ?_
   exact Ah ((wI .i64 (a11.1+(1:Int))),a17) (b18) h SF rfl
  refine gH ?_
  exact iQ (a11.2) (b12) h SF rfl
 intro a5 b6 h
 unfold tD at h
 refine sqR<|qkMove rfl<|qkAsg rfl<|dtN<|aN ?_
 cases h
 exact gE (u2,b6) rfl rfl (RV.tmp rfl) (aS.refl _) aA.nil
end
section
def qK (U:Nat) (p0:Int) (p1:Int) (p2:a_) (p3:qC) (p4:cT) (b:cT) (a:cJ) (d:Bool):Option (Int):=
 if d=true then(ck (0<=p0∧p0<(List.length b.2:Int)) (ck (0<=(at' (at' p2 p0) p1)∧(at' (at' p2 p0) p1)<(List.length (at' b.2 p0):Int)) (Option.bind (fS U ((p4.1,p4.2)) p0 ((at' (at' b.2 p0) (at' (at' p2 p0) p1)).1)) fun e=>(some (e)))))else(ck (0<=p1∧p1<(List.length p3.2.1:Int)) (ck (0<=p0∧p0<(List.length a:Int)) (ck (0<=p1∧p1<(List.length (at' a p0):Int)) (Option.bind (qW U ((at' p3.2.1 p1).2.1) ((((at' (at' a p0) p1).1),((at' (at' a p0) p1).2))) (at' (at' p2 p0) p1)) fun c=>(some (c))))))
def wA (U:Nat) (p0:Int) (p1:Int) (p2:a_) (p3:qC) (p4:cT) (a:cT) (b:cJ):Option (Int):=
 ck (0<=p0∧p0<(List.length p2:Int)) (ck (0<=p1∧p1<(List.length (at' p2 p0):Int)) (ck (0<=p1∧p1<(List.length p3.2.1:Int)) (if((at' p3.2.1 p1).2.1)=(3:Int)then(qK U p0 p1 p2 p3 p4 a b (decide ((0:Int)<=(at' (at' p2 p0) p1))))else(qK U p0 p1 p2 p3 p4 a b (false)))))
theorem XV:aO Tryz.prog 42:=Tryz.call42
theorem Fy (U:Nat) {p0:Int} {p1:Int} {p2:a_} {p3:qC} {p4:cT} {p5:cT} {p6:cJ} (bx0:Nat)  (v1:Value)  (z2:oV)  (bx3:Nat)  (v4:Value)  (v5:Value)  (bx6:Nat)  (v7:Value)  (v8:Value)  (z9:jT)  (bx10:Nat)  (v11:Value)  (v12:Value)  (z13:jT)  (bx14:Nat)  (v15:Value)  (z16:jT) (r:Int) (h:wA U p0 p1 p2 p3 p4 p5 p6=some r):
  aV Tryz.prog 42 #[vI (p0),vI (p1),vP bx0,vP bx3,vP bx6,vP bx10,vP bx14] [bS bx0 [v1] 30,S2 bL v1 z2 p2,bS bx3 [vS (p3.1),v4,v5] 41,Sl aJ v4 p3.2.1,Sl aF v5 p3.2.2,bS bx6 [v7,v8] 28,Sl bL v7 p4.1,S2 aW v8 z9 p4.2,bS bx10 [v11,v12] 28,Sl bL v11 p5.1,S2 aW v12 z13 p5.2,bS bx14 [v15] 89,S2 aW v15 z16 p6] (fun x:Unit=>vI (r)) (fun x l=>l) (fun _ l=>l):=by
 refine aV.of Tryz.func42 rfl Tryz.ntmps42 rfl fun c=>?_
 refine sqR<|qkAsg rfl<|dtN<|sqR<|aB (cZ rfl (aC.fact 0 rfl) rfl rfl rfl) rfl<|qkMove rfl<|ckE h fun j1 h=>aB (cG rfl rfl (aC.fact 1 rfl) rfl rfl j1) rfl<|aB (cI rfl (aC.fact 1 rfl) rfl rfl j1) rfl<|qkMove rfl<|ckE h fun j2 h=>aB (bG rfl rfl (aC.el (aC.fact 1 rfl) j1.1 j1.2) rfl rfl j2) rfl<|aB (cK rfl (aC.el (aC.fact 1 rfl) j1.1 j1.2) rfl rfl rfl fE j2) rfl<|qkAsg rfl<|dtN<|aH<|aH<|midU (fun a4=>qK U p0 p1 p2 p3 p4 p5 p6 a4=some r) (fun a4 b5=>[(0,vI (p0)),(1,vI (p1)),(3,vP bx3),(4,vP bx6),(5,vP bx10),(6,vP bx14),(10,vI (at' (at' p2 p0) p1)),(28,vB (a4))]) (fun a4 b5=>[]) ?_ ?_
 ·refine aM<|qkFld rfl<|aB (cZ rfl (aC.fact 2 rfl) rfl rfl rfl) rfl<|qkMove rfl<|ckE h fun j18 h=>aB (bG rfl rfl (aC.fact 3 rfl) rfl rfl j18) rfl<|aB (jJ rfl rfl rfl rfl rfl) rfl<|aB (mD rfl (aC.fact 3 rfl) rfl rfl rfl mC j18) rfl<|qkEql rfl<|qkMove rfl ?_
  refine AS h rfl (fun _ h=>?_) fun _ h=>?_
  ·refine gyMove rfl<|aL rfl (Bf rfl rfl) rfl<|qkPkT rfl<|dtN ?_
   exact iQ (decide ((0:Int)<=(at' (at' p2 p0) p1))) () h SF rfl
  refine gdSkip rfl<|gdSkip rfl<|qkPkF rfl<|dtN ?_
  exact iQ (false) () h SF rfl
 intro a4 b5 h
 refine zQ h rfl (fun _ h=>?_) fun _ h=>?_
 ·refine aH ?_
  refine JR.start [0,0,0,4,0,28,60,0,252,508,1020,2047,4095] 11 mixedOrders (by decide +kernel) ?_
  refine JR.open (by exact rfl) ?_
  refine bD rfl .nil (lA 5 rfl) (Ly rfl (aC.fact 0 rfl) rfl rfl) aK.z<|jkMove rfl<|jkFld rfl<|bD rfl .nil (lA 8 rfl) (cZ rfl (aC.fact 0 rfl) rfl rfl rfl) aK.z<|jkMove rfl<|ckE h fun j7 h=>bD rfl .nil (lA 10 rfl) (cG rfl rfl (aC.fact 0 rfl) rfl rfl j7) aK.z<|bD rfl .nil (lA 10 rfl) (cI rfl (aC.fact 0 rfl) rfl rfl j7) aK.z<|jkMove rfl<|ckE h fun j8 h=>bD rfl .nil (lA 10 rfl) (bG rfl rfl (aC.el (aC.fact 0 rfl) j7.1 j7.2) rfl rfl j8) aK.z<|jqN rfl (jJ rfl rfl rfl rfl rfl)<|bD rfl .nil (lA 10 rfl) (mD rfl (aC.el (aC.fact 0 rfl) j7.1 j7.2) rfl rfl rfl vN j8) aK.z<|bF 11 rfl rfl<|bnE h fun r9 w10 h=>aE (aG.callQ EU (oP U v7 v8 z9 r9 w10) rfl (iJ [6,7] rfl)) rfl fun x11=>qkAsg rfl<|dtN<|aN<|aI ?_
  cases h
  exact lD rfl
 refine cL<|aH ?_
 refine JR.start [0,1,0,7,15,31,0,0,192,448,0,1984,4032,0,16383,32767] 14 mixedOrders (by decide +kernel) ?_
 refine JR.open (by exact rfl) ?_
 refine jkFld rfl<|bD rfl .nil (lA 2 rfl) (cZ rfl (aC.fact 0 rfl) rfl rfl rfl) aK.z<|jkMove rfl<|ckE h fun j12 h=>bD rfl .nil (lA 3 rfl) (bG rfl rfl (aC.fact 0 rfl) rfl rfl j12) aK.z<|jqN rfl (jJ rfl rfl rfl rfl rfl)<|bD rfl .nil (lA 3 rfl) (mD rfl (aC.fact 0 rfl) rfl rfl rfl mC j12) aK.z<|bD rfl .nil (lA 11 rfl) (cZ rfl (aC.fact 0 rfl) rfl rfl rfl) aK.z<|jkMove rfl<|ckE h fun j13 h=>bD rfl .nil (lA 12 rfl) (cG rfl rfl (aC.fact 0 rfl) rfl rfl j13) aK.z<|bD rfl .nil (lA 12 rfl) (cI rfl (aC.fact 0 rfl) rfl rfl j13) aK.z<|jkMove rfl<|ckE h fun j14 h=>bD rfl .nil (lA 12 rfl) (bG rfl rfl (aC.el (aC.fact 0 rfl) j13.1 j13.2) rfl rfl j14) aK.z<|bD rfl .nil (lA 12 rfl) (gV (cs:=[vI ((at' (at' p6 p0) p1).1),vI ((at' (at' p6 p0) p1).2)]) rfl (aC.el (aC.fact 0 rfl) j13.1 j13.2) aU rfl rfl rfl rfl j14) aK.z<|jkMove rfl<|bF 14 rfl rfl<|bnE h fun r15 w16 h=>aE (aG.callQ SE (BX U  r15 w16) rfl .nil) rfl fun x17=>qkAsg rfl<|dtN<|aN ?_
 cases h
 exact lD rfl
end
section
def tA (U:Nat) (p0:qC) (p1:cT) (p2:cT) (p3:a_) (a15:Bool):Option (a_×Int):=
 if a15=true then(some (([]:a_),(9:Int)))else(Option.bind (eP U ((p0.1,p0.2.1,p0.2.2)) ((p1.1,p1.2))) fun r18=>(Option.bind (iU U r18 p3) fun r21=>(if(!r21)=true then(some (([]:a_),(10:Int)))else(Option.bind (eP U ((p0.1,p0.2.1,p0.2.2)) ((p2.1,p2.2))) fun r25=>(Option.bind (uQ U r25 (fun y0 y1=>wA U y0 y1 p3 ((p0.1,p0.2.1,p0.2.2)) ((p2.1,p2.2)) ((p1.1,p1.2)) r25)) fun r30=>(some (r30,(0:Int))))))))
def pN (U:Nat) (p0:qC) (p1:cT) (p2:cT) (p3:a_) (a:Bool):Option (a_×Int):=
 if a=true then(some (([]:a_),(1:Int)))else(Option.bind (jR U ((p0.1,p0.2.1,p0.2.2)) ((p1.1,p1.2))) fun b=>(if b≠(0:Int)then(tA U p0 p1 p2 p3 (true))else(Option.bind (jR U ((p0.1,p0.2.1,p0.2.2)) ((p2.1,p2.2))) fun c=>(tA U p0 p1 p2 p3 (decide (c≠(0:Int)))))))
def lW (U:Nat) (p0:qC) (p1:cT) (p2:cT) (p3:a_):Option (a_×Int):=
 Option.bind (sI U ((p0.1,p0.2.1,p0.2.2))) fun r6=>(if(!r6)=true then(some (([]:a_),(8:Int)))else(Option.bind (dB U ((p1.1,p1.2))) fun r40=>(if(!r40)=true then(pN U p0 p1 p2 p3 (true))else(Option.bind (dB U ((p2.1,p2.2))) fun r44=>(if(!r44)=true then(pN U p0 p1 p2 p3 (true))else(pN U p0 p1 p2 p3 (decide ((List.length p1.1:Int)≠(List.length p2.1:Int)))))))))
theorem Sw:aO Tryz.prog 15:=Tryz.call15
theorem BZ (U:Nat) {p0:qC} {p1:cT} {p2:cT} {p3:a_} (v0:Value)  (v1:Value)  (v2:Value)  (v3:Value)  (z4:jT)  (v5:Value)  (v6:Value)  (z7:jT)  (v8:Value)  (z9:oV) (r:a_×Int) (h:lW U p0 p1 p2 p3=some r):
  aV Tryz.prog 15 #[Value.agg #[vS (p0.1),v0,v1],Value.agg #[v2,v3],Value.agg #[v5,v6],v8] [Sl aJ v0 p0.2.1,Sl aF v1 p0.2.2,PF (Value.agg #[vS p0.1,v0,v1]),Sl bL v2 p1.1,S2 aW v3 z4 p1.2,Sl bL v5 p2.1,S2 aW v6 z7 p2.2,S2 bL v8 z9 p3] (fun x:Cd=>Value.tuple #[x.1,vI (r.2)]) (fun x l=>Ar c_.raw x.1 x.2::gU cE x.2 r.1::l) (fun _ l=>l):=by
 refine aV.of Tryz.func15 rfl Tryz.ntmps15 rfl fun c=>?_
 refine sqR<|aE (aG.box (cs:=[vS (p0.1),v0,v1]) rfl rfl) rfl fun b1=>aE (aG.box (cs:=[v2,v3]) rfl rfl) rfl fun b2=>aE (aG.box (cs:=[v5,v6]) rfl rfl) rfl fun b3=>bJ (Know.one (aC.sl (aC.fact 7 rfl))) fun ho5=>?_
 refine aE (aG.box (cs:=[v8]) rfl (by rw[cY ho5])) rfl fun b4=>?_
 refine qkAsg rfl<|qkAsg rfl<|dtN<|aH<|sqR<|qkLdA 3 rfl<|bnE h fun r6 w7 h=>aE (aG.callQ NF (De U v0 v1 r6 w7) rfl (iJ [0,1,2] rfl)) rfl fun x8=>aB (o_ rfl) rfl<|dtN ?_
 refine zQ h rfl (fun _ h=>?_) fun _ h=>?_
 ·refine sqR<|qkAsg rfl<|qkAsg rfl<|dtN<|aN<|aI<|dV (dA c_.raw) (dV (gY cE) ?_)
  cases h
  exact dR ((eG),([]:dO)) rfl rfl (RV.tmp rfl) (RV.tmp rfl) (aS.ix [1,0] rfl rfl) aA.nil
 refine cL<|aH<|aH<|midU (fun a11=>pN U p0 p1 p2 p3 a11=some r) (fun a11 b12=>[(4,vP b1),(5,vP b2),(6,vP b3),(7,vP b4),(30,vB (a11))]) (fun a11 b12=>[bS b4 [v8] 30,bS b3 [v5,v6] 28,bS b2 [v2,v3] 28,bS b1 [vS (p0.1),v0,v1] 41]) ?_ ?_
 ·refine aM<|qkLdA 2 rfl<|bnE h fun r40 w41 h=>aE (aG.callQ Do (nO U v2 v3 z4 r40 w41) rfl (iJ [3,4] rfl)) rfl fun x42=>aB (o_ rfl) rfl<|qkMove rfl ?_
  refine qE (by exact rfl) (by exact rfl) (fun hp43=>?_) (fun hp43=>?_)
  ·have h:=Ji hp43 h
   refine gdSkip rfl<|gdSkip rfl<|gdSkip rfl<|qkPkT rfl<|qkMove rfl<|gdSkip rfl<|gdSkip rfl<|gdSkip rfl<|gdSkip rfl<|gdSkip rfl<|gdSkip rfl<|gdSkip rfl<|qkPkT rfl<|dtN ?_
   exact iQ (true) () h SF rfl
  have h:=Eh hp43 h
  refine aL rfl (eF 1 rfl rfl rfl rfl) rfl<|bnE h fun r44 w45 h=>pB rfl (aG.callQ Do (nO U v5 v6 z7 r44 w45) rfl (iJ [5,6] rfl)) rfl fun x46=>aL rfl (o_ rfl) rfl<|qkPkF rfl<|qkMove rfl ?_
  refine qE (by exact rfl) (by exact rfl) (fun hp47=>?_) (fun hp47=>?_)
  ·have h:=Ji hp47 h
   refine gdSkip rfl<|gdSkip rfl<|gdSkip rfl<|gdSkip rfl<|gdSkip rfl<|gdSkip rfl<|gdSkip rfl<|qkPkT rfl<|dtN ?_
   exact iQ (true) () h SF rfl
  have h:=Eh hp47 h
  refine aL rfl (dD rfl rfl rfl rfl rfl) rfl<|aL rfl (d_ 2 rfl rfl rfl rfl rfl) rfl<|aL rfl (fM rfl (aC.fact 3 rfl) rfl) rfl<|aL rfl (dD rfl rfl rfl rfl rfl) rfl<|aL rfl (d_ 1 rfl rfl rfl rfl rfl) rfl<|aL rfl (fM rfl (aC.fact 5 rfl) rfl) rfl<|aL rfl (FK rfl rfl) rfl<|qkPkF rfl<|dtN ?_
  exact iQ (decide ((List.length p1.1:Int)≠(List.length p2.1:Int))) () h SF rfl
 intro a11 b12 h
 refine zQ h rfl (fun _ h=>?_) fun _ h=>?_
 ·refine sqR<|qkAsg rfl<|qkAsg rfl<|dtN<|aN<|aI<|dV (dA c_.raw) (dV (gY cE) ?_)
  cases h
  exact dR ((eG),([]:dO)) rfl rfl (RV.tmp rfl) (RV.tmp rfl) (aS.ix [1,0] rfl rfl) aA.nil
 refine cL<|aH<|aH<|midU (fun a15=>tA U p0 p1 p2 p3 a15=some r) (fun a15 b16=>[(4,vP b1),(5,vP b2),(6,vP b3),(7,vP b4),(40,vB (a15))]) (fun a15 b16=>[bS b4 [v8] 30,bS b3 [v5,v6] 28,bS b2 [v2,v3] 28,bS b1 [vS (p0.1),v0,v1] 41]) ?_ ?_
 ·refine aM<|qkLdA 3 rfl<|qkLdA 2 rfl<|bnE h fun r33 w34 h=>aE (aG.callQ NG (z_ U v0 v1 v2 v3 z4 r33 w34) rfl (iJ [0,1,2,3,4] rfl)) rfl fun x35=>qkNeq rfl<|qkMove rfl ?_
  refine AS h rfl (fun _ h=>?_) fun _ h=>?_
  ·refine gdSkip rfl<|gdSkip rfl<|gdSkip rfl<|gdSkip rfl<|qkPkT rfl<|dtN ?_
   exact iQ (true) () h SF rfl
  refine aL rfl (eF 3 rfl rfl rfl rfl) rfl<|aL rfl (eF 1 rfl rfl rfl rfl) rfl<|bnE h fun r37 w38 h=>pB rfl (aG.callQ NG (z_ U v0 v1 v5 v6 z7 r37 w38) rfl (iJ [0,1,2,5,6] rfl)) rfl fun x39=>aL rfl (FK rfl rfl) rfl<|qkPkF rfl<|dtN ?_
  exact iQ (decide (r37≠(0:Int))) () h SF rfl
 intro a15 b16 h
 refine zQ h rfl (fun _ h=>?_) fun _ h=>?_
 ·refine sqR<|qkAsg rfl<|qkAsg rfl<|dtN<|aN<|aI<|dV (dA c_.raw) (dV (gY cE) ?_)
  cases h
  exact dR ((eG),([]:dO)) rfl rfl (RV.tmp rfl) (RV.tmp rfl) (aS.ix [1,0] rfl rfl) aA.nil
 refine cL<|aH<|aH ?_
 refine JR.start [0,0,3,0,15,31] 4 mixedOrders (by decide +kernel) ?_
 refine JR.open (by exact rfl) ?_
 refine jkLdA 3 rfl<|jkLdA 2 rfl<|bnE h fun r18 w19 h=>JR.loud rfl rfl rfl (aG.callQ Hl (rA U v0 v1 v2 v3 z4 r18 w19) rfl (iJ [0,1,2,3,4] rfl)) rfl (fun x20=>(jM [] rfl)) fun x20=>bD rfl (aS.cons 2 rfl .nil) .nil (d_ 0 rfl rfl rfl rfl rfl) (aK.h (aS.ix [0] rfl rfl) .nil aK.z)<|bF 4 rfl rfl<|bnE h fun r21 w22 h=>aE (aG.callQ SD (Bl U x20.1 (List.zip x20.2 r18) v8 z9 r21 w22) rfl (aA.cons (aP (i:=0) (j:=1) rfl rfl aU) (iJ [7] rfl))) rfl fun x23=>aB (o_ rfl) rfl<|dtN ?_
 refine zQ h rfl (fun _ h=>?_) fun _ h=>?_
 ·refine sqR<|qkAsg rfl<|qkAsg rfl<|dtN<|aN<|aI<|dV (dA c_.raw) (dV (gY cE) ?_)
  cases h
  exact dR ((eG),([]:dO)) rfl rfl (RV.tmp rfl) (RV.tmp rfl) (aS.ix [1,0] rfl rfl) aA.nil
 refine cL<|sqR<|qkLdA 5 rfl<|qkLdA 3 rfl<|bnE h fun r25 w26 h=>aE (aG.callQ Hl (rA U v0 v1 v5 v6 z7 r25 w26) rfl (iJ [0,1,2,5,6] rfl)) rfl fun x27=>aE (aG.alloc (cs:=[eG]) rfl rfl) rfl fun b28=>bJ (Know.one (aC.sl (aP (i:=1) (j:=2) rfl rfl aU))) fun ho29=>fY 0 rfl rfl ho29 rfl rfl rfl<|dtN<|sqR<|qkLd 0 rfl<|aB (vR (cs:=[.tmp 7,.tmp 4,.tmp 6,.tmp 5,.tmp 10]) (vs:=[vP b4,vP b1,vP b3,vP b2,vP b28]) rfl) rfl<|bnE h fun r30 w31 h=>aE (aG.callQ XU (Ih U 42 [vP b4,vP b1,vP b3,vP b2,vP b28] [bS b4 [v8] 30,S2 bL v8 z9 p3,bS b1 [vS (p0.1),v0,v1] 41,Sl aJ v0 p0.2.1,Sl aF v1 p0.2.2,bS b3 [v5,v6] 28,Sl bL v5 p2.1,S2 aW v6 z7 p2.2,bS b2 [v2,v3] 28,Sl bL v2 p1.1,S2 aW v3 z4 p1.2,bS b28 [x27.1] 89,S2 aW x27.1 (List.zip x27.2 r25) r25] XV (fun y0 y1 r h=>Fy U b4 v8 z9 b1 v0 v1 b3 v5 v6 z7 b2 v2 v3 z4 b28 x27.1 (List.zip x27.2 r25) r h) x27.1 (List.zip x27.2 r25) r30 w31) rfl (aA.cons (aP (i:=1) (j:=2) rfl rfl aU) (aA.cons (aC.res 5 rfl) (aA.cons (aC.fact 7 rfl) (aA.cons (aC.res 8 rfl) (aA.cons (aC.fact 0 rfl) (aA.cons (aC.fact 1 rfl) (aA.cons (aC.res 6 rfl) (aA.cons (aC.fact 5 rfl) (aA.cons (aC.fact 6 rfl) (aA.cons (aC.res 7 rfl) (aA.cons (aC.fact 3 rfl) (aA.cons (aC.fact 4 rfl) (aA.cons (aC.res 0 rfl) (aA.cons (aP (i:=1) (j:=2) rfl rfl aU) .nil))))))))))))))) rfl fun x32=>qkAsg rfl<|qkAsg rfl<|dtN<|aN ?_
 cases h
 exact dR (x32.1,x32.2) rfl rfl (RV.tmp rfl) (RV.tmp rfl) (aS.ix [0,1] rfl rfl) aA.nil
end
end Go.Proofs.YtpenklncfhiloaaGreatDoor
end
section
namespace Go.Proofs.YtpenklncfhiloaaGreatDoor
open Go Go.Sx
theorem SO {n:Nat} (z:n<=24) {b:cJ} (u:b.length=n) (p:∀v:Nat,v<n->(at' b (v:Int)).length=1) {c:a_} (hc:c.length=n) (o:∀v:Nat,v<n->(at' c (v:Int)).length=1) {d:Int->Int->Option Int} (h:∀v:Nat,v<n->d (v:Int) 0=some (at' (at' c (v:Int)) 0)):
  uQ 1000 b d=some c:=by
 let Q:Nat->a_:=fun k=>(List.range k).map (fun v:Nat=>at' c (v:Int))++List.replicate (n - k) []
 have m:∀k,k<=n->(Q k).length=n:=fun k e=>by simp[Q];omega
 unfold uQ
 rw[cQ (by omega),show List.replicate (Int.toNat (b.length:Int)) ([]:aQ)=Q 0 by simp[Q,u]]
 refine dM (step:=kM 1000 b d) (K:=some c) n (fun k=>((k:Int),Q k)) (fun k g e=> ?_) (fun g=> ?_) 1000 (by omega)
 ·have f:=p k e
  have A:=m k (by omega)
  unfold kM
  dsimp only
  rw[if_pos (by omega),cQ (by omega),cQ (by omega),cQ (by omega),cQ (by omega),f]
  refine Eq.trans (dM (step:=pO b d ((k:Int),Q k) g) (K:=g (((k+1:Nat):Int),Q (k+1))) 1 (fun j=>((j:Int),(Q k).set k (if j=0 then[0]else at' c (k:Int)))) (fun j l y=> ?_) (fun l=> ?_) 1000 (by omega)) rfl
  ·obtain rfl:j=0:=by omega
   have s:at' ((Q k).set k [0]) (k:Int)=[0]:=by rw[uD _ _ _ _ (by omega),if_pos rfl]
   obtain⟨a,q⟩:∃a,at' c (k:Int)=[a]:=List.length_eq_one_iff.1 (o k e)
   have r:=h k e
   rw[q]at r
   unfold pO
   dsimp only
   rw[if_pos rfl,if_pos (by rw[f];decide),cQ (by rw[List.length_set];omega),aZ (show d (k:Int) ((0:Nat):Int)=_ from r),s,cQ (by decide),Int.toNat_natCast,List.set_set,if_neg (by decide),q]
   rfl
  ·unfold pO tE
   dsimp only
   rw[if_neg (by rw[f];decide),dY (by omega),if_neg (by decide)]
   have t:(Q k).set k (at' c (k:Int))=Q (k+1):=pX (fun v:Nat=>at' c (v:Int)) [] n k e
   rw[t]
 ·unfold kM tD
  dsimp only
  rw[if_neg (by omega)]
  have:Q n=c:=by
   refine List.ext_getElem (by simp[Q,hc]) fun i f w=> ?_
   have x:i<n:=by omega
   simp only[Q,Nat.sub_self,List.replicate_zero,List.append_nil,List.getElem_map,List.getElem_range]
   rw[iZ (by omega)]
  rw[this]
theorem Ft {g a:GR} (b:a.2.length=g.2.length) {c:a_} (h:IA g c eY):IA a c eY:=by
 refine⟨by rw[b];exact h.len,fun v e=>h.row v (by omega),fun v e x d=> ?_⟩
 obtain rfl:x=0:=by simp[eY]at d;exact d
 have:=h.ok v (by omega) 0 (by decide)
 rw[Zx,Zu]at this
 rw[Zx,Zu,b];exact this
theorem IT {g g':GR} (hV:VG g) (hV':VG g') (hn:g'.2.length=g.2.length) (nm:ByteArray) (z:List rU) {c:a_} (hc:IA g c eY):lW 1000 ((nm,eY,z):xP) g g' c=some (c,0):=by
 have h24:=hV.n24
 have hcl:=hc.len
 have hp:yC g ((nm,eY,z):xP).2.1:=MY hV
 have hp':yC g' ((nm,eY,z):xP).2.1:=MY hV'
 have hw:iU 1000 (tS g eY) c=some true:=by
  have ht:(tS g eY).length=g.2.length:=by simp[tS]
  unfold iU
  rw[if_neg (by rw[ht,hcl];simp)]
  refine dM (step:=iG 1000 (tS g eY) c) (K:=some true) g.2.length (fun k=>(k:Int)) (fun k ag hk=> ?_) (fun ag=> ?_) 1000 (by omega)
  ·have hr:at' (tS g eY) (k:Int)=yZ g eY k:=uT _ hk
   unfold iG
   rw[if_pos (by omega),cQ (by omega),cQ (by omega),hr,aZ (MG hp.len (hc.row k hk) (hc.ok k hk)),if_neg (by decide),dY (by omega)]
  ·unfold iG oM
   rw[if_neg (by omega)]
 have hlen:=hV.len
 have hlen':=hV'.len
 unfold lW pN tA
 rw[aZ (show sI 1000 _=some true from rfl),if_neg (by decide),aZ (show dB 1000 (g.1,g.2)=some true from(CI g).1 hV),if_neg (by decide),aZ (show dB 1000 (g'.1,g'.2)=some true from(CI g').1 hV'),if_neg (by decide),decide_eq_false (by omega),if_neg (by decide),aZ (show jR 1000 _ (g.1,g.2)=some 0 from Kh (p:=(nm,eY,z)) hV hp),if_neg (by decide),aZ (show jR 1000 _ (g'.1,g'.2)=some 0 from Kh (p:=(nm,eY,z)) hV' hp'),decide_eq_false (by decide),if_neg (by decide),aZ (show eP 1000 _ (g.1,g.2)=_ from Ca (p:=(nm,eY,z)) hV hp),aZ (show iU 1000 (tS g eY) c=_ from hw),if_neg (by decide),aZ (show eP 1000 _ (g'.1,g'.2)=_ from Ca (p:=(nm,eY,z)) hV' hp')]
 have hrow:∀v:Nat,v<g.2.length->at' (tS g' eY) (v:Int)=yZ g' eY v:=fun v hv=>uT _ (by omega)
 refine aZ (SO (n:=g.2.length) h24 (by simp[tS,hn]) (fun v hv=>by rw[hrow v hv];simp[yZ,eY]) hcl (fun v hv=>hc.row v hv) fun v hv=> ?_)
 have h1:(at' c (v:Int)).length=1:=hc.row v hv
 have hb:=(Ft hn hc).ok v (by omega) 0 (by decide)
 unfold wA qK
 have hv1:at' eY (0:Int)=at' eY ((0:Nat):Int):=rfl
 have hk:(at' eY (0:Int)).2.1=1:=rfl
 have htl:(tS g' eY).length=g.2.length:=by simp[tS,hn]
 have hrl:(yZ g' eY v).length=1:=by simp[yZ,eY]
 have hcell:at' (yZ g' eY v) (0:Int)=BD g' eY v 0:=uT (k:=0) _ (by decide)
 rw[cQ (by omega),cQ (by omega),cQ (show 0<=(0:Int)∧(0:Int)<(eY.length:Int) by decide)]
 dsimp only
 rw[hk,if_neg (by decide),if_neg (by decide),cQ (show 0<=(0:Int)∧(0:Int)<(eY.length:Int) by decide),cQ (by omega),hrow v hv,cQ (by omega),hcell,aZ (LF 1000 _ _ _)]
 exact congrArg some (if_pos hb)
end Go.Proofs.YtpenklncfhiloaaGreatDoor
end
section
namespace Go.Proofs.YtpenklncfhiloaaGreatDoor
open Go.Sx
section
def lP (p1:Int) (p2:Int) (a:Bool):Option (((Int×Int)×(Int×Int))×Bool):=
 if a=true then(some ((((((0:Int),(0:Int))),(((0:Int),(0:Int))))),false))else(some (((((p1,p2)),((p2,p1)))),true))
def pW (U:Nat) (p0:cT) (p1:Int) (p2:Int):Option (((Int×Int)×(Int×Int))×Bool):=
 if p1<(0:Int)then(lP p1 p2 (true))else(if(List.length p0.1:Int)<=p1 then(lP p1 p2 (true))else(if p2<(0:Int)then(lP p1 p2 (true))else(if(List.length p0.1:Int)<=p2 then(lP p1 p2 (true))else(lP p1 p2 (decide (p1=p2))))))
theorem SC:aO Tryz.prog 32:=Tryz.call32
theorem Dc (U:Nat) {p0:cT} {p1:Int} {p2:Int} (v0:Value)  (v1:Value)  (z2:jT) (r:Ip) (h:pW U p0 p1 p2=some r):
  aV Tryz.prog 32 #[Value.agg #[v0,v1],vI (p1),vI (p2)] [Sl bL v0 p0.1,S2 aW v1 z2 p0.2] (fun x:Unit=>Value.tuple #[Value.agg #[vI (r.1.1.1),vI (r.1.1.2),vI (r.1.2.1),vI (r.1.2.2)],vB (r.2)]) (fun x l=>l) (fun _ l=>l):=by
 refine aV.of Tryz.func32 rfl Tryz.ntmps32 rfl fun c=>?_
 refine sqR<|aE (aG.box (cs:=[v0,v1]) rfl rfl) rfl fun b1=>aE (aG.alloc (cs:=vD5) rfl rfl) rfl fun b2=>qkAsg rfl<|dtN<|sqR<|qkFld rfl<|qkLd 1 rfl<|qkLen (aC.fact 0 rfl) rfl<|qkAsg rfl<|dtN<|aH<|aH<|midU (fun a4=>lP p1 p2 a4=some r) (fun a4 b5=>[(1,vI (p1)),(2,vI (p2)),(6,vP b2),(32,vB (a4))]) (fun a4 b5=>[bS b2 vD5 80]) ?_ ?_
 ·refine aM<|qkMove rfl<|qkLss rfl<|qkMove rfl ?_
  refine AS h rfl (fun _ h=>?_) fun _ h=>?_
  ·refine gdSkip rfl<|gdSkip rfl<|gdSkip rfl<|qkPkT rfl<|qkMove rfl<|gdSkip rfl<|gdSkip rfl<|qkPkT rfl<|qkMove rfl<|gdSkip rfl<|gdSkip rfl<|gdSkip rfl<|qkPkT rfl<|qkMove rfl<|gdSkip rfl<|gdSkip rfl<|gdSkip rfl<|qkPkT rfl<|dtN ?_
   exact bO (true) () h SF (aS.ix [0] rfl rfl) (aA.refl _ _)
  refine gyMove rfl<|gyMove rfl<|aL rfl (Bf rfl rfl) rfl<|qkPkF rfl<|qkMove rfl ?_
  refine AS h rfl (fun _ h=>?_) fun _ h=>?_
  ·refine gdSkip rfl<|gdSkip rfl<|qkPkT rfl<|qkMove rfl<|gdSkip rfl<|gdSkip rfl<|gdSkip rfl<|qkPkT rfl<|qkMove rfl<|gdSkip rfl<|gdSkip rfl<|gdSkip rfl<|qkPkT rfl<|dtN ?_
   exact bO (true) () h SF (aS.ix [0] rfl rfl) (aA.refl _ _)
  refine gyMove rfl<|aL rfl (FJ rfl rfl) rfl<|qkPkF rfl<|qkMove rfl ?_
  refine AS h rfl (fun _ h=>?_) fun _ h=>?_
  ·refine gdSkip rfl<|gdSkip rfl<|gdSkip rfl<|qkPkT rfl<|qkMove rfl<|gdSkip rfl<|gdSkip rfl<|gdSkip rfl<|qkPkT rfl<|dtN ?_
   exact bO (true) () h SF (aS.ix [0] rfl rfl) (aA.refl _ _)
  refine gyMove rfl<|gyMove rfl<|aL rfl (Bf rfl rfl) rfl<|qkPkF rfl<|qkMove rfl ?_
  refine AS h rfl (fun _ h=>?_) fun _ h=>?_
  ·refine gdSkip rfl<|gdSkip rfl<|gdSkip rfl<|qkPkT rfl<|dtN ?_
   exact bO (true) () h SF (aS.ix [0] rfl rfl) (aA.refl _ _)
  refine gyMove rfl<|gyMove rfl<|aL rfl (yE rfl rfl) rfl<|qkPkF rfl<|dtN ?_
  exact bO (decide (p1=p2)) () h SF (aS.ix [0] rfl rfl) (aA.refl _ _)
 intro a4 b5 h
 refine zQ h rfl (fun _ h=>?_) fun _ h=>?_
 ·refine sqR ?_
  refine aB (yD (r:=Value.agg #[vI (0:Int),vI (0:Int),vI (0:Int),vI (0:Int)]) (by intro w;simp[Instr.build,Instr.fill,bV,bQ,bK,bW,bX,bR,cC])) rfl ?_
  refine aY 0 (vs:=vD5) rfl rfl rfl rfl rfl rfl<|qkAsg rfl<|dtN<|aN<|aI ?_
  cases h
  exact dR () rfl rfl (RV.cell 0 rfl rfl rfl rfl) (RV.tmp rfl) .nil aA.nil
 refine cL<|sqR<|qkMove rfl<|qkMove rfl ?_
 refine aB (qT (r:=Value.agg #[vI (p1),vI (p2)]) rfl rfl (by intro w;simp[Instr.build,Instr.fill,bV,bQ,bK,bW,bX,bR,cC])) rfl ?_
 refine qkMove rfl<|qkMove rfl ?_
 refine aB (qT (r:=Value.agg #[vI (p2),vI (p1)]) rfl rfl (by intro w;simp[Instr.build,Instr.fill,bV,bQ,bK,bW,bX,bR,cC])) rfl ?_
 refine aB (qT (r:=Value.agg #[vI (p1),vI (p2),vI (p2),vI (p1)]) rfl rfl (by intro w;simp[Instr.build,Instr.fill,bV,bQ,bK,bW,bX,bR,cC])) rfl ?_
 refine aY 0 (vs:=[vI (p1),vI (p2),vI (p2),vI (p1)]) rfl rfl rfl rfl rfl rfl<|qkAsg rfl<|dtN<|aN ?_
 cases h
 exact dR () rfl rfl (RV.cell 0 rfl rfl rfl rfl) (RV.tmp rfl) .nil aA.nil
end
section
def oJ (U:Nat) (p0:aQ):Option aQ:=
 ck ((List.length ([]:aQ):Int)+(List.length p0:Int)<=1099511627) (some (([]:aQ)++p0))
theorem EV:aO Tryz.prog 34:=Tryz.call34
theorem oQ (U:Nat) {p0:aQ} (d:Value) (r:aQ) (h:oJ U p0=some r):
  aV Tryz.prog 34 #[d] [Sl bL d p0] (fun x:Value=>x) (fun x l=>Ar cE x r::l) (fun _ l=>l):=by
 refine aV.of Tryz.func34 rfl Tryz.ntmps34 rfl fun c=>?_
 unfold oJ at h
 refine sqR<|qkAsg rfl<|dtN<|aH<|sqR<|qkMove rfl<|Qi (aC.fact 0 rfl) (fun a b=>?_) (fun a=>?_)
 ·replace h:(some ([]:aQ))=some r:=by simpa [ck,b]using h
  refine aB (OD rfl (aC.fact 0 rfl) a rfl) rfl<|dtN<|JM rfl<|sqR<|qkAsg rfl<|dtN<|aN<|aI<|dV (dA cE) ?_
  cases h
  exact gE (eG) rfl rfl (RV.tmp rfl) (aS.refl _) aA.nil
 refine aB (OD rfl (aC.fact 0 rfl) a rfl) rfl<|dtN<|AC rfl<|cL<|sqR<|aE (cR (e:=cE) ([]:aQ) [] rfl rfl rfl rfl ((fun i h=>by simp at h;subst h;rfl)) rfl rfl rfl) rfl fun j=>qkMove rfl<|ckE h fun f h=>aE (fU 0 cW rfl rfl rfl (aC.fact 0 rfl) rfl rfl rfl rfl f rfl) rfl fun g=>qkAsg rfl<|dtN<|aN ?_
 cases h
 exact gE (g) rfl rfl (RV.tmp rfl) (aS.refl _) aA.nil
end
section
def rO  (a:cJ):Option (cJ):=
 some (a)
def vX (p0:cJ) (a:Int×cJ) (b:(Int×cJ)->Option (cJ)):Option (cJ):=
 if a.1<(List.length p0:Int)then(ck (0<=a.1∧a.1<(List.length p0:Int)) (ck ((List.length ([]:dQ):Int)+(List.length (at' p0 a.1):Int)<=1099511627) (ck (0<=a.1∧a.1<(List.length a.2:Int)) (b ((wI .i64 (a.1+(1:Int))),(List.set a.2 (Int.toNat a.1) (([]:dQ)++(at' p0 a.1))))))))else(rO  (a.2))
def pM (U:Nat) (p0:cJ):Option (cJ):=
 ck (0<=(List.length p0:Int)∧(List.length p0:Int)<=1099511627) (bM (vX p0) U ((0:Int),(List.replicate (Int.toNat (List.length p0:Int)) ([]:dQ))))
theorem EW:aO Tryz.prog 35:=Tryz.call35
theorem mR (U:Nat) {p0:cJ} (v0:Value)  (z1:jT) (r:cJ) (h:pM U p0=some r):
  aV Tryz.prog 35 #[v0] [S2 aW v0 z1 p0] (fun x:Cd=>x.1) (fun x l=>Ar c_.raw x.1 x.2::gU bH x.2 r::l) (fun _ l=>l):=by
 refine aV.of Tryz.func35 rfl Tryz.ntmps35 rfl fun c=>?_
 refine sqR<|qkAsg rfl<|dtN<|sqR<|qkMove rfl<|aB (iY rfl (aC.fact 0 rfl) rfl) rfl<|ckE h fun j1 h=>dV (oZ bH (Int.toNat (List.length p0:Int)))<|aE (nJ (e:=c_.raw) (eG) rfl rfl rfl rfl j1 rfl rfl rfl) rfl fun u2=>qkAsg rfl<|dtN<|aH<|midL (B:=dO) (fun a5=>rO  a5=some r) (fun a5 b6=>[(3,u2)]) (fun a5 b6=>[Ar c_.raw u2 b6,gU bH b6 a5]) ?_ ?_
 ·refine sqR<|qkMove rfl<|aB (iY rfl (aC.fact 0 rfl) rfl) rfl<|qkMove rfl<|dtN<|aR<|loopL (B:=dO) (vX p0) (fun a11 b12=>[(3,u2),(9,v0),(10,vI (List.length p0:Int)),(11,vI (a11.1))]) (fun a11 b12=>[Ar c_.raw u2 b12,gU bH b12 a11.2]) ((0:Int),(List.replicate (Int.toNat (List.length p0:Int)) ([]:dQ))) (List.replicate (Int.toNat (List.length p0:Int)) (eG)) h SF (aS.refl _) ?_
  intro k13 a11 b12 h
  refine sqR<|qkLss rfl<|dtN<|aH ?_
  refine eZ h rfl (fun h=>?_) fun h=>?_
  ·refine cL<|aH<|aR<|sqR<|qkMove rfl<|ckE h fun j15 h=>aB (cG rfl rfl (aC.fact 0 rfl) rfl rfl j15) rfl<|aB (cI rfl (aC.fact 0 rfl) rfl rfl j15) rfl<|qkAsg rfl<|qkAsg rfl<|dtN<|aM<|qkMove rfl<|qkMove rfl<|qkMove rfl<|dV (dA bH)<|ckE h fun j17 h=>aE (fU 0 aU rfl rfl rfl (aC.el (aC.fact 0 rfl) j15.1 j15.2) rfl rfl rfl rfl j17 rfl) rfl fun u16=>ckE h fun j18 h=>aB (cG rfl rfl (aP (i:=1) (j:=2) rfl rfl aU) rfl rfl j18) rfl<|bJ (Know.one ((aT (aC.res 0 rfl) aU))) fun ho19=>dV (qR (k:=a11.1) 2 0 rfl rfl rfl j18) ?_
   refine iK 0 1 ⟨j18.1,by first|exact j18.2|simpa using j18.2⟩ rfl rfl rfl rfl rfl (by simp) ho19 rfl ?_
   refine eI<|inT<|aM<|qkAdd rfl<|qkMove rfl<|dtN ?_
   exact Ah ((wI .i64 (a11.1+(1:Int))),(List.set a11.2 (Int.toNat a11.1) (([]:dQ)++(at' p0 a11.1)))) (List.set b12 (Int.toNat a11.1) u16) h SF rfl
  refine gH ?_
  exact iQ (a11.2) (b12) h SF rfl
 intro a5 b6 h
 unfold rO at h
 refine sqR<|qkMove rfl<|qkAsg rfl<|dtN<|aN ?_
 cases h
 exact gE (u2,b6) rfl rfl (RV.tmp rfl) (aS.refl _) aA.nil
end
section
def s_ (U:Nat) (p0:dQ) (p1:Int) (p2:Int):Option (dQ):=
 ck (0<=p1∧p1<=p2∧p2<=(List.length p0:Int)∧(List.length p0:Int)<=(List.length p0:Int)) (if p1=p2 then(some (p0))else(ck (0<=(0:Int)∧(0:Int)<=p1∧p1<=(List.length p0:Int)) (ck (0<=p2∧p2<=((List.length p0:Int))∧((List.length p0:Int))<=(List.length p0:Int)) (ck (0<=p1∧p1<p2∧p2<=(List.length p0:Int)) (some ((List.take (Int.toNat p1) p0)++(List.drop (Int.toNat p2) p0)))))))
theorem XT:aO Tryz.prog 36:=Tryz.call36
theorem Gn (U:Nat) {p0:dQ} {p1:Int} {p2:Int} (b:Value) (r:dQ) (h:s_ U p0 p1 p2=some r):
  AG Tryz.prog 36 #[b,vI (p1),vI (p2)] [Ar bH b p0] [] (fun x:Value=>x) (fun x l=>Ar bH x r::l):=by
 refine AG.of (vs:=[b,vI (p1),vI (p2)]) Tryz.func36 rfl Tryz.ntmps36 rfl fun c=>?_
 refine sqR<|qkAsg rfl<|dtN<|sqR<|qkMove rfl<|qkMove rfl<|qkMove rfl<|qkMove rfl<|aB (fM rfl (aT (aC.res 0 rfl) aU) rfl) rfl<|ckE h fun e h=>aB (Sm rfl rfl rfl rfl (aT (aC.res 0 rfl) aU) rfl rfl e) rfl<|dtN<|aH<|sqR<|qkMove rfl<|qkMove rfl<|qkEql rfl<|dtN ?_
 refine eZ h rfl (fun h=>?_) fun h=>?_
 ·refine sqR<|qkMove rfl<|qkAsg rfl<|dtN<|aN<|aI ?_
  cases h
  exact gE (b) rfl rfl (RV.tmp rfl) (aS.refl _) aA.nil
 refine cL<|sqR<|qkMove rfl<|aB (fM rfl (aT (aC.res 0 rfl) aU) rfl) rfl<|qkAsg rfl<|dtN<|aH ?_
 refine JR.start [0,0,3,0,0,24,63,127] 6 mixedOrders (by decide +kernel) ?_
 refine JR.open (by exact rfl) ?_
 refine jkMove rfl<|jkMove rfl<|ckE h fun f h=>bD rfl (aS.cons 0 rfl .nil) .nil (So rfl rfl (aT (aC.res 0 rfl) aU) rfl rfl f) aK.z<|jkMove rfl<|jkMove rfl<|ckE h fun g h=>bD rfl (aS.cons 0 rfl .nil) .nil (Sp rfl rfl (aT (aC.res 0 rfl) aU) rfl rfl g) aK.z<|bF 6 rfl rfl<|ckE h fun d h=>bJ (Know.cap 0 rfl) fun a=>aE (Iz (i:=p1) (j:=p2) 0 aU rfl rfl rfl rfl rfl rfl d) rfl fun k=>qkAsg rfl<|dtN<|sqR<|qkMove rfl<|qkMove rfl<|aB (fM rfl (aT (aC.res 0 rfl) aU) rfl) rfl<|qkMove rfl ?_
 refine aB (LB 0 rfl rfl rfl rfl rfl rfl (Ea.slq a) (by have q:=d;simp;omega)) rfl ?_
 refine KY 0 rfl rfl (Int.toNat_natCast _) (Ea.slq a) (by have q:=d;simp;omega) rfl rfl rfl rfl rfl ?_
 refine dtN<|sqR<|qkMove rfl<|qkAsg rfl<|dtN<|aN ?_
 cases h
 exact gE (slq b 0 (Int.toNat (p1+((List.length p0:Int) - p2))) 2) rfl rfl (RV.tmp rfl) (aS.refl _) aA.nil
end
section
def zT (a:cJ×aQ) (b:cJ):Option Bm:=
 some (((a.2,b)),(0:Int))
def fT (U:Nat) (p0:cT) (b:Ip) (e:cJ×aQ) (a:Int×cJ) (c:(Int×cJ)->Option Bm):Option Bm:=
 if a.1<(2:Int)then(ck (0<=a.1∧a.1<((2:Nat):Int)) (Option.bind (fS U ((p0.1,p0.2)) (at' [b.1.1.1,b.1.2.1] ((Int.toNat a.1:Nat):Int)) (at' [b.1.1.2,b.1.2.2] ((Int.toNat a.1:Nat):Int))) fun d=>(ck (0<=(at' [b.1.1.1,b.1.2.1] ((Int.toNat a.1:Nat):Int))∧(at' [b.1.1.1,b.1.2.1] ((Int.toNat a.1:Nat):Int))<(List.length a.2:Int)) (Option.bind (s_ U (at' a.2 (at' [b.1.1.1,b.1.2.1] ((Int.toNat a.1:Nat):Int))) d (wI .i64 (d+(1:Int)))) fun f=>(ck (0<=(at' [b.1.1.1,b.1.2.1] ((Int.toNat a.1:Nat):Int))∧(at' [b.1.1.1,b.1.2.1] ((Int.toNat a.1:Nat):Int))<(List.length (List.set a.2 (Int.toNat (at' [b.1.1.1,b.1.2.1] ((Int.toNat a.1:Nat):Int))) []):Int)) (c ((wI .i64 (a.1+(1:Int))),(List.set a.2 (Int.toNat (at' [b.1.1.1,b.1.2.1] ((Int.toNat a.1:Nat):Int))) f))))))))else(zT e (a.2))
def wH (U:Nat) (p0:cT) (b:Ip) (a:cJ×aQ):Option Bm:=
 bM (fT U p0 b a) U ((0:Int),a.1)
def wG (U:Nat) (p0:cT) (d:Ip) (a:Bool):Option Bm:=
 if a=true then(some (((([]:aQ),([]:cJ))),(2:Int)))else(Option.bind (oJ U p0.1) fun b=>(Option.bind (pM U p0.2) fun c=>(wH U p0 d (c,b))))
def uO (U:Nat) (p0:cT) (p1:Int) (p2:Int):Option Bm:=
 Option.bind (dB U ((p0.1,p0.2))) fun r3=>(if(!r3)=true then(some (((([]:aQ),([]:cJ))),(1:Int)))else(Option.bind (pW U ((p0.1,p0.2)) p1 p2) fun r7=>(if(!r7.2)=true then(wG U p0 r7 (true))else(Option.bind (fS U ((p0.1,p0.2)) p1 p2) fun r85=>(wG U p0 r7 (decide (r85<(0:Int))))))))
theorem XM:aO Tryz.prog 14:=Tryz.call14
theorem KH (U:Nat) {p0:cT} {p1:Int} {p2:Int} (v0:Value)  (v1:Value)  (z2:jT) (r:(aQ×cJ)×Int) (h:uO U p0 p1 p2=some r):
  aV Tryz.prog 14 #[Value.agg #[v0,v1],vI (p1),vI (p2)] [Sl bL v0 p0.1,S2 aW v1 z2 p0.2] (fun x:Iq=>Value.tuple #[Value.agg #[x.1,x.2.1],vI (r.2)]) (fun x l=>Ar cE x.1 r.1.1::Ar c_.raw x.2.1 x.2.2::gU bH x.2.2 r.1.2::l) (fun _ l=>l):=by
 refine aV.of Tryz.func14 rfl Tryz.ntmps14 rfl fun c=>?_
 refine sqR<|aE (aG.box (cs:=[v0,v1]) rfl rfl) rfl fun b1=>aE (aG.alloc (cs:=[eG,eG]) rfl rfl) rfl fun b2=>qkAsg rfl<|dtN<|aH<|sqR<|qkLdA 1 rfl<|bnE h fun r3 w4 h=>aE (aG.callQ Do (nO U v0 v1 z2 r3 w4) rfl (iJ [0,1] rfl)) rfl fun x5=>aB (o_ rfl) rfl<|dtN ?_
 refine zQ h rfl (fun _ h=>?_) fun _ h=>?_
 ·refine sqR ?_
  refine aB (yD (r:=Value.agg #[eG,eG]) (by intro w;simp[Instr.build,Instr.fill,bV,bQ,bK,bW,bX,bR,cC])) rfl ?_
  refine aY 0 (vs:=[eG,eG]) rfl rfl rfl rfl rfl rfl<|qkAsg rfl<|dtN<|aN<|aI<|dV (dA cE)<|dV (dA c_.raw) (dV (gY bH) ?_)
  cases h
  exact dR ((eG),(eG),([]:dO)) rfl rfl (RV.cell 3 rfl rfl rfl rfl) (RV.tmp rfl) (aS.ix [2,1,0] rfl rfl) aA.nil
 refine cL<|sqR<|qkLdA 1 rfl<|qkMove rfl<|qkMove rfl<|bnE h fun r7 w8 h=>aE (aG.callQ SC (Dc U v0 v1 z2 r7 w8) rfl (iJ [0,1] rfl)) rfl fun x9=>qkMove rfl<|qkExt rfl<|qkExt rfl<|aE (aG.alloc (cs:=vD5) rfl rfl) rfl fun b10=>aY 0 (vs:=[vI (r7.1.1.1),vI (r7.1.1.2),vI (r7.1.2.1),vI (r7.1.2.2)]) rfl rfl rfl rfl rfl rfl<|qkAsg rfl<|dtN<|aH<|aH<|midU (fun a12=>wG U p0 r7 a12=some r) (fun a12 b13=>[(3,vP b1),(6,vP b2),(8,vP b10),(33,vB (a12))]) (fun a12 b13=>[bS b10 [vI (r7.1.1.1),vI (r7.1.1.2),vI (r7.1.2.1),vI (r7.1.2.2)] 80,bS b2 [eG,eG] 28,bS b1 [v0,v1] 28]) ?_ ?_
 ·refine aM<|qkMove rfl<|aB (o_ rfl) rfl<|qkMove rfl ?_
  refine qE (by exact rfl) (by exact rfl) (fun hp84=>?_) (fun hp84=>?_)
  ·have h:=Ji hp84 h
   refine gdSkip rfl<|gdSkip rfl<|gdSkip rfl<|gdSkip rfl<|gdSkip rfl<|qkPkT rfl<|dtN ?_
   exact iQ (true) () h SF rfl
  have h:=Eh hp84 h
  refine aL rfl (eF 2 rfl rfl rfl rfl) rfl<|gyMove rfl<|gyMove rfl<|bnE h fun r85 w86 h=>pB rfl (aG.callQ EU (oP U v0 v1 z2 r85 w86) rfl (iJ [0,1] rfl)) rfl fun x87=>aL rfl (FJ rfl rfl) rfl<|qkPkF rfl<|dtN ?_
  exact iQ (decide (r85<(0:Int))) () h SF rfl
 intro a12 b13 h
 refine zQ h rfl (fun _ h=>?_) fun _ h=>?_
 ·refine sqR ?_
  refine aB (yD (r:=Value.agg #[eG,eG]) (by intro w;simp[Instr.build,Instr.fill,bV,bQ,bK,bW,bX,bR,cC])) rfl ?_
  refine aY 1 (vs:=[eG,eG]) rfl rfl rfl rfl rfl rfl<|qkAsg rfl<|dtN<|aN<|aI<|dV (dA cE)<|dV (dA c_.raw) (dV (gY bH) ?_)
  cases h
  exact dR ((eG),(eG),([]:dO)) rfl rfl (RV.cell 4 rfl rfl rfl rfl) (RV.tmp rfl) (aS.ix [2,1,0] rfl rfl) aA.nil
 refine cL<|aH<|midL (B:=Nat×Value×Value×List Value) (fun a21=>wH U p0 r7 a21=some r) (fun a21 b22=>[(3,vP b1),(6,vP b2),(8,vP b10),(10,vP b22.1)]) (fun a21 b22=>[bS b22.1 [b22.2.1,b22.2.2.1] 28,Ar c_.raw b22.2.2.1 b22.2.2.2,gU bH b22.2.2.2 a21.1,Ar cE b22.2.1 a21.2,bS b10 [vI (r7.1.1.1),vI (r7.1.1.2),vI (r7.1.2.1),vI (r7.1.2.2)] 80,bS b2 [eG,eG] 28,bS b1 [v0,v1] 28]) ?_ ?_
 ·have⟨r52,w53,h⟩:=ZV h
  refine bnE h fun r55 w56 h=>Ad [0,1,3,0,8,31,63,0,255] 8 [[0,1,3,4,2,5,6,7,8],[0,1,3,4,2,7,5,6,8],[0,1,3,4,7,2,5,6,8]] mixedOrders (by decide +kernel) (by decide +kernel) ?_
  intro o ho
  simp only[List.mem_cons,List.not_mem_nil,or_false]at ho
  rcases ho with rfl|rfl|rfl
  ·refine jkFld rfl<|jkLd 2 rfl<|jkFld rfl<|jkLd 2 rfl<|JR.loud rfl rfl rfl (aG.callQ EV (oQ U v0 r52 w53) rfl (iJ [0] rfl)) rfl (fun x63=>(jM [([3],[])] rfl)) fun x63=>JR.loud rfl rfl rfl (aG.callQ EW (mR U v1 z2 r55 w56) rfl (iJ [1] rfl)) rfl (fun x64=>(jM [] rfl)) fun x64=>bN (Know.one ((aT (aC.res 2 rfl) cW))) fun ho65=>bN (Know.one (aC.sl (aP (i:=0) (j:=1) rfl rfl aU))) fun ho66=>?_
   refine jqN rfl (qT (r:=Value.agg #[x63,x64.1]) rfl rfl (by intro w;simp[Instr.build,Instr.fill,bV,bQ,bK,bW,bX,bR,cC,cY ho65,cY ho66])) ?_
   refine JR.loud rfl rfl rfl (aG.alloc (cs:=[eG,eG]) rfl rfl) rfl (fun b67=>(jM [([6],[]),([6],[])] rfl)) fun b67=>bF 8 rfl rfl<|bJ (Know.one ((aT (aC.res 3 rfl) cW))) fun ho68=>bJ (Know.one (aC.sl (aP (i:=1) (j:=2) rfl rfl aU))) fun ho69=>aY 0 (vs:=[x63,x64.1]) rfl rfl (cB ho68 (cB ho69 rfl)) rfl rfl rfl<|dtN ?_
   exact iQ (r55,r52) (b67,x63,x64.1,x64.2) h SF rfl
  ·refine jkFld rfl<|jkLd 2 rfl<|jkFld rfl<|jkLd 2 rfl<|JR.loud rfl rfl rfl (aG.callQ EV (oQ U v0 r52 w53) rfl (iJ [0] rfl)) rfl (fun x70=>(jM [([3],[])] rfl)) fun x70=>JR.loud rfl rfl rfl (aG.alloc (cs:=[eG,eG]) rfl rfl) rfl (fun b71=>(jM [([4],[]),([4],[])] rfl)) fun b71=>JR.loud rfl rfl rfl (aG.callQ EW (mR U v1 z2 r55 w56) rfl (iJ [1] rfl)) rfl (fun x72=>(jM [] rfl)) fun x72=>bN (Know.one ((aT (aC.res 3 rfl) cW))) fun ho73=>bN (Know.one (aC.sl (aP (i:=0) (j:=1) rfl rfl aU))) fun ho74=>?_
   refine jqN rfl (qT (r:=Value.agg #[x70,x72.1]) rfl rfl (by intro w;simp[Instr.build,Instr.fill,bV,bQ,bK,bW,bX,bR,cC,cY ho73,cY ho74])) ?_
   refine bF 8 rfl rfl<|bJ (Know.one ((aT (aC.res 3 rfl) cW))) fun ho75=>bJ (Know.one (aC.sl (aP (i:=0) (j:=1) rfl rfl aU))) fun ho76=>aY 2 (vs:=[x70,x72.1]) rfl rfl (cB ho75 (cB ho76 rfl)) rfl rfl rfl<|dtN ?_
   exact bO (r55,r52) (b71,x70,x72.1,x72.2) h SF (aS.ix [2,0,1,3,4,5,6] rfl rfl) (aA.refl _ _)
  refine jkFld rfl<|jkLd 2 rfl<|jkFld rfl<|jkLd 2 rfl<|JR.loud rfl rfl rfl (aG.alloc (cs:=[eG,eG]) rfl rfl) rfl (fun b77=>(jM [([3],[]),([3],[])] rfl)) fun b77=>JR.loud rfl rfl rfl (aG.callQ EV (oQ U v0 r52 w53) rfl (iJ [0] rfl)) rfl (fun x78=>(jM [([4],[])] rfl)) fun x78=>JR.loud rfl rfl rfl (aG.callQ EW (mR U v1 z2 r55 w56) rfl (iJ [1] rfl)) rfl (fun x79=>(jM [] rfl)) fun x79=>bN (Know.one ((aT (aC.res 2 rfl) cW))) fun ho80=>bN (Know.one (aC.sl (aP (i:=0) (j:=1) rfl rfl aU))) fun ho81=>?_
  refine jqN rfl (qT (r:=Value.agg #[x78,x79.1]) rfl rfl (by intro w;simp[Instr.build,Instr.fill,bV,bQ,bK,bW,bX,bR,cC,cY ho80,cY ho81])) ?_
  refine bF 8 rfl rfl<|bJ (Know.one ((aT (aC.res 2 rfl) cW))) fun ho82=>bJ (Know.one (aC.sl (aP (i:=0) (j:=1) rfl rfl aU))) fun ho83=>aY 3 (vs:=[x78,x79.1]) rfl rfl (cB ho82 (cB ho83 rfl)) rfl rfl rfl<|dtN ?_
  exact bO (r55,r52) (b77,x78,x79.1,x79.2) h SF (aS.ix [3,0,1,2,4,5,6] rfl rfl) (aA.refl _ _)
 intro a21 b22 h
 unfold wH at h
 refine aH<|midL (B:=dO) (fun a25=>zT a21 a25=some r) (fun a25 b26=>[(6,vP b2),(10,vP b22.1)]) (fun a25 b26=>[bS b22.1 [b22.2.1,b22.2.2.1] 28,Ar c_.raw b22.2.2.1 b26,gU bH b26 a25,Ar cE b22.2.1 a21.2,bS b2 [eG,eG] 28]) ?_ ?_
 ·refine sqR<|qkLdA 4 rfl<|qkMove rfl<|dtN<|aR<|loopL (B:=dO) (fT U p0 r7 a21) (fun a33 b34=>[(3,vP b1),(6,vP b2),(10,vP b22.1),(42,Value.agg #[vI (r7.1.1.1),vI (r7.1.1.2),vI (r7.1.2.1),vI (r7.1.2.2)]),(43,vI (a33.1))]) (fun a33 b34=>[bS b22.1 [b22.2.1,b22.2.2.1] 28,Ar c_.raw b22.2.2.1 b34,gU bH b34 a33.2,Ar cE b22.2.1 a21.2,bS b2 [eG,eG] 28,bS b1 [v0,v1] 28]) ((0:Int),a21.1) (b22.2.2.2) h SF (aS.ix [0,1,2,3,5,6] rfl rfl) ?_
  intro k35 a33 b34 h
  refine sqR<|qkLss rfl<|dtN<|aH ?_
  refine eZ h rfl (fun h=>?_) fun h=>?_
  ·refine cL<|aH<|aR<|sqR<|ckE h fun hc37 h=>aB (Lw (cs:=[vI (r7.1.1.1),vI (r7.1.1.2),vI (r7.1.2.1),vI (r7.1.2.2)]) (fun j38=>Value.agg #[vI (at' [r7.1.1.1,r7.1.2.1] ((j38:Nat):Int)),vI (at' [r7.1.1.2,r7.1.2.2] ((j38:Nat):Int))]) rfl rfl rfl rfl hc37 (by intro j hj;match j,hj with|0,_=>rfl|1,_=>rfl)) rfl ?_
   refine aE (aG.alloc (cs:=Oz) rfl rfl) rfl fun b39=>aY 0 (vs:=[vI (at' [r7.1.1.1,r7.1.2.1] ((Int.toNat a33.1:Nat):Int)),vI (at' [r7.1.1.2,r7.1.2.2] ((Int.toNat a33.1:Nat):Int))]) rfl rfl rfl rfl rfl rfl<|dtN<|sqR<|qkLdA 6 rfl ?_
   refine aB (eN (i:=0) rfl rfl rfl rfl rfl (by decide)) rfl ?_
   refine qkLd 0 rfl ?_
   refine aB (eN (i:=1) rfl rfl rfl rfl rfl (by decide)) rfl ?_
   refine qkLd 0 rfl<|bnE h fun r40 w41 h=>aE (aG.callQ EU (oP U v0 v1 z2 r40 w41) rfl (iJ [0,1] rfl)) rfl fun x42=>qkAsg rfl<|dtN ?_
   refine JR.start [0,1,0,4,0,16,0,64,240,496,0,0,2048,8176,16383,32767] 14 mixedOrders (by decide +kernel) ?_
   refine JR.open (by exact rfl) ?_
   refine jkFld rfl<|jkLd 1 rfl ?_
   refine jqN rfl (eN (i:=0) rfl rfl rfl rfl rfl (by decide)) ?_
   refine jkLd 0 rfl<|jkFld rfl<|jkLd 1 rfl ?_
   refine jqN rfl (eN (i:=0) rfl rfl rfl rfl rfl (by decide)) ?_
   refine jkLd 0 rfl<|ckE h fun hc43 h=>bN (bZ 3 rfl) fun hl44=>?_
   refine bD rfl (aS.cons 2 rfl .nil) .nil (eM 0 rfl rfl rfl rfl rfl hc43.1 (by have q1:=hc43.2;have q2:=hl44;(try simp only[List.length_set]at q1);(try simp only[List.length_set]at q2);(try simp only[List.length_set]);omega)) aK.z ?_
   refine bN (bZ 3 rfl) fun hl45=>bD rfl (aS.cons 2 rfl .nil) .nil (gZ 0 rfl rfl hl45 rfl rfl hc43) aK.z<|jkMove rfl<|jkMove rfl<|jqN rfl (xE rfl rfl)<|JR.stp (FH 3 rfl hc43)<|bnE h fun r46 w47 h=>JR.loud rfl rfl rfl (yA (Min:=[Ar bH (at' b34 (at' [r7.1.1.1,r7.1.2.1] ((Int.toNat a33.1:Nat):Int))) (at' a33.2 (at' [r7.1.1.1,r7.1.2.1] ((Int.toNat a33.1:Nat):Int)))]) (Mr:=[bS b39 [vI (at' [r7.1.1.1,r7.1.2.1] ((Int.toNat a33.1:Nat):Int)),vI (at' [r7.1.1.2,r7.1.2.2] ((Int.toNat a33.1:Nat):Int))] 79,bS b22.1 [b22.2.1,b22.2.2.1] 28,Ar c_.raw b22.2.2.1 b34,gU bH (List.set b34 (Int.toNat (at' [r7.1.1.1,r7.1.2.1] ((Int.toNat a33.1:Nat):Int))) (eG)) (List.set a33.2 (Int.toNat (at' [r7.1.1.1,r7.1.2.1] ((Int.toNat a33.1:Nat):Int))) []),Ar cE b22.2.1 a21.2,bS b2 [eG,eG] 28,bS b1 [v0,v1] 28]) XT (Gn U (at' b34 (at' [r7.1.1.1,r7.1.2.1] ((Int.toNat a33.1:Nat):Int))) r46 w47) rfl (aS.refl _) .nil (fun _ _=>rfl)) rfl (fun x48=>(jM [([1],[]),([2],[])] rfl)) fun x48=>bF 14 rfl rfl<|ckE h fun hc49 h=>bJ (bZ 4 rfl) fun hl50=>?_
   refine aB (eM 3 rfl rfl rfl rfl rfl hc49.1 (by have q1:=hc49.2;have q2:=hl50;(try simp only[List.length_set]at q1);(try simp only[List.length_set]at q2);(try simp only[List.length_set]);omega)) rfl ?_
   refine dV (FG (k:=(at' [r7.1.1.1,r7.1.2.1] ((Int.toNat a33.1:Nat):Int))) 4 0 rfl rfl rfl ⟨hc49.1,by first|exact hc49.2|simpa using hc49.2⟩)<|bJ (qQ 3 (k:=(at' [r7.1.1.1,r7.1.2.1] ((Int.toNat a33.1:Nat):Int))) rfl ⟨hc49.1,by first|exact hc49.2|simpa using hc49.2⟩) fun ho51=>?_
   refine iK 2 3 ⟨hc49.1,by first|exact hc49.2|simpa using hc49.2⟩ rfl rfl rfl rfl rfl (by simp) ho51 rfl ?_
   refine eI<|inT<|aM<|qkAdd rfl<|qkMove rfl<|dtN ?_
   exact kN ((wI .i64 (a33.1+(1:Int))),(List.set a33.2 (Int.toNat (at' [r7.1.1.1,r7.1.2.1] ((Int.toNat a33.1:Nat):Int))) r46)) (List.set b34 (Int.toNat (at' [r7.1.1.1,r7.1.2.1] ((Int.toNat a33.1:Nat):Int))) x48) h SF (aS.ix [1,2,3,4,5,6] rfl rfl) (aA.refl _ _)
  refine gH ?_
  exact bO (a33.2) (b34) h SF (aS.ix [0,1,2,3,4] rfl rfl) (aA.refl _ _)
 intro a25 b26 h
 unfold zT at h
 refine sqR<|qkLdA 0 rfl<|bJ (Know.one ((aT (aC.res 3 rfl) cW))) fun ho27=>bJ (Know.one (aC.sl (aP (i:=1) (j:=2) rfl rfl aU))) fun ho28=>aY 4 (vs:=[b22.2.1,b22.2.2.1]) rfl rfl (cB ho27 (cB ho28 rfl)) rfl rfl rfl<|qkAsg rfl<|dtN<|aN ?_
 cases h
 exact dR (b22.2.1,b22.2.2.1,b26) rfl rfl (RV.cell 4 rfl rfl rfl rfl) (RV.tmp rfl) (aS.ix [3,1,2] rfl rfl) aA.nil
end
section
def uH (a:cJ×aQ) (b:cJ):Option Bm:=
 some (((a.2,b)),(0:Int))
def dN (p3:Int) (b:Ip) (d:cJ×aQ) (a:Int×cJ) (c:(Int×cJ)->Option Bm):Option Bm:=
 if a.1<(2:Int)then(ck (0<=a.1∧a.1<((2:Nat):Int)) (ck (0<=(at' [b.1.1.1,b.1.2.1] ((Int.toNat a.1:Nat):Int))∧(at' [b.1.1.1,b.1.2.1] ((Int.toNat a.1:Nat):Int))<(List.length a.2:Int)) (ck ((List.length (at' a.2 (at' [b.1.1.1,b.1.2.1] ((Int.toNat a.1:Nat):Int))):Int)+(List.length ([((at' [b.1.1.2,b.1.2.2] ((Int.toNat a.1:Nat):Int)),p3)]):Int)<=1099511627) (ck (0<=(at' [b.1.1.1,b.1.2.1] ((Int.toNat a.1:Nat):Int))∧(at' [b.1.1.1,b.1.2.1] ((Int.toNat a.1:Nat):Int))<(List.length (List.set a.2 (Int.toNat (at' [b.1.1.1,b.1.2.1] ((Int.toNat a.1:Nat):Int))) ((at' a.2 (at' [b.1.1.1,b.1.2.1] ((Int.toNat a.1:Nat):Int)))++([((at' [b.1.1.2,b.1.2.2] ((Int.toNat a.1:Nat):Int)),p3)]))):Int)) (c ((wI .i64 (a.1+(1:Int))),(List.set a.2 (Int.toNat (at' [b.1.1.1,b.1.2.1] ((Int.toNat a.1:Nat):Int))) ((at' a.2 (at' [b.1.1.1,b.1.2.1] ((Int.toNat a.1:Nat):Int)))++([((at' [b.1.1.2,b.1.2.2] ((Int.toNat a.1:Nat):Int)),p3)])))))))))else(uH d (a.2))
def qH (U:Nat) (p3:Int) (b:Ip) (a:cJ×aQ):Option Bm:=
 bM (dN p3 b a) U ((0:Int),a.1)
def kH (U:Nat) (p0:cT) (p3:Int) (d:Ip) (a:Bool):Option Bm:=
 if a=true then(some (((([]:aQ),([]:cJ))),(2:Int)))else(Option.bind (oJ U p0.1) fun b=>(Option.bind (pM U p0.2) fun c=>(qH U p3 d (c,b))))
def oI (U:Nat) (p0:cT) (p1:Int) (p2:Int) (p3:Int):Option Bm:=
 Option.bind (dB U ((p0.1,p0.2))) fun r3=>(if(!r3)=true then(some (((([]:aQ),([]:cJ))),(1:Int)))else(Option.bind (pW U ((p0.1,p0.2)) p1 p2) fun r7=>(if(!r7.2)=true then(kH U p0 p3 r7 (true))else(Option.bind (fS U ((p0.1,p0.2)) p1 p2) fun r82=>(if(0:Int)<=r82 then(kH U p0 p3 r7 (true))else(if p3<(1:Int)then(kH U p0 p3 r7 (true))else(kH U p0 p3 r7 (decide ((15:Int)<p3)))))))))
theorem XO:aO Tryz.prog 17:=Tryz.call17
theorem Fx (U:Nat) {p0:cT} {p1:Int} {p2:Int} {p3:Int} (v0:Value)  (v1:Value)  (z2:jT) (r:(aQ×cJ)×Int) (h:oI U p0 p1 p2 p3=some r):
  aV Tryz.prog 17 #[Value.agg #[v0,v1],vI (p1),vI (p2),vI (p3)] [Sl bL v0 p0.1,S2 aW v1 z2 p0.2] (fun x:Iq=>Value.tuple #[Value.agg #[x.1,x.2.1],vI (r.2)]) (fun x l=>Ar cE x.1 r.1.1::Ar c_.raw x.2.1 x.2.2::gU bH x.2.2 r.1.2::l) (fun _ l=>l):=by
 refine aV.of Tryz.func17 rfl Tryz.ntmps17 rfl fun c=>?_
 refine sqR<|aE (aG.box (cs:=[v0,v1]) rfl rfl) rfl fun b1=>aE (aG.alloc (cs:=[eG,eG]) rfl rfl) rfl fun b2=>qkAsg rfl<|dtN<|aH<|sqR<|qkLdA 1 rfl<|bnE h fun r3 w4 h=>aE (aG.callQ Do (nO U v0 v1 z2 r3 w4) rfl (iJ [0,1] rfl)) rfl fun x5=>aB (o_ rfl) rfl<|dtN ?_
 refine zQ h rfl (fun _ h=>?_) fun _ h=>?_
 ·refine sqR ?_
  refine aB (yD (r:=Value.agg #[eG,eG]) (by intro w;simp[Instr.build,Instr.fill,bV,bQ,bK,bW,bX,bR,cC])) rfl ?_
  refine aY 0 (vs:=[eG,eG]) rfl rfl rfl rfl rfl rfl<|qkAsg rfl<|dtN<|aN<|aI<|dV (dA cE)<|dV (dA c_.raw) (dV (gY bH) ?_)
  cases h
  exact dR ((eG),(eG),([]:dO)) rfl rfl (RV.cell 3 rfl rfl rfl rfl) (RV.tmp rfl) (aS.ix [2,1,0] rfl rfl) aA.nil
 refine cL<|sqR<|qkLdA 1 rfl<|qkMove rfl<|qkMove rfl<|bnE h fun r7 w8 h=>aE (aG.callQ SC (Dc U v0 v1 z2 r7 w8) rfl (iJ [0,1] rfl)) rfl fun x9=>qkMove rfl<|qkExt rfl<|qkExt rfl<|aE (aG.alloc (cs:=vD5) rfl rfl) rfl fun b10=>aY 0 (vs:=[vI (r7.1.1.1),vI (r7.1.1.2),vI (r7.1.2.1),vI (r7.1.2.2)]) rfl rfl rfl rfl rfl rfl<|qkAsg rfl<|dtN<|aH<|aH<|midU (fun a12=>kH U p0 p3 r7 a12=some r) (fun a12 b13=>[(3,vI (p3)),(4,vP b1),(8,vP b2),(10,vP b10),(42,vB (a12))]) (fun a12 b13=>[bS b10 [vI (r7.1.1.1),vI (r7.1.1.2),vI (r7.1.2.1),vI (r7.1.2.2)] 80,bS b2 [eG,eG] 28,bS b1 [v0,v1] 28]) ?_ ?_
 ·refine aM<|qkMove rfl<|aB (o_ rfl) rfl<|qkMove rfl ?_
  refine qE (by exact rfl) (by exact rfl) (fun hp81=>?_) (fun hp81=>?_)
  ·have h:=Ji hp81 h
   refine gdSkip rfl<|gdSkip rfl<|gdSkip rfl<|gdSkip rfl<|gdSkip rfl<|qkPkT rfl<|qkMove rfl<|gdSkip rfl<|gdSkip rfl<|qkPkT rfl<|qkMove rfl<|gdSkip rfl<|gdSkip rfl<|qkPkT rfl<|dtN ?_
   exact iQ (true) () h SF rfl
  have h:=Eh hp81 h
  refine aL rfl (eF 2 rfl rfl rfl rfl) rfl<|gyMove rfl<|gyMove rfl<|bnE h fun r82 w83 h=>pB rfl (aG.callQ EU (oP U v0 v1 z2 r82 w83) rfl (iJ [0,1] rfl)) rfl fun x84=>aL rfl (Bf rfl rfl) rfl<|qkPkF rfl<|qkMove rfl ?_
  refine AS h rfl (fun _ h=>?_) fun _ h=>?_
  ·refine gdSkip rfl<|gdSkip rfl<|qkPkT rfl<|qkMove rfl<|gdSkip rfl<|gdSkip rfl<|qkPkT rfl<|dtN ?_
   exact iQ (true) () h SF rfl
  refine gyMove rfl<|aL rfl (FJ rfl rfl) rfl<|qkPkF rfl<|qkMove rfl ?_
  refine AS h rfl (fun _ h=>?_) fun _ h=>?_
  ·refine gdSkip rfl<|gdSkip rfl<|qkPkT rfl<|dtN ?_
   exact iQ (true) () h SF rfl
  refine gyMove rfl<|aL rfl (wX rfl rfl) rfl<|qkPkF rfl<|dtN ?_
  exact iQ (decide ((15:Int)<p3)) () h SF rfl
 intro a12 b13 h
 refine zQ h rfl (fun _ h=>?_) fun _ h=>?_
 ·refine sqR ?_
  refine aB (yD (r:=Value.agg #[eG,eG]) (by intro w;simp[Instr.build,Instr.fill,bV,bQ,bK,bW,bX,bR,cC])) rfl ?_
  refine aY 1 (vs:=[eG,eG]) rfl rfl rfl rfl rfl rfl<|qkAsg rfl<|dtN<|aN<|aI<|dV (dA cE)<|dV (dA c_.raw) (dV (gY bH) ?_)
  cases h
  exact dR ((eG),(eG),([]:dO)) rfl rfl (RV.cell 4 rfl rfl rfl rfl) (RV.tmp rfl) (aS.ix [2,1,0] rfl rfl) aA.nil
 refine cL<|aH<|midL (B:=Nat×Value×Value×List Value) (fun a21=>qH U p3 r7 a21=some r) (fun a21 b22=>[(3,vI (p3)),(8,vP b2),(10,vP b10),(12,vP b22.1)]) (fun a21 b22=>[bS b22.1 [b22.2.1,b22.2.2.1] 28,Ar c_.raw b22.2.2.1 b22.2.2.2,gU bH b22.2.2.2 a21.1,Ar cE b22.2.1 a21.2,bS b10 [vI (r7.1.1.1),vI (r7.1.1.2),vI (r7.1.2.1),vI (r7.1.2.2)] 80,bS b2 [eG,eG] 28]) ?_ ?_
 ·have⟨r49,w50,h⟩:=ZV h
  refine bnE h fun r52 w53 h=>Ad [0,1,3,0,8,31,63,0,255] 8 [[0,1,3,4,2,5,6,7,8],[0,1,3,4,2,7,5,6,8],[0,1,3,4,7,2,5,6,8]] mixedOrders (by decide +kernel) (by decide +kernel) ?_
  intro o ho
  simp only[List.mem_cons,List.not_mem_nil,or_false]at ho
  rcases ho with rfl|rfl|rfl
  ·refine jkFld rfl<|jkLd 2 rfl<|jkFld rfl<|jkLd 2 rfl<|JR.loud rfl rfl rfl (aG.callQ EV (oQ U v0 r49 w50) rfl (iJ [0] rfl)) rfl (fun x60=>(jM [([3],[])] rfl)) fun x60=>JR.loud rfl rfl rfl (aG.callQ EW (mR U v1 z2 r52 w53) rfl (iJ [1] rfl)) rfl (fun x61=>(jM [] rfl)) fun x61=>bN (Know.one ((aT (aC.res 2 rfl) cW))) fun ho62=>bN (Know.one (aC.sl (aP (i:=0) (j:=1) rfl rfl aU))) fun ho63=>?_
   refine jqN rfl (qT (r:=Value.agg #[x60,x61.1]) rfl rfl (by intro w;simp[Instr.build,Instr.fill,bV,bQ,bK,bW,bX,bR,cC,cY ho62,cY ho63])) ?_
   refine JR.loud rfl rfl rfl (aG.alloc (cs:=[eG,eG]) rfl rfl) rfl (fun b64=>(jM [([6],[]),([6],[])] rfl)) fun b64=>bF 8 rfl rfl<|bJ (Know.one ((aT (aC.res 3 rfl) cW))) fun ho65=>bJ (Know.one (aC.sl (aP (i:=1) (j:=2) rfl rfl aU))) fun ho66=>aY 0 (vs:=[x60,x61.1]) rfl rfl (cB ho65 (cB ho66 rfl)) rfl rfl rfl<|dtN ?_
   exact bO (r52,r49) (b64,x60,x61.1,x61.2) h SF (aS.ix [0,1,2,3,4,5] rfl rfl) (aA.refl _ _)
  ·refine jkFld rfl<|jkLd 2 rfl<|jkFld rfl<|jkLd 2 rfl<|JR.loud rfl rfl rfl (aG.callQ EV (oQ U v0 r49 w50) rfl (iJ [0] rfl)) rfl (fun x67=>(jM [([3],[])] rfl)) fun x67=>JR.loud rfl rfl rfl (aG.alloc (cs:=[eG,eG]) rfl rfl) rfl (fun b68=>(jM [([4],[]),([4],[])] rfl)) fun b68=>JR.loud rfl rfl rfl (aG.callQ EW (mR U v1 z2 r52 w53) rfl (iJ [1] rfl)) rfl (fun x69=>(jM [] rfl)) fun x69=>bN (Know.one ((aT (aC.res 3 rfl) cW))) fun ho70=>bN (Know.one (aC.sl (aP (i:=0) (j:=1) rfl rfl aU))) fun ho71=>?_
   refine jqN rfl (qT (r:=Value.agg #[x67,x69.1]) rfl rfl (by intro w;simp[Instr.build,Instr.fill,bV,bQ,bK,bW,bX,bR,cC,cY ho70,cY ho71])) ?_
   refine bF 8 rfl rfl<|bJ (Know.one ((aT (aC.res 3 rfl) cW))) fun ho72=>bJ (Know.one (aC.sl (aP (i:=0) (j:=1) rfl rfl aU))) fun ho73=>aY 2 (vs:=[x67,x69.1]) rfl rfl (cB ho72 (cB ho73 rfl)) rfl rfl rfl<|dtN ?_
   exact bO (r52,r49) (b68,x67,x69.1,x69.2) h SF (aS.ix [2,0,1,3,4,5] rfl rfl) (aA.refl _ _)
  refine jkFld rfl<|jkLd 2 rfl<|jkFld rfl<|jkLd 2 rfl<|JR.loud rfl rfl rfl (aG.alloc (cs:=[eG,eG]) rfl rfl) rfl (fun b74=>(jM [([3],[]),([3],[])] rfl)) fun b74=>JR.loud rfl rfl rfl (aG.callQ EV (oQ U v0 r49 w50) rfl (iJ [0] rfl)) rfl (fun x75=>(jM [([4],[])] rfl)) fun x75=>JR.loud rfl rfl rfl (aG.callQ EW (mR U v1 z2 r52 w53) rfl (iJ [1] rfl)) rfl (fun x76=>(jM [] rfl)) fun x76=>bN (Know.one ((aT (aC.res 2 rfl) cW))) fun ho77=>bN (Know.one (aC.sl (aP (i:=0) (j:=1) rfl rfl aU))) fun ho78=>?_
  refine jqN rfl (qT (r:=Value.agg #[x75,x76.1]) rfl rfl (by intro w;simp[Instr.build,Instr.fill,bV,bQ,bK,bW,bX,bR,cC,cY ho77,cY ho78])) ?_
  refine bF 8 rfl rfl<|bJ (Know.one ((aT (aC.res 2 rfl) cW))) fun ho79=>bJ (Know.one (aC.sl (aP (i:=0) (j:=1) rfl rfl aU))) fun ho80=>aY 3 (vs:=[x75,x76.1]) rfl rfl (cB ho79 (cB ho80 rfl)) rfl rfl rfl<|dtN ?_
  exact bO (r52,r49) (b74,x75,x76.1,x76.2) h SF (aS.ix [3,0,1,2,4,5] rfl rfl) (aA.refl _ _)
 intro a21 b22 h
 unfold qH at h
 refine aH<|midL (B:=dO) (fun a25=>uH a21 a25=some r) (fun a25 b26=>[(8,vP b2),(12,vP b22.1)]) (fun a25 b26=>[bS b22.1 [b22.2.1,b22.2.2.1] 28,Ar c_.raw b22.2.2.1 b26,gU bH b26 a25,Ar cE b22.2.1 a21.2,bS b2 [eG,eG] 28]) ?_ ?_
 ·refine sqR<|qkLdA 4 rfl<|qkMove rfl<|dtN<|aR<|loopL (B:=dO) (dN p3 r7 a21) (fun a33 b34=>[(3,vI (p3)),(8,vP b2),(12,vP b22.1),(51,Value.agg #[vI (r7.1.1.1),vI (r7.1.1.2),vI (r7.1.2.1),vI (r7.1.2.2)]),(52,vI (a33.1))]) (fun a33 b34=>[bS b22.1 [b22.2.1,b22.2.2.1] 28,Ar c_.raw b22.2.2.1 b34,gU bH b34 a33.2,Ar cE b22.2.1 a21.2,bS b2 [eG,eG] 28]) ((0:Int),a21.1) (b22.2.2.2) h SF (aS.ix [0,1,2,3,5] rfl rfl) ?_
  intro k35 a33 b34 h
  refine sqR<|qkLss rfl<|dtN<|aH ?_
  refine eZ h rfl (fun h=>?_) fun h=>?_
  ·refine cL<|aH<|aR<|sqR<|ckE h fun hc37 h=>aB (Lw (cs:=[vI (r7.1.1.1),vI (r7.1.1.2),vI (r7.1.2.1),vI (r7.1.2.2)]) (fun j38=>Value.agg #[vI (at' [r7.1.1.1,r7.1.2.1] ((j38:Nat):Int)),vI (at' [r7.1.1.2,r7.1.2.2] ((j38:Nat):Int))]) rfl rfl rfl rfl hc37 (by intro j hj;match j,hj with|0,_=>rfl|1,_=>rfl)) rfl ?_
   refine aE (aG.alloc (cs:=Oz) rfl rfl) rfl fun b39=>aY 0 (vs:=[vI (at' [r7.1.1.1,r7.1.2.1] ((Int.toNat a33.1:Nat):Int)),vI (at' [r7.1.1.2,r7.1.2.2] ((Int.toNat a33.1:Nat):Int))]) rfl rfl rfl rfl rfl rfl<|dtN ?_
   refine JR.start [0,1,0,4,0,16,0,64,240,496,0,1024,0,7168,15360,32752,65535,131071] 16 mixedOrders (by decide +kernel) ?_
   refine JR.open (by exact rfl) ?_
   refine jkFld rfl<|jkLd 1 rfl ?_
   refine jqN rfl (eN (i:=0) rfl rfl rfl rfl rfl (by decide)) ?_
   refine jkLd 0 rfl<|jkFld rfl<|jkLd 1 rfl ?_
   refine jqN rfl (eN (i:=0) rfl rfl rfl rfl rfl (by decide)) ?_
   refine jkLd 0 rfl<|ckE h fun hc40 h=>bN (bZ 3 rfl) fun hl41=>?_
   refine bD rfl (aS.cons 2 rfl .nil) .nil (eM 0 rfl rfl rfl rfl rfl hc40.1 (by have q1:=hc40.2;have q2:=hl41;(try simp only[List.length_set]at q1);(try simp only[List.length_set]at q2);(try simp only[List.length_set]);omega)) aK.z ?_
   refine bN (bZ 3 rfl) fun hl42=>bD rfl (aS.cons 2 rfl .nil) .nil (gZ 0 rfl rfl hl42 rfl rfl hc40) aK.z ?_
   refine jqN rfl (eN (i:=1) rfl rfl rfl rfl rfl (by decide)) ?_
   refine jkLd 0 rfl<|jkMove rfl ?_
   refine jqN rfl (qT (r:=Value.agg #[vI (at' [r7.1.1.2,r7.1.2.2] ((Int.toNat a33.1:Nat):Int)),vI (p3)]) rfl rfl (by intro w;simp[Instr.build,Instr.fill,bV,bQ,bK,bW,bX,bR,cC])) ?_
   refine JR.loud rfl rfl rfl (cR (e:=bH) ([(((at' [r7.1.1.2,r7.1.2.2] ((Int.toNat a33.1:Nat):Int)),p3))]) [(0,Value.agg #[vI (at' [r7.1.1.2,r7.1.2.2] ((Int.toNat a33.1:Nat):Int)),vI (p3)])] rfl rfl rfl rfl (uI (vI (at' [r7.1.1.2,r7.1.2.2] ((Int.toNat a33.1:Nat):Int))) (vI (p3))) rfl rfl rfl) rfl (fun u43=>(jM [([3],[]),([3],[]),([1],[]),([2],[]),([1],[]),([2],[])] rfl)) fun u43=>ckE h fun hc45 h=>JR.loud rfl rfl rfl (kJ 4 aU rfl rfl rfl (aT (aC.res 0 rfl) aU) rfl rfl rfl rfl hc40 hc45 rfl) rfl (fun u44=>(jM [([1],[]),([2],[])] rfl)) fun u44=>bF 16 rfl rfl<|ckE h fun hc46 h=>bJ (bZ 4 rfl) fun hl47=>?_
   refine aB (eM 3 rfl rfl rfl rfl rfl hc46.1 (by have q1:=hc46.2;have q2:=hl47;(try simp only[List.length_set]at q1);(try simp only[List.length_set]at q2);(try simp only[List.length_set]);omega)) rfl ?_
   refine bJ (qQ 4 (k:=(at' [r7.1.1.1,r7.1.2.1] ((Int.toNat a33.1:Nat):Int))) rfl ⟨hc46.1,by first|exact hc46.2|simpa using hc46.2⟩) fun ho48=>?_
   refine iK 3 4 ⟨hc46.1,by first|exact hc46.2|simpa using hc46.2⟩ rfl rfl rfl rfl rfl (by simp) ho48 rfl ?_
   refine eI<|inT<|aM<|qkAdd rfl<|qkMove rfl<|dtN ?_
   exact kN ((wI .i64 (a33.1+(1:Int))),(List.set a33.2 (Int.toNat (at' [r7.1.1.1,r7.1.2.1] ((Int.toNat a33.1:Nat):Int))) ((at' a33.2 (at' [r7.1.1.1,r7.1.2.1] ((Int.toNat a33.1:Nat):Int)))++([((at' [r7.1.1.2,r7.1.2.2] ((Int.toNat a33.1:Nat):Int)),p3)])))) (List.set b34 (Int.toNat (at' [r7.1.1.1,r7.1.2.1] ((Int.toNat a33.1:Nat):Int))) u44) h SF (aS.ix [2,3,4,5,6] rfl rfl) (aA.refl _ _)
  refine gH ?_
  exact iQ (a33.2) (b34) h SF rfl
 intro a25 b26 h
 unfold uH at h
 refine sqR<|qkLdA 0 rfl<|bJ (Know.one ((aT (aC.res 3 rfl) cW))) fun ho27=>bJ (Know.one (aC.sl (aP (i:=1) (j:=2) rfl rfl aU))) fun ho28=>aY 4 (vs:=[b22.2.1,b22.2.2.1]) rfl rfl (cB ho27 (cB ho28 rfl)) rfl rfl rfl<|qkAsg rfl<|dtN<|aN ?_
 cases h
 exact dR (b22.2.1,b22.2.2.1,b26) rfl rfl (RV.cell 4 rfl rfl rfl rfl) (RV.tmp rfl) (aS.ix [3,1,2] rfl rfl) aA.nil
end
end Go.Proofs.YtpenklncfhiloaaGreatDoor
end
section
section
namespace Go.Proofs.YtpenklncfhiloaaGreatDoor
open Go.Sx
section
section
end
section
abbrev GG:=List Int×cJ
end
section
def small (g:GG):Prop:=g.1.length<=900∧g.2.length<=900∧∀l∈g.2,l.length<=900


end
end
section

def pm (p:aQ) (v:Nat):Nat:=(at' p (v:Int)).toNat
def mp (p:aQ) (l:dQ):dQ:=l.map fun x=>(at' p x.1,x.2)

end
section
section
theorem Ou {a:Type} [Inhabited a] (l:List a) {k:Nat} (h:k<l.length):l.take (k+1)=l.take k++[at' l (k:Int)]:=by
 rw[List.take_add_one,List.getElem?_eq_getElem h,gG,List.getD_eq_getElem?_getD,List.getElem?_eq_getElem h]
 rfl
theorem LQ (l:aQ) (h:l.length<=900):oJ 1000 l=some l:=by
 unfold oJ
 rw[cQ (by simp;omega)]
 rfl
theorem IW (ps:cJ) (h:ps.length<=900) (hr:∀v,v<ps.length->(at' ps (v:Int)).length<=900):pM 1000 ps=some ps:=by
 unfold pM
 rw[cQ (by omega),Int.toNat_natCast]
 refine Cu (fun z:Int×cJ=>∃k:Nat,z.1=k∧k<=ps.length∧z.2=ps.take k++List.replicate (ps.length - k) []) (fun z=>ps.length - z.1.toNat) ?_ 1000 _ ⟨0,rfl,by omega,by simp⟩ (by simp;omega)
 rintro⟨x,l⟩ ag ⟨k,hx,hk,hl⟩ hag
 dsimp only at hx hl hag
 subst hx hl
 unfold vX
 dsimp only
 by_cases hn:k<ps.length
 ·have:=hr k hn
  rw[if_pos (by omega),cQ (by omega),cQ (by simp;omega),cQ (by simp;omega),wr (by omega) (by omega),Int.toNat_natCast]
  refine hag _ ⟨k+1,by dsimp only;omega,by omega,?_⟩ (by dsimp only;omega)
  dsimp only
  rw[Ou ps hn,show ps.length - k=(ps.length - (k+1))+1 by omega,List.replicate_succ,Zd _ _ _ _ _ (by simp;omega)]
  simp
 ·rw[if_neg (by omega)]
  obtain rfl:k=ps.length:=by omega
  unfold rO
  simp
end
end
section
def del (l:dQ) (i:Nat):dQ:=l.take i++l.drop (i+1)
theorem IY (l:dQ) {i:Nat} (a:i<l.length) (b:l.length<=900):s_ 1000 l (i:Int) (wI .i64 ((i:Int)+1))=some (del l i):=by
 unfold s_
 rw[wr (by omega) (by omega),cQ (by omega),if_neg (by omega),cQ (by omega),cQ (by omega),cQ (by omega),Int.toNat_natCast,show((i:Int)+1).toNat=i+1 by omega]
 rfl
def ZP (g:GR) (a b:Int):Prop:=0<=a∧a<g.2.length∧0<=b∧b<g.2.length∧a≠b
theorem Pf {g:GR} (k:VG g) (a b:Int):(ZP g a b->pW 1000 g a b=some (((a,b),(b,a)),true))∧(¬ZP g a b->pW 1000 g a b=some (((0,0),(0,0)),false)):=by
 have j:=k.len
 unfold pW lP ZP
 by_cases d:a<0
 ·rw[if_pos d,if_pos rfl];exact⟨fun h=>by omega,fun _=>rfl⟩
 rw[if_neg d]
 by_cases e:(g.1.length:Int)<=a
 ·rw[if_pos e,if_pos rfl];exact⟨fun h=>by omega,fun _=>rfl⟩
 rw[if_neg e]
 by_cases f:b<0
 ·rw[if_pos f,if_pos rfl];exact⟨fun h=>by omega,fun _=>rfl⟩
 rw[if_neg f]
 by_cases i:(g.1.length:Int)<=b
 ·rw[if_pos i,if_pos rfl];exact⟨fun h=>by omega,fun _=>rfl⟩
 rw[if_neg i]
 by_cases c:a=b
 ·rw[decide_eq_true c,if_pos rfl];exact⟨fun h=>by omega,fun _=>rfl⟩
 ·rw[decide_eq_false c,if_neg (by simp)];exact⟨fun _=>rfl,fun h=>absurd ⟨by omega,by omega,by omega,by omega,c⟩ h⟩
theorem tX {X R:Type} (step:X->(X->Option R)->Option R) (k:Nat) (x:X):bM step (k+1) x=step x (bM step k):=rfl

def zR (g:GR) (a b i j:Nat):GR:=(g.1,(g.2.set a (del (row g a) i)).set b (del (row g b) j))
def kY (g:GR) (a b:Nat) (w:Int):GR:=(g.1,(g.2.set a (row g a++[((b:Int),w)])).set b (row g b++[((a:Int),w)]))
theorem Mz (g:GR) (a b:Nat) (x y:dQ) (c:a<g.2.length) (d:b<g.2.length) (v:Nat):at' ((g.2.set a x).set b y) (v:Int)=if v=b then y else if v=a then x else row g v:=by
 rw[uD _ _ _ _ (by simpa using d)]
 by_cases h:v=b
 ·rw[if_pos h,if_pos h]
 ·rw[if_neg h,if_neg h,uD _ _ _ _ c]
theorem Re {g:GR} (d:VG g) {a b i:Nat} (e:a<g.2.length) (h:i<(row g a).length) (f:(fX (row g a) i).1=(b:Int)):∃j:Nat,j<(row g b).length∧sD (row g b) (a:Int)=j:=by
 obtain⟨k,m,c⟩:=d.back e ⟨i,h,f⟩
 rcases rT (row g b) (a:Int)with⟨j,l,_,_,o⟩|⟨n,_⟩
 ·exact⟨j,l,o⟩
 ·exact absurd c (n k m)
theorem QK {g:GR} (hV:VG g) {a b i j:Nat} (ha:a<g.2.length) (hb:b<g.2.length) (hab:a≠b) (hi:i<(row g a).length) (hpi:sD (row g a) (b:Int)=i) (hj:j<(row g b).length) (hpj:sD (row g b) (a:Int)=j):
  uO 1000 g a b=some (zR g a b i j,0):=by
 have h24:=hV.n24
 have hlen:=hV.len
 have da:=(hV.node a ha).deg
 have db:=(hV.node b hb).deg
 have hT:ZP g a b:=⟨by omega,by omega,by omega,by omega,by omega⟩
 have p1:=Av g a (b:Int) ha (by omega)
 have p2:=Av g b (a:Int) hb (by omega)
 rw[hpi]at p1
 rw[hpj]at p2
 have hc2:=IW g.2 (by omega) (fun v hv=>by have:=(hV.node v hv).deg;have q:(at' g.2 (v:Int)).length=(row g v).length:=rfl;omega)
 unfold uO
 rw[aZ ((MW g hV.light).1 hV),if_neg (by simp),aZ ((Pf hV a b).1 hT),if_neg (by simp),aZ p1,decide_eq_false (by omega)]
 unfold wG
 rw[if_neg (by simp),aZ (LQ g.1 (by omega)),aZ hc2]
 unfold wH
 dsimp only
 have q1:(at' g.2 (a:Int)).length=(row g a).length:=rfl
 have q2:(at' g.2 (b:Int)).length=(row g b).length:=rfl
 have hrow:at' (g.2.set a (del (row g a) i)) (b:Int)=row g b:=by rw[uD _ _ _ _ ha,if_neg (by omega)]
 have r0:∀ag,fT 1000 g (((a,b),(b,a)),true) (g.2,g.1) ((0:Int),g.2) ag=ag ((1:Int),g.2.set a (del (row g a) i)):=by
  intro ag
  unfold fT
  dsimp only
  rw[if_pos (by omega),cQ (by omega),show at' [(a:Int),(b:Int)] ((Int.toNat 0:Nat):Int)=(a:Int)from rfl,show at' [(b:Int),(a:Int)] ((Int.toNat 0:Nat):Int)=(b:Int)from rfl,aZ p1,cQ (by omega),aZ (IY _ (by omega) (by omega)),cQ (by simp;omega),wr (by omega) (by omega),Int.toNat_natCast]
  rfl
 have r1:∀ag,fT 1000 g (((a,b),(b,a)),true) (g.2,g.1) ((1:Int),g.2.set a (del (row g a) i)) ag=ag ((2:Int),(g.2.set a (del (row g a) i)).set b (del (row g b) j)):=by
  intro ag
  unfold fT
  dsimp only
  rw[if_pos (by omega),cQ (by omega),show at' [(a:Int),(b:Int)] ((Int.toNat 1:Nat):Int)=(b:Int)from rfl,show at' [(b:Int),(a:Int)] ((Int.toNat 1:Nat):Int)=(a:Int)from rfl,aZ p2,cQ (by simp;omega),hrow,aZ (IY _ hj (by omega)),cQ (by simp;omega),wr (by omega) (by omega),Int.toNat_natCast]
  rfl
 have r2:∀ag,fT 1000 g (((a,b),(b,a)),true) (g.2,g.1) ((2:Int),(g.2.set a (del (row g a) i)).set b (del (row g b) j)) ag=some (zR g a b i j,0):=by
  intro ag
  unfold fT
  dsimp only
  rw[if_neg (by omega)]
  rfl
 rw[show(1000:Nat)=999+1 from rfl,tX]
 show fT 1000 g _ _ _ (bM (fT 1000 g _ _) (998+1))=_
 rw[r0,tX]
 show fT 1000 g _ _ _ (bM (fT 1000 g _ _) (997+1))=_
 rw[r1,tX]
 exact r2 _

theorem QJ {g:GR} (hV:VG g) {a b:Nat} {w:Int} (ha:a<g.2.length) (hb:b<g.2.length) (hab:a≠b) (hp:sD (row g a) (b:Int) = -1) (hw:1<=w∧w<=15):oI 1000 g a b w=some (kY g a b w,0):=by
 have h24:=hV.n24
 have hlen:=hV.len
 have da:=(hV.node a ha).deg
 have db:=(hV.node b hb).deg
 have hT:ZP g a b:=⟨by omega,by omega,by omega,by omega,by omega⟩
 have p1:=Av g a (b:Int) ha (by omega)
 rw[hp]at p1
 have hc2:=IW g.2 (by omega) (fun v hv=>by have:=(hV.node v hv).deg;have q:(at' g.2 (v:Int)).length=(row g v).length:=rfl;omega)
 have q1:(at' g.2 (a:Int)).length=(row g a).length:=rfl
 have hrow:at' (g.2.set a (row g a++[((b:Int),w)])) (b:Int)=row g b:=by rw[uD _ _ _ _ ha,if_neg (by omega)]
 unfold oI
 rw[aZ ((MW g hV.light).1 hV),if_neg (by simp),aZ ((Pf hV a b).1 hT),if_neg (by simp),aZ p1,if_neg (by omega),if_neg (by omega),decide_eq_false (by omega)]
 unfold kH
 rw[if_neg (by simp),aZ (LQ g.1 (by omega)),aZ hc2]
 unfold qH
 dsimp only
 have r0:∀ag,dN w (((a,b),(b,a)),true) (g.2,g.1) ((0:Int),g.2) ag=ag ((1:Int),g.2.set a (row g a++[((b:Int),w)])):=by
  intro ag
  unfold dN
  dsimp only
  rw[if_pos (by omega),cQ (by omega),show at' [(a:Int),(b:Int)] ((Int.toNat 0:Nat):Int)=(a:Int)from rfl,show at' [(b:Int),(a:Int)] ((Int.toNat 0:Nat):Int)=(b:Int)from rfl,cQ (by omega),cQ (by simp;omega),cQ (by simp;omega),wr (by omega) (by omega),Int.toNat_natCast]
  rfl
 have r1:∀ag,dN w (((a,b),(b,a)),true) (g.2,g.1) ((1:Int),g.2.set a (row g a++[((b:Int),w)])) ag=ag ((2:Int),(g.2.set a (row g a++[((b:Int),w)])).set b (row g b++[((a:Int),w)])):=by
  intro ag
  unfold dN
  dsimp only
  rw[if_pos (by omega),cQ (by omega),show at' [(a:Int),(b:Int)] ((Int.toNat 1:Nat):Int)=(b:Int)from rfl,show at' [(b:Int),(a:Int)] ((Int.toNat 1:Nat):Int)=(a:Int)from rfl,hrow,cQ (by simp;omega),cQ (by simp;omega),cQ (by simp;omega),wr (by omega) (by omega),Int.toNat_natCast]
  rfl
 have r2:∀ag,dN w (((a,b),(b,a)),true) (g.2,g.1) ((2:Int),(g.2.set a (row g a++[((b:Int),w)])).set b (row g b++[((a:Int),w)])) ag=some (kY g a b w,0):=by
  intro ag
  unfold dN
  dsimp only
  rw[if_neg (by omega)]
  rfl
 rw[show(1000:Nat)=999+1 from rfl,tX]
 show dN w _ _ _ (bM (dN w _ _) (998+1))=_
 rw[r0,tX]
 show dN w _ _ _ (bM (dN w _ _) (997+1))=_
 rw[r1,tX]
 exact r2 _

theorem BN {l r:dQ} {i:Nat} (h:i<l.length):fX (l++r) i=fX l i:=by
 rw[fX,fX,gG,gG,List.getD_eq_getElem?_getD,List.getD_eq_getElem?_getD,List.getElem?_append_left h]
theorem uM {l:dQ} {x:eS}:fX (l++[x]) l.length=x:=IQ l [] x l.length rfl
def zU (a b:Nat) (w:Int) (v:Nat):dQ:=if v=b then[((a:Int),w)]else if v=a then[((b:Int),w)]else[]
theorem rE {g:GR} {a b:Nat} {w:Int} (d:a<g.2.length) (e:b<g.2.length) (v:Nat):row (kY g a b w) v=row g v++zU a b w v:=by
 show at' ((g.2.set a (row g a++[((b:Int),w)])).set b (row g b++[((a:Int),w)])) (v:Int)=_
 rw[Mz g a b _ _ d e]
 unfold zU
 by_cases h:v=b
 ·subst h;rw[if_pos rfl,if_pos rfl]
 ·rw[if_neg h,if_neg h]
  by_cases c:v=a
  ·subst c;rw[if_pos rfl,if_pos rfl]
  ·rw[if_neg c,if_neg c,List.append_nil]
theorem Ht {g:GR} {a b:Nat} {w:Int} (f:a≠b) {v i:Nat} (c:i<(row g v++zU a b w v).length):(i<(row g v).length∧fX (row g v++zU a b w v) i=fX (row g v) i)∨
  (i=(row g v).length∧((v=a∧fX (row g v++zU a b w v) i=((b:Int),w))∨(v=b∧fX (row g v++zU a b w v) i=((a:Int),w)))):=by
 by_cases h:i<(row g v).length
 ·exact .inl ⟨h,BN h⟩
 ·right
  unfold zU at c ⊢
  by_cases d:v=b
  ·rw[if_pos d]at c ⊢
   have:i=(row g v).length:=by simp at c;omega
   subst this
   exact⟨rfl,.inr ⟨d,uM⟩⟩
  ·rw[if_neg d]at c ⊢
   by_cases e:v=a
   ·rw[if_pos e]at c ⊢
    have:i=(row g v).length:=by simp at c;omega
    subst this
    exact⟨rfl,.inl ⟨e,uM⟩⟩
   ·rw[if_neg e]at c
    simp at c;omega
theorem QB {g:GR} (m:VG g) {a b:Nat} {w:Int} (r:a<g.2.length) (o:b<g.2.length) (n:a≠b) (K:sD (row g a) (b:Int) = -1) (G:1<=w∧w<=15):VG (kY g a b w):=by
 have x:(kY g a b w).2.length=g.2.length:=by simp[kY]
 have z:∀k,k<(row g a).length->(fX (row g a) k).1≠(b:Int):=by
  rcases rT (row g a) (b:Int)with⟨i,_,_,_,e⟩|⟨h,_⟩
  ·omega
  ·exact h
 have D:∀k,k<(row g b).length->(fX (row g b) k).1≠(a:Int):=fun k A B=>by
  obtain⟨j,s,C⟩:=m.back o ⟨k,A,B⟩
  exact z j s C
 have c:∀v,v<g.2.length->qF (row (kY g a b w) v) v g.2.length:=by
  intro v d i t
  rw[rE r o]at t ⊢
  have J:=(m.node v d).links
  rcases Ht n t with⟨q,p⟩|⟨q,f⟩
  ·have l:=J i q
   refine⟨by rw[p];exact l.1,by rw[p];exact l.2.1,by rw[p];exact l.2.2.1,fun k A=> ?_⟩
   rw[p,BN (show k<(row g v).length by omega)]
   exact l.2.2.2 k A
  ·have F:∀k,k<i->(fX (row g v++zU a b w v) k).1≠(fX (row g v++zU a b w v) i).1:=fun k A=>by
    rw[BN (show k<(row g v).length by omega)]
    rcases f with⟨rfl,e⟩|⟨rfl,e⟩
    ·rw[e];exact z k (by omega)
    ·rw[e];exact D k (by omega)
   rcases f with⟨f,e⟩|⟨f,e⟩
   ·exact⟨by rw[e];dsimp only;omega,by rw[e];dsimp only;omega,by rw[e];exact G,F⟩
   ·exact⟨by rw[e];dsimp only;omega,by rw[e];dsimp only;omega,by rw[e];exact G,F⟩
 refine⟨by have:=m.n1;omega,by have:=m.n24;omega,by rw[x];exact m.len,fun v d=> ?_,fun v d i t=> ?_⟩
 ·rw[x]at d
  have E:=m.node v d
  exact⟨E.id,by rw[x];exact Hu d (c v d),by rw[x];exact c v d,E.ids⟩
 ·rw[x]at d
  rw[rE r o]at t
  unfold FI
  rw[rE r o]
  rcases Ht n t with⟨q,p⟩|⟨q,f⟩
  ·rw[p]
   obtain⟨u,L,B,_⟩:=m.port d q
   obtain⟨j,s,H,I⟩:=m.sym v d i q
   rw[B]at s H I ⊢
   have y:at' (kY g a b w).2 (u:Int)=row g u++zU a b w u:=rE r o u
   rw[y]
   exact⟨j,by rw[List.length_append];exact Nat.lt_of_lt_of_le s (Nat.le_add_right _ _),by rw[BN s];exact H,by rw[BN s];exact I⟩
  ·rcases f with⟨f,e⟩|⟨f,e⟩
   ·rw[e]
    have y:at' (kY g a b w).2 (b:Int)=row g b++zU a b w b:=rE r o b
    dsimp only
    rw[y,show zU a b w b=[((a:Int),w)]from if_pos rfl]
    exact⟨(row g b).length,by simp,by rw[uM,f],by rw[uM]⟩
   ·rw[e]
    have y:at' (kY g a b w).2 (a:Int)=row g a++zU a b w a:=rE r o a
    dsimp only
    rw[y,show zU a b w a=[((b:Int),w)] by unfold zU;rw[if_neg n,if_pos rfl]]
    exact⟨(row g a).length,by simp,by rw[uM,f],by rw[uM]⟩
end
end Go.Proofs.YtpenklncfhiloaaGreatDoor
end
end
section
namespace Go.Proofs.YtpenklncfhiloaaGreatDoor
open Go Go.Sx
section
def fk (i k:Nat):Nat:=if k<i then k else k+1
theorem Xe (i k:Nat):fk i k≠i:=by unfold fk;split<;>omega
theorem Xd {i k m:Nat} (h:k<m):fk i k<fk i m:=by unfold fk;split<;>split<;>omega
theorem AN {l:dQ} {i:Nat} (a:i<l.length):(del l i).length+1=l.length:=by
 unfold del;simp;omega
theorem Tw {l:dQ} {i k:Nat} (a:i<l.length) (h:k<(del l i).length):fk i k<l.length:=by
 have:=AN a
 unfold fk;split<;>omega
theorem Pa {l:dQ} {i k:Nat} (b:i<l.length) (h:k<(del l i).length):fX (del l i) k=fX l (fk i k):=by
 have c:=AN b
 rw[fX,fX,gG,gG,List.getD_eq_getElem?_getD,List.getD_eq_getElem?_getD]
 unfold fk
 have a:del l i=l.take i++l.drop (i+1):=rfl
 rw[a]
 by_cases e:k<i
 ·rw[if_pos e,List.getElem?_append_left (by simp;omega),List.getElem?_take_of_lt e]
 ·rw[if_neg e,List.getElem?_append_right (by simp;omega),List.getElem?_drop,List.length_take,Nat.min_eq_left (by omega),show i+1+(k - i)=k+1 by omega]
theorem Pj {i q:Nat} (h:q≠i):∃k,fk i k=q:=by
 by_cases e:q<i
 ·exact⟨q,if_pos e⟩
 ·exact⟨q - 1,by unfold fk;rw[if_neg (by omega)];omega⟩
section
variable {g:GR} {a b i j:Nat}
def oK (a b i j v k:Nat):Nat:=if v=b then fk j k else if v=a then fk i k else k
theorem OZ (c:a<g.2.length) (d:b<g.2.length) (v:Nat):row (zR g a b i j) v=if v=b then del (row g b) j else if v=a then del (row g a) i else row g v:=Mz g a b _ _ c d v
theorem aav {v k m:Nat} (h:k<m):oK a b i j v k<oK a b i j v m:=by
 unfold oK
 split
 ·exact Xd h
 ·split
  ·exact Xd h
  ·exact h
theorem Eb (l:a<g.2.length) (m:b<g.2.length) (d:i<(row g a).length) (f:j<(row g b).length) {v k:Nat} (h:k<(row (zR g a b i j) v).length):oK a b i j v k<(row g v).length∧fX (row (zR g a b i j) v) k=fX (row g v) (oK a b i j v k)∧(v=b->oK a b i j v k≠j)∧(v=a->v≠b->oK a b i j v k≠i):=by
 rw[OZ l m]at h ⊢
 unfold oK
 by_cases e:v=b
 ·subst e
  rw[if_pos rfl]at h ⊢
  rw[if_pos rfl]
  exact⟨Tw f h,Pa f h,fun _=>Xe _ _,fun _ q=>absurd rfl q⟩
 ·rw[if_neg e]at h ⊢
  rw[if_neg e]
  by_cases c:v=a
  ·subst c
   rw[if_pos rfl]at h ⊢
   rw[if_pos rfl]
   exact⟨Tw d h,Pa d h,fun q=>absurd q e,fun _ _=>Xe _ _⟩
  ·rw[if_neg c]at h ⊢
   rw[if_neg c]
   exact⟨h,rfl,fun q=>absurd q e,fun q=>absurd q c⟩
theorem S_ (m:a<g.2.length) (n:b<g.2.length) (o:i<(row g a).length) (p:j<(row g b).length) {v q:Nat} (h:q<(row g v).length) (f:v=b->q≠j) (l:v=a->v≠b->q≠i):∃k,k<(row (zR g a b i j) v).length∧oK a b i j v k=q:=by
 rw[OZ m n]
 unfold oK
 by_cases e:v=b
 ·subst e
  simp only[↓reduceIte]
  obtain⟨k,c⟩:=Pj (f rfl)
  refine⟨k,?_,c⟩
  have:=AN p
  unfold fk at c
  split at c<;>omega
 ·simp only[if_neg e]
  by_cases d:v=a
  ·subst d
   simp only[↓reduceIte]
   obtain⟨k,c⟩:=Pj (l rfl e)
   refine⟨k,?_,c⟩
   have:=AN o
   unfold fk at c
   split at c<;>omega
  ·simp only[if_neg d]
   exact⟨q,h,rfl⟩
theorem QE (n:VG g) (y:a<g.2.length) (z:b<g.2.length) (J:a≠b) (w:i<(row g a).length) (x:j<(row g b).length) (A:(fX (row g a) i).1=(b:Int)) (B:(fX (row g b) j).1=(a:Int)):VG (zR g a b i j):=by
 have C:(zR g a b i j).2.length=g.2.length:=by simp[zR]
 have o:∀v,v<g.2.length->∀p q,p<(row g v).length->q<(row g v).length->(fX (row g v) p).1=(fX (row g v) q).1->p=q:=fun v c p q S G t=>by
  have O:=(n.node v c).links
  rcases Nat.lt_trichotomy p q with h|h|h
  ·exact absurd t ((O q G).2.2.2 p h)
  ·exact h
  ·exact absurd t.symm ((O p S).2.2.2 q h)
 have d:∀v,v<g.2.length->qF (row (zR g a b i j) v) v g.2.length:=by
  intro v c k K
  obtain⟨r,s,_,_⟩:=Eb y z w x K
  have l:=(n.node v c).links _ r
  refine⟨by rw[s];exact l.1,by rw[s];exact l.2.1,by rw[s];exact l.2.2.1,fun m F=> ?_⟩
  obtain⟨N,I,_,_⟩:=Eb (v:=v) (k:=m) y z w x (by omega)
  rw[s,I]
  exact l.2.2.2 _ (aav F)
 refine⟨by have:=n.n1;omega,by have:=n.n24;omega,by rw[C];exact n.len,fun v c=> ?_,fun v c k K=> ?_⟩
 ·rw[C]at c
  have P:=n.node v c
  exact⟨P.id,by rw[C];exact Hu c (d v c),by rw[C];exact d v c,P.ids⟩
 ·rw[C]at c
  obtain⟨r,s,N,I⟩:=Eb y z w x K
  unfold FI
  rw[s]
  obtain⟨u,U,t,_⟩:=n.port c r
  obtain⟨q,G,M,R⟩:=n.sym v c _ r
  rw[t]at G M R ⊢
  have T:at' (zR g a b i j).2 (u:Int)=row (zR g a b i j) u:=rfl
  rw[T]
  have L:q<(row g u).length:=G
  have E:(fX (row g u) q).1=(v:Int):=M
  obtain⟨m,F,D⟩:=S_ (v:=u) y z w x L (fun e f=>by
   subst e f
   rw[B]at E
   have H:v=a:=by omega
   subst H
   exact I rfl J (o v c _ _ r w (by rw[t,A]))) (fun e _ f=>by
   subst e f
   rw[A]at E
   have H:v=b:=by omega
   subst H
   exact N rfl (o v c _ _ r x (by rw[t,B])))
  obtain⟨_,Q,_,_⟩:=Eb y z w x F
  refine⟨m,F,?_,?_⟩
  ·rw[Q,D];exact M
  ·rw[Q,D];exact R
end
end
section
section
variable {g:GR} {a b i j:Nat} {c:List (List Int)} {w:Int}
theorem Ta (l:a<g.2.length) (m:b<g.2.length) (n:i<(row g a).length) (o:j<(row g b).length) {v:Nat} (h:vD (zR g a b i j) c v):vD g c v:=by
 obtain⟨k,p,d⟩:=h
 obtain⟨e,f,_,_⟩:=Eb l m n o p
 refine⟨oK a b i j v k,e,?_⟩
 unfold xY at d ⊢
 rw[f]at d;exact d
theorem SU (p:a<g.2.length) (q:b<g.2.length) (l:a≠b) {v:Nat} (h:vD (kY g a b w) c v):vD g c v∨((v=a∨v=b)∧CK c a=CK c b):=by
 obtain⟨k,n,d⟩:=h
 unfold xY at d
 rw[rE p q]at n d
 rcases Ht l n with⟨m,o⟩|⟨m,⟨f,e⟩|⟨f,e⟩⟩
 ·rw[o]at d;exact .inl ⟨k,m,d⟩
 ·rw[e,f]at d;exact .inr ⟨.inl f,d.symm⟩
 ·rw[e,f]at d;exact .inr ⟨.inr f,d⟩
theorem SX (e:a<g.2.length) (f:b<g.2.length) (d:a≠b) (h:CK c a=CK c b):vD (kY g a b w) c a∧vD (kY g a b w) c b:=by
 constructor
 ·refine⟨(row g a).length,?_,?_⟩
  ·rw[rE e f];unfold zU;rw[if_neg d,if_pos rfl];simp
  ·unfold xY
   rw[rE e f]
   unfold zU
   rw[if_neg d,if_pos rfl,uM]
   exact h.symm
 ·refine⟨(row g b).length,?_,?_⟩
  ·rw[rE e f];unfold zU;rw[if_pos rfl];simp
  ·unfold xY
   rw[rE e f]
   unfold zU
   rw[if_pos rfl,uM]
   exact h
end
end
end Go.Proofs.YtpenklncfhiloaaGreatDoor
end
section
namespace Go.Proofs.YtpenklncfhiloaaGreatDoor
open Go.Sx
section
def qX (U:Nat) (p0:qC) (p1:cT) (p2:a_):Option (Bool):=
 Option.bind (lX U ((p0.1,p0.2.1,p0.2.2)) ((p1.1,p1.2)) p2) fun a=>(some (decide (a=(0:Int))))
theorem XW:aO Tryz.prog 44:=Tryz.call44
theorem Ig (U:Nat) {p0:qC} {p1:cT} {p2:a_} (a:Value)  (b:Value)  (d:Value)  (e:Value)  (g:jT)  (f:Value)  (i:oV) (r:Bool) (h:qX U p0 p1 p2=some r):
  aV Tryz.prog 44 #[Value.agg #[vS (p0.1),a,b],Value.agg #[d,e],f] [Sl aJ a p0.2.1,Sl aF b p0.2.2,PF (Value.agg #[vS p0.1,a,b]),Sl bL d p1.1,S2 aW e g p1.2,S2 bL f i p2] (fun x:Unit=>vB (r)) (fun x l=>l) (fun _ l=>l):=by
 refine aV.of Tryz.func44 rfl Tryz.ntmps44 rfl fun c=>?_
 refine sqR<|aE (aG.box (cs:=[vS (p0.1),a,b]) rfl rfl) rfl fun m=>aE (aG.box (cs:=[d,e]) rfl rfl) rfl fun n=>qkAsg rfl<|dtN<|sqR<|qkLdA 1 rfl<|qkLdA 0 rfl<|qkMove rfl<|bnE h fun j k h=>aE (aG.callQ SJ (B_ U a b d e g f i j k) rfl (iJ [0,1,2,3,4,5] rfl)) rfl fun o=>qkEql rfl<|qkAsg rfl<|dtN<|aN ?_
 cases h
 exact vH rfl
end
section
def xK (U:Nat) (p0:qC) (p1:cT) (p2:a_) (a:cJ×Int×a_):Option (Int):=
 Option.bind (cU U ((((p0.1,p0.2.1,p0.2.2)),((((p0.1,p0.2.1,p0.2.2)),((p1.1,p1.2)),a.2.1,a.2.2)),a.1)) p2) fun b=>(some (b))
def tH (U:Nat) (p0:qC) (p1:cT) (p2:a_) (a:yY):Option (Int):=
 Option.bind (eP U ((p0.1,p0.2.1,p0.2.2)) ((p1.1,p1.2))) fun b=>(xK U p0 p1 p2 (b,a.1,a.2))
def pP (U:Nat) (p0:qC) (p1:cT) (p2:a_) (a:yY):Option (Int):=
 tH U p0 p1 p2 (a.1,a.2)
def tI (p1:cT) (a:Int×Int×a_) (b:(Int×Int×a_)->Option (Int)) (c:a_):Option (Int):=
 b ((wI .i64 (a.1+(1:Int))),(max a.2.1 (at' p1.1 a.1)),c)
def mQ (U:Nat) (p1:cT) (a:Int×Int×a_) (d:(Int×Int×a_)->Option (Int)) (b:yY) (e:(Int×a_)->Option (Int)):Option (Int):=
 if b.1<(List.length (at' p1.2 a.1):Int)then(ck (0<=b.1∧b.1<(List.length (at' p1.2 a.1):Int)) (ck (0<=a.1∧a.1<(List.length b.2:Int)) (Option.bind (fS U ((p1.1,p1.2)) ((at' (at' p1.2 a.1) b.1).1) a.1) fun c=>(ck ((List.length (at' b.2 a.1):Int)+(List.length ([c]):Int)<=1099511627) (ck (0<=a.1∧a.1<(List.length (List.set b.2 (Int.toNat a.1) ((at' b.2 a.1)++[c])):Int)) (e ((wI .i64 (b.1+(1:Int))),(List.set b.2 (Int.toNat a.1) ((at' b.2 a.1)++[c])))))))))else(tI p1 a d (b.2))
def iW (U:Nat) (p0:qC) (p1:cT) (p2:a_) (a:Int×Int×a_) (b:(Int×Int×a_)->Option (Int)):Option (Int):=
 if a.1<(List.length p1.2:Int)then(ck (0<=a.1∧a.1<(List.length p1.2:Int)) (ck (0<=a.1∧a.1<(List.length p1.1:Int)) (bM (mQ U p1 a b) U ((0:Int),a.2.2))))else(pP U p0 p1 p2 (a.2.1,a.2.2))
def qY (U:Nat) (p0:qC) (p1:cT) (p2:a_):Option (Int):=
 Option.bind (qX U ((p0.1,p0.2.1,p0.2.2)) ((p1.1,p1.2)) p2) fun r3=>(if(!r3)=true then(some (0:Int))else(ck (0<=(List.length p1.2:Int)∧(List.length p1.2:Int)<=1099511627) (bM (iW U p0 p1 p2) U ((0:Int),(0:Int),(List.replicate (Int.toNat (List.length p1.2:Int)) ([]:aQ))))))
theorem XN:aO Tryz.prog 16:=Tryz.call16
theorem Ik (U:Nat) {p0:qC} {p1:cT} {p2:a_} (v0:Value)  (v1:Value)  (v2:Value)  (v3:Value)  (z4:jT)  (v5:Value)  (z6:oV) (r:Int) (h:qY U p0 p1 p2=some r):
  aV Tryz.prog 16 #[Value.agg #[vS (p0.1),v0,v1],Value.agg #[v2,v3],v5] [Sl aJ v0 p0.2.1,Sl aF v1 p0.2.2,PF (Value.agg #[vS p0.1,v0,v1]),Sl bL v2 p1.1,S2 aW v3 z4 p1.2,S2 bL v5 z6 p2] (fun x:Unit=>vU (r)) (fun x l=>l) (fun _ l=>l):=by
 refine aV.of Tryz.func16 rfl Tryz.ntmps16 rfl fun c=>?_
 refine sqR<|aE (aG.box (cs:=[vS (p0.1),v0,v1]) rfl rfl) rfl fun b1=>aE (aG.box (cs:=[v2,v3]) rfl rfl) rfl fun b2=>qkAsg rfl<|dtN<|aH<|sqR<|qkLdA 1 rfl<|qkLdA 0 rfl<|qkMove rfl<|bnE h fun r3 w4 h=>aE (aG.callQ XW (Ig U v0 v1 v2 v3 z4 v5 z6 r3 w4) rfl (iJ [0,1,2,3,4,5] rfl)) rfl fun x5=>aB (o_ rfl) rfl<|dtN ?_
 refine zQ h rfl (fun _ h=>?_) fun _ h=>?_
 ·refine sqR<|qkAsg rfl<|dtN<|aN<|aI ?_
  cases h
  exact vH rfl
 refine cL<|sqR<|qkLdA 1 rfl<|qkLdA 0 rfl<|AD (A:=cJ×Int×a_) (B:=Nat×Nat×Value×List Value×Value×List Value) (vs:=[Value.agg #[vS (p0.1),v0,v1],Value.agg #[v2,v3]]) (fun a16=>xK U p0 p1 p2 a16=some r) (fun a16 b17=>vP b17.1) (fun a16 b17=>[bS b17.1 [vS (p0.1),v0,v1,vP b17.2.1,b17.2.2.1] 134,Ar c_.raw b17.2.2.1 b17.2.2.2.1,gU bH b17.2.2.2.1 a16.1,bS b17.2.1 [vS (p0.1),v0,v1,v2,v3,vI (a16.2.1),b17.2.2.2.2.1] 176,Ar c_.raw b17.2.2.2.2.1 b17.2.2.2.2.2,gU cE b17.2.2.2.2.2 a16.2.2]) (fun a16 b17=>[Sl aJ v0 p0.2.1,Sl aF v1 p0.2.2,PF (Value.agg #[vS p0.1,v0,v1]),Sl bL v2 p1.1,S2 aW v3 z4 p1.2,S2 bL v5 z6 p2]) (uC.fn (show aO Tryz.prog 45 from Tryz.call45) rfl) Tryz.func45 rfl Tryz.ntmps45 rfl rfl ?_ ?_
 ·refine sqR<|aE (aG.box (cs:=[vS (p0.1),v0,v1]) rfl rfl) rfl fun b21=>aE (aG.box (cs:=[v2,v3]) rfl rfl) rfl fun b22=>qkAsg rfl<|dtN<|aH ?_
  refine JR.start [0,0,0,6,0,0,62,127,255,511] 7 mixedOrders (by decide +kernel) ?_
  refine JR.open (by exact rfl) ?_
  refine jkLdA 1 rfl<|jkLdA 1 rfl<|jkLdA 0 rfl<|JQ (A:=yY) (B:=Nat×Value×List Value) (vs:=[Value.agg #[vS (p0.1),v0,v1],Value.agg #[v2,v3]]) (fun a28=>tH U p0 p1 p2 a28=some r) (fun a28 b29=>vP b29.1) (fun a28 b29=>[bS b29.1 [vS (p0.1),v0,v1,v2,v3,vI (a28.1),b29.2.1] 176,Ar c_.raw b29.2.1 b29.2.2,gU cE b29.2.2 a28.2,bS b22 [v2,v3] 28,bS b21 [vS (p0.1),v0,v1] 41]) (fun a28 b29=>[Sl aJ v0 p0.2.1,Sl aF v1 p0.2.2,PF (Value.agg #[vS p0.1,v0,v1]),Sl bL v2 p1.1,S2 aW v3 z4 p1.2,S2 bL v5 z6 p2]) rfl rfl rfl (uC.fn (show aO Tryz.prog 66 from Tryz.call66) rfl) Tryz.func66 rfl Tryz.ntmps66 rfl rfl (fun _ _=>(jM [([4],[])] rfl)) ?_ ?_
  ·refine sqR<|aE (aG.box (cs:=[vS (p0.1),v0,v1]) rfl rfl) rfl fun b35=>aE (aG.box (cs:=[v2,v3]) rfl rfl) rfl fun b36=>qkAsg rfl<|dtN<|aH ?_
   refine JR.start [0,0,0,4,12,28,63,127,255] 6 mixedOrders (by decide +kernel) ?_
   refine JR.open (by exact rfl) ?_
   refine jkLdA 1 rfl<|jkLdA 0 rfl<|jkFld rfl<|jkLd 0 rfl<|bD rfl .nil (lA 4 rfl) (iY rfl (aC.fact 0 rfl) rfl) aK.z<|ckE h fun j37 h=>JR.stp (oZ cE (Int.toNat (List.length p1.2:Int)))<|JR.loud rfl rfl rfl (nJ (e:=c_.raw) (eG) rfl rfl rfl rfl j37 rfl rfl rfl) rfl (fun u38=>(jM [([2],[]),([3],[])] rfl)) fun u38=>bF 6 rfl rfl<|bJ (Know.one (aC.sl (aP (i:=0) (j:=1) rfl rfl cW))) fun ho39=>?_
   refine aB (JV (r:=Value.agg #[vS (p0.1),v0,v1,v2,v3,vI (0:Int),u38]) rfl rfl rfl (by intro w;simp[Instr.build,Instr.fill,bV,bQ,bK,bW,bX,bR,cC,cY ho39])) rfl ?_
   refine aE (aG.box (cs:=[vS (p0.1),v0,v1,v2,v3,vI (0:Int),u38]) rfl rfl) rfl fun b40=>qkAsg rfl<|dtN<|aH<|midL (B:=dO) (fun a44=>pP U p0 p1 p2 a44=some r) (fun a44 b45=>[(5,vP b40)]) (fun a44 b45=>[bS b40 [vS (p0.1),v0,v1,v2,v3,vI (a44.1),u38] 176,Ar c_.raw u38 b45,gU cE b45 a44.2,bS b22 [v2,v3] 28,bS b21 [vS (p0.1),v0,v1] 41]) ?_ ?_
   ·refine sqR<|qkFld rfl<|qkLd 3 rfl<|aB (iY rfl (aC.fact 4 rfl) rfl) rfl<|qkMove rfl<|dtN<|aR<|loopL (B:=dO) (iW U p0 p1 p2) (fun a51 b52=>[(3,vP b36),(5,vP b40),(19,v3),(20,vI (List.length p1.2:Int)),(21,vI (a51.1))]) (fun a51 b52=>[bS b40 [vS (p0.1),v0,v1,v2,v3,vI (a51.2.1),u38] 176,Ar c_.raw u38 b52,gU cE b52 a51.2.2,bS b36 [v2,v3] 28,bS b22 [v2,v3] 28,bS b21 [vS (p0.1),v0,v1] 41]) ((0:Int),(0:Int),(List.replicate (Int.toNat (List.length p1.2:Int)) ([]:aQ))) (List.replicate (Int.toNat (List.length p1.2:Int)) (eG)) h SF (aS.ix [0,1,2,3,5,6] rfl rfl) ?_
    intro k53 a51 b52 h
    refine sqR<|qkLss rfl<|dtN<|aH ?_
    refine eZ h rfl (fun h=>?_) fun h=>?_
    ·refine cL<|aH<|midL (B:=dO) (fun a57=>tI p1 a51 (bM (iW U p0 p1 p2) k53) a57=some r) (fun a57 b58=>[(3,vP b36),(5,vP b40),(19,v3),(20,vI (List.length p1.2:Int)),(21,vI (a51.1))]) (fun a57 b58=>[bS b40 [vS (p0.1),v0,v1,v2,v3,vI (max a51.2.1 (at' p1.1 a51.1)),u38] 176,Ar c_.raw u38 b58,gU cE b58 a57,bS b36 [v2,v3] 28,bS b22 [v2,v3] 28,bS b21 [vS (p0.1),v0,v1] 41]) ?_ ?_
     ·refine aR<|sqR<|qkMove rfl<|ckE h fun j59 h=>aB (cG rfl rfl (aC.fact 4 rfl) rfl rfl j59) rfl<|aB (cI rfl (aC.fact 4 rfl) rfl rfl j59) rfl<|qkAsg rfl<|qkAsg rfl<|dtN<|aH ?_
      refine JR.start [0,0,2,6,14,0,32,0,224,480,1022,2047,4095,8191] 11 mixedOrders (by decide +kernel) ?_
      refine JR.open (by exact rfl) ?_
      refine jkMove rfl<|jkMove rfl<|jqN rfl (bU rfl)<|jkFld rfl<|jkLd 0 rfl<|jkFld rfl<|jkLd 3 rfl<|jkMove rfl<|ckE h fun j60 h=>bD rfl .nil (lA 3 rfl) (bG rfl rfl (aC.fact 0 rfl) rfl rfl j60) aK.z<|bD rfl .nil (lA 3 rfl) (cK rfl (aC.fact 0 rfl) rfl rfl rfl fE j60) aK.z<|jqN rfl (Hc rfl rfl)<|bF 11 rfl rfl<|aB (bU rfl) rfl<|qkFld rfl<|fY 0 rfl rfl rfl rfl rfl rfl<|dtN<|sqR<|qkMove rfl<|aB (fM rfl (aC.el (aC.fact 4 rfl) j59.1 j59.2) rfl) rfl<|qkMove rfl<|dtN<|aR<|loopL (B:=dO) (mQ U p1 a51 (bM (iW U p0 p1 p2) k53)) (fun a65 b66=>[(3,vP b36),(5,vP b40),(6,vI (a51.1)),(19,v3),(20,vI (List.length p1.2:Int)),(21,vI (a51.1)),(39,(at' z4 a51.1).1),(40,vI (List.length (at' p1.2 a51.1):Int)),(41,vI (a65.1))]) (fun a65 b66=>[bS b40 [vS (p0.1),v0,v1,v2,v3,vI (max a51.2.1 (at' p1.1 a51.1)),u38] 176,Ar c_.raw u38 b66,gU cE b66 a65.2,bS b36 [v2,v3] 28,bS b22 [v2,v3] 28,bS b21 [vS (p0.1),v0,v1] 41]) ((0:Int),a51.2.2) (b52) h SF (aS.refl _) ?_
      intro k67 a65 b66 h
      refine sqR<|qkLss rfl<|dtN<|aH ?_
      refine eZ h rfl (fun h=>?_) fun h=>?_
      ·refine cL<|aH<|aR<|sqR<|ckE h fun j69 h=>aB (bG rfl rfl (aC.el (aC.fact 4 rfl) j59.1 j59.2) rfl rfl j69) rfl<|aB (gV (cs:=[vI ((at' (at' p1.2 a51.1) a65.1).1),vI ((at' (at' p1.2 a51.1) a65.1).2)]) rfl (aC.el (aC.fact 4 rfl) j59.1 j59.2) aU rfl rfl rfl rfl j69) rfl<|aE (aG.alloc (cs:=Oz) rfl rfl) rfl fun b70=>aY 0 (vs:=[vI ((at' (at' p1.2 a51.1) a65.1).1),vI ((at' (at' p1.2 a51.1) a65.1).2)]) rfl rfl rfl rfl rfl rfl<|dtN ?_
       refine JR.start [0,1,3,7,0,0,32,96,224,0,992,2016,0,0,8192,0,61440,126976,262112,524287,1048575] 19 mixedOrders (by decide +kernel) ?_
       refine JR.open (by exact rfl) ?_
       refine jkMove rfl<|jqN rfl (bU rfl)<|jkFld rfl<|jkLd 1 rfl<|jkMove rfl<|jkMove rfl<|jqN rfl (bU rfl)<|jkFld rfl<|jkLd 1 rfl<|jkMove rfl<|ckE h fun j71 h=>bN (bZ 3 rfl) fun hl72=>?_
       refine bD rfl (aS.cons 2 rfl .nil) .nil (eM 0 rfl rfl rfl rfl rfl j71.1 (by have q1:=j71.2;have q2:=hl72;(try simp only[List.length_set]at q1);(try simp only[List.length_set]at q2);(try simp only[List.length_set]);omega)) aK.z ?_
       refine bN (bZ 3 rfl) fun hl73=>bD rfl (aS.cons 2 rfl .nil) .nil (gZ 0 rfl rfl hl73 rfl rfl j71) aK.z<|jkLdA 4 rfl<|jkFld rfl<|jkLd 0 rfl<|jkMove rfl<|bnE h fun r74 w75 h=>JR.loud rfl rfl rfl (aG.callQ EU (oP U v2 v3 z4 r74 w75) rfl (iJ [3,4] rfl)) rfl (fun x76=>(jM [([2],[]),([2],[]),([1],[]),([1],[])] rfl)) fun x76=>JR.loud rfl rfl rfl (cR (e:=cE) ([r74]) [(0,vI (r74))] rfl rfl rfl rfl (pK (vI (r74)) rfl) rfl rfl rfl) rfl (fun u77=>(jM [([3],[]),([3],[]),([2],[]),([2],[])] rfl)) fun u77=>ckE h fun j79 h=>JR.loud rfl rfl rfl (kJ 4 cW rfl rfl rfl (aT (aC.res 0 rfl) cW) rfl rfl rfl rfl j71 j79 rfl) rfl (fun u78=>(jM [([2],[])] rfl)) fun u78=>bF 19 rfl rfl<|ckE h fun j80 h=>bJ (bZ 4 rfl) fun hl81=>?_
       refine aB (eM 3 rfl rfl rfl rfl rfl j80.1 (by have q1:=j80.2;have q2:=hl81;(try simp only[List.length_set]at q1);(try simp only[List.length_set]at q2);(try simp only[List.length_set]);omega)) rfl ?_
       refine bJ (qQ 4 (k:=a51.1) rfl ⟨j80.1,by first|exact j80.2|simpa using j80.2⟩) fun ho82=>?_
       refine iK 3 4 ⟨j80.1,by first|exact j80.2|simpa using j80.2⟩ rfl rfl rfl rfl rfl (by simp) ho82 rfl ?_
       refine eI<|inT<|aM<|qkAdd rfl<|qkMove rfl<|dtN ?_
       exact kN ((wI .i64 (a65.1+(1:Int))),(List.set a65.2 (Int.toNat a51.1) ((at' a65.2 a51.1)++[r74]))) (List.set b66 (Int.toNat a51.1) u78) h SF (aS.ix [2,3,4,5,6,7] rfl rfl) (aA.refl _ _)
      refine qP<|eL<|eL<|wU<|inT ?_
      exact iQ (a65.2) (b66) h SF rfl
     intro a57 b58 h
     unfold tI at h
     refine aM<|qkAdd rfl<|qkMove rfl<|dtN ?_
     exact Ah ((wI .i64 (a51.1+(1:Int))),(max a51.2.1 (at' p1.1 a51.1)),a57) (b58) h SF rfl
    refine gH ?_
    exact bO (a51.2.1,a51.2.2) (b52) h SF (aS.ix [0,1,2,4,5] rfl rfl) (aA.refl _ _)
   intro a44 b45 h
   unfold pP at h
   refine sqR<|qkMove rfl<|qkAsg rfl<|dtN<|aN ?_
   exact vL (a44.1,a44.2) (b40,u38,b45) h (.inl rfl) (FE.r1 rfl (RV.tmp rfl)) rfl (aS.refl _) (aA.refl _ _)
  intro a28 b29 h
  unfold tH at h
  refine bD rfl (aS.cons 4 rfl .nil) .nil (eF 0 rfl rfl rfl rfl) (aK.h (aS.ix [1] rfl rfl) .nil aK.z)<|bD rfl (aS.cons 3 rfl .nil) .nil (eF 0 rfl rfl rfl rfl) (aK.h (aS.ix [0] rfl rfl) .nil aK.z)<|bnE h fun r30 w31 h=>JR.loud rfl rfl rfl (aG.callQ Hl (rA U v0 v1 v2 v3 z4 r30 w31) rfl (iJ [0,1,2,3,4] rfl)) rfl (fun x32=>(jM [([6],[])] rfl)) fun x32=>bF 7 rfl rfl<|bJ (Know.one (aC.sl (aP (i:=0) (j:=1) rfl rfl aU))) fun ho33=>?_
  refine aB (JV (r:=Value.agg #[vS (p0.1),v0,v1,Value.pointer (some ⟨b29.1,0,none⟩),x32.1]) rfl rfl rfl (by intro w;simp[Instr.build,Instr.fill,bV,bQ,bK,bW,bX,bR,cC,cY ho33])) rfl ?_
  refine aE (aG.box (cs:=[vS (p0.1),v0,v1,vP b29.1,x32.1]) rfl rfl) rfl fun b34=>qkAsg rfl<|dtN<|aN ?_
  exact vL (r30,a28.1,a28.2) (b34,b29.1,x32.1,x32.2,b29.2.1,b29.2.2) h (.inl rfl) (FE.r1 rfl (RV.tmp rfl)) rfl (aS.ix [0,1,2,3,4,5] rfl rfl) (aA.refl _ _)
 intro a16 b17 h
 refine qkMove rfl<|bnE h fun r18 w19 h=>aE (aG.callQ NH (oO U b17.1 v0 v1 b17.2.1 v0 v1 v2 v3 z4 b17.2.2.2.2.1 (List.zip b17.2.2.2.2.2 a16.2.2) b17.2.2.1 (List.zip b17.2.2.2.1 a16.1) v5 z6 r18 w19) rfl (aA.cons (aC.res 0 rfl) (aA.cons (aC.fact 0 rfl) (aA.cons (aC.fact 1 rfl) (aA.cons (aC.res 3 rfl) (aA.cons (aC.fact 0 rfl) (aA.cons (aC.fact 1 rfl) (aA.cons (aC.fact 3 rfl) (aA.cons (aC.fact 4 rfl) (aA.cons (aP (i:=4) (j:=5) rfl rfl cW) (aA.cons (aP (i:=1) (j:=2) rfl rfl aU) (iJ [5] rfl)))))))))))) rfl fun x20=>qkAsg rfl<|dtN<|aN ?_
 cases h
 exact vH rfl
end
end Go.Proofs.YtpenklncfhiloaaGreatDoor
end
section
namespace Go.Proofs.YtpenklncfhiloaaGreatDoor
open Go Go.Sx
section
theorem Rj {g:GR} (hV:VG g) (p:xP) (c:a_):
  bM (iW 1000 p g c) 1000 ((0:Int),(0:Int),(List.replicate (Int.toNat (List.length g.2:Int)) ([]:aQ)))=pP 1000 p g c (iF g g.2.length,eO g):=by
 have h24:=hV.n24
 have hlen:=hV.len
 let f:Nat->aQ:=fun v=>(List.range (row g v).length).map (Hi g v)
 let Q:Nat->a_:=fun k=>(List.range k).map f++List.replicate (g.2.length - k) []
 have hQ:∀k,k<=g.2.length->(Q k).length=g.2.length:=fun k hk=>by simp[Q];omega
 rw[show List.replicate (Int.toNat (List.length g.2:Int)) ([]:aQ)=Q 0 by simp[Q]]
 refine dM (step:=iW 1000 p g c) g.2.length (fun k=>((k:Int),iF g k,Q k)) (fun k ag hk=> ?_) (fun ag=> ?_) 1000 (by omega)
 ·have hdeg:=(hV.node k hk).deg
  have hq:k<(Q k).length:=by rw[hQ k (by omega)];exact hk
  unfold iW
  dsimp only
  rw[if_pos (by omega),cQ (by omega),cQ (by omega)]
  let Rw:Nat->aQ:=fun j=>(List.range j).map (Hi g k)
  have e0:Q k=(Q k).set k (Rw 0):=by
   have:at' (Q k) (k:Int)=Rw 0:=by
    rw[iZ hq];simp[Q,Rw]
   rw[<-this]
   exact(Dy (Q k) (k:Int) (by simpa using hq) (by omega)).symm
  rw[show(Q k)=(Q k).set k (Rw 0)from e0]
  have hgen:∀A:a_,A.length=g.2.length->bM (mQ 1000 g ((k:Int),iF g k,(Q k).set k (Rw 0)) ag) 1000 ((0:Int),A.set k (Rw 0))=ag (((k+1:Nat):Int),iF g (k+1),A.set k (f k)):=by
   intro A hA
   refine dM (step:=mQ 1000 g ((k:Int),iF g k,(Q k).set k (Rw 0)) ag) (K:=ag (((k+1:Nat):Int),iF g (k+1),A.set k (f k))) (row g k).length (fun j=>((j:Int),A.set k (Rw j))) (fun j ag2 hj=> ?_) (fun ag2=> ?_) 1000 (by omega)
   ·obtain⟨u,hu,hue⟩:=hV.to hk hj
    have hdu:=(hV.node u hu).deg
    have a1:at' (A.set k (Rw j)) (k:Int)=Rw j:=by rw[uD _ _ _ _ (by omega),if_pos rfl]
    have hRl:(Rw j).length=j:=by simp[Rw]
    unfold mQ
    dsimp only
    rw[if_pos (show(j:Int)<((row g k).length:Int) by omega),cQ (show 0<=(j:Int)∧(j:Int)<((row g k).length:Int) by omega),cQ (by simp only[List.length_set];omega),show at' (at' g.2 (k:Int)) (j:Int)=fX (row g k) j from rfl,hue,aZ (show fS 1000 _ (u:Int) (k:Int)=_ from Av g u (k:Int) hu (by omega)),a1,cQ (by rw[hRl];simp;omega),cQ (by simp only[List.length_set];omega),dY (by omega),Int.toNat_natCast,List.set_set]
    have:Rw j++[sD (row g u) (k:Int)]=Rw (j+1):=by
     simp only[Rw];rw[List.range_succ,List.map_append,List.map_singleton,Hi,hue,Int.toNat_natCast]
    rw[this]
   ·unfold mQ tI
    dsimp only
    rw[if_neg (show¬((row g k).length:Int)<((row g k).length:Int)from Int.lt_irrefl _),dY (by omega)]
    rfl
  have:=hgen (Q k) (hQ k (by omega))
  rw[pX f [] g.2.length k hk]at this
  exact this
 ·unfold iW
  dsimp only
  rw[if_neg (by omega)]
  simp[Q,eO,f]
theorem Ic {p:xP} {g:GR} {R:List RL} (hV:VG g) (hp:yC g p.2.1) (hz:p.2.2.map vW=CL R) (hR:wC p.2.1.length R=true) {c:a_} (hc:IA g c p.2.1):qY 1000 p g c=some ((VX (bY p g) R c:Nat):Int):=by
 have h24:=hV.n24
 unfold qY
 have hm:qX 1000 p g c=some true:=by
  unfold qX
  rw[aZ (show lX 1000 _ _ c=_ from LP hV hp hc)];rfl
 rw[aZ (show qX 1000 _ _ c=_ from hm),if_neg (by decide),cQ (by omega),Rj hV p c]
 unfold pP tH xK
 rw[aZ (show eP 1000 _ _=_ from Ca hV hp)]
 dsimp only
 rw[aZ (show cU 1000 (p,(p,g,iF g g.2.length,eO g),tS g p.2.1) c=some ((VX (bY p g) R c:Nat):Int)from Hx hV hc.shape hz hR (by simp[tS]))]
end
section
theorem FZ (l:aQ) (j:l.length<=900) (h:∀x∈l,∃a:Nat,x=(a:Int)∧a<16777216):fR 1000 l=some true:=by
 unfold fR
 refine dM (step:=gA l) (K:=some true) l.length (fun k=>(k:Int)) (fun k f d=> ?_) (fun f=> ?_) 1000 (by omega)
 ·obtain⟨a,g,b⟩:=h (at' l (k:Int)) (by rw[iZ d];exact List.getElem_mem d)
  unfold gA
  rw[if_pos (by omega),cQ (by omega),g,dY (by omega)]
  have:qG .u32 (a:Int) (16777215:Int)=0:=(Sv _ _).2 fun i c=>by
   rw[sR (by omega)]at c
   have e:KS 16777215=2^24 - 1:=sR (a:=16777215) (by omega)
   rw[e,Nat.testBit_two_pow_sub_one,decide_eq_true_eq]
   by_cases h:i<24
   ·exact h
   ·have:=Nat.testBit_lt_two_pow (x:=a) (i:=i) (Nat.lt_of_lt_of_le b (Nat.pow_le_pow_right (n:=2) (by omega) (show 24<=i by omega)))
    rw[this]at c;cases c
  rw[this,if_neg (by simp)]
 ·unfold gA kP
  rw[if_neg (by omega)]
structure Rz (k:Nat) (cnt:CT) (R B pe:Nat):Prop where
 steps:cnt.1=(k:Int)
 moves:(k:Int)<=cnt.2.1∧cnt.2.1<=24*(k:Int)
 rounds:cnt.2.2.1=(R:Int)
 begun:cnt.2.2.2.1=(B:Int)
 pend:cnt.2.2.2.2=(pe:Int)
 le:R<=B∧B<=k∧B<=R+1
 p24:pe<16777216
theorem Rz.valid {k:Nat} {i:CT} {R B j:Nat} (h:Rz k i R B j) (n:k<=1000):iR 1000 i=some true:=by
 obtain⟨a,b,c,d,e,f,g⟩:=h
 have m:=FZ [(j:Int)] (by simp) fun x l=>by
  have l:x=(j:Int):=by simpa using l
  exact⟨j,l,g⟩
 unfold iR
 rw[a,c,d,if_neg (by omega),if_neg (by omega),if_neg (by omega),if_neg (by omega),decide_eq_false (by omega)]
 unfold fV jK
 rw[a,c,d,e,if_neg (by decide),dY (by omega),if_neg (by omega),if_pos b.1,wr (by omega) (by omega),if_pos b.2,aZ m]
end
section
theorem Uc:∀v:Fin 24,lV 1000 ((2^v.val:Nat):Int)=some 1:=by decide +kernel
theorem Qp {c v en:Nat} (i:c<16777216) (o:v<24) (g:en<16777216) {b:CT} {e:Int} (a:lB 1000 ((0,0,0,0,(c:Int)):CT) ((2^v:Nat):Int) (en:Int)=some (b,e)):b.2.1=1:=by
 have h:Rz 0 ((0,0,0,0,(c:Int)):CT) 0 0 c:=⟨rfl,by dsimp only;omega,rfl,rfl,rfl,by omega,i⟩
 have d:=h.valid (by omega)
 have m:2^v<16777216:=by
  have:(2:Nat)^v<=2^23:=Nat.pow_le_pow_right (by omega) (by omega)
  omega
 have n:2^v≠0:=by have:=Nat.two_pow_pos v;omega
 have k:=Uc ⟨v,o⟩
 dsimp only at k
 have l:=FZ [((2^v:Nat):Int),(en:Int)] (by simp) fun x j=>by
  have j:x=((2^v:Nat):Int)∨x=(en:Int):=by simpa using j
  rcases j with rfl|rfl
  ·exact⟨2^v,rfl,m⟩
  ·exact⟨en,rfl,g⟩
 have f:Hv c (2^v)<4294967296:=LV c _
 generalize 2^v=t at *
 unfold lB at a
 rw[aZ (show iR 1000 _=some true from d),if_neg (by decide),if_neg (by omega),aZ l]at a
 unfold nZ n_ at a
 dsimp only at a
 rw[if_neg (by decide),if_neg (by omega),aZ k,Hh,DY f (by omega)]at a
 split at a
 ·obtain⟨rfl,_⟩:=Prod.mk.inj (Option.some.inj a);rfl
 ·obtain⟨rfl,_⟩:=Prod.mk.inj (Option.some.inj a);rfl
end
end Go.Proofs.YtpenklncfhiloaaGreatDoor
end
section
namespace Go.Proofs.YtpenklncfhiloaaGreatDoor
open Go.Sx
def lH (U:Nat)  : Option (ByteArray):=
 some (ByteArray.mk #[112,114,111,103,114,97,109,32,99,111,108,111,117,114,105,110,103,59,10,118,97,114,32,99,32,58,32,48,32,46,46,32,110,59,10,114,117,108,101,32,102,105,120,58,32,115,111,109,101,40,113,46,99,32,61,61,32,99,41,32,45,62,32,99,32,58,61,32,109,101,120,40,113,46,99,41,59,10])
theorem Xc:aO Tryz.prog 6:=Tryz.call6
theorem Ax (U:Nat)  (r:ByteArray) (h:lH U  = some r):
  aV Tryz.prog 6 #[] [] (fun x:Unit=>vS (r)) (fun x l=>l) (fun _ l=>l):=by
 refine aV.of Tryz.func6 rfl Tryz.ntmps6 rfl fun c=>?_
 unfold lH at h
 refine sqR<|qkAsg rfl<|dtN<|sqR<|qkAsg rfl<|dtN<|aN ?_
 cases h
 exact lD rfl
end Go.Proofs.YtpenklncfhiloaaGreatDoor
end
section
namespace Go.Proofs.YtpenklncfhiloaaGreatDoor
open Go Go.Sx Go.Gx
set_option maxRecDepth 100000
def nN (fuel:Nat):Option (Bool):=some (true)
theorem Kc:aO Tryz.prog 12:=Tryz.call12
theorem SR:okT (Ho HX gp2 4000 12 [] H0)=true:=by kernel_rfl
theorem Ab (fuel:Nat) (r:Bool) (h:nN fuel=some r):
  aV Tryz.prog 12 #[] [Gb 0 (cellsOf EK uB)] (fun x:Unit=>Value.bool (r)) (fun x l=>l) (fun _ l=>l):=by
 obtain rfl:=Option.some.inj h
 obtain⟨H',a⟩:=Ua SR
 rw[D_ GK]at a
 exact Ks TC Kc (fun ρ c h=>h.bool_inv) fun T b=>DZ (gs:=gl T) acR a (eT.start b rfl) .nil
end Go.Proofs.YtpenklncfhiloaaGreatDoor
end
section
namespace Go.Proofs.YtpenklncfhiloaaGreatDoor
open Go.Sx
def jI (U:Nat) (p0:qC) (p1:cT) (p2:Int) (p3:a_) (p4:aQ):Option ((Int×Int×Int×Int×Bool×a_)×Int):=
 Option.bind (k_ U ((p0.1,p0.2.1,p0.2.2)) ((p1.1,p1.2)) p2 p3 p4) fun a=>(if a.2≠(0:Int)then(some ((((0:Int),(0:Int),(0:Int),(0:Int),false,([]:a_))),a.2))else(Option.bind (iP U ((a.1.1,a.1.2.1,a.1.2.2.1,((a.1.2.2.2.1,a.1.2.2.2.2.1,a.1.2.2.2.2.2.1,a.1.2.2.2.2.2.2.1,a.1.2.2.2.2.2.2.2))))) fun b=>(ck (0<=(wI .i64 ((List.length a.1.2.1:Int) - (1:Int)))∧(wI .i64 ((List.length a.1.2.1:Int) - (1:Int)))<(List.length a.1.2.1:Int)) (some (((b.1,b.2,a.1.2.2.2.2.1,a.1.2.2.2.2.2.2.1,(decide ((at' a.1.2.1 (wI .i64 ((List.length a.1.2.1:Int) - (1:Int))))=(0:Int))),a.1.2.2.1)),(0:Int))))))
theorem NE:aO Tryz.prog 18:=Tryz.call18
theorem qB (U:Nat) {p0:qC} {p1:cT} {p2:Int} {p3:a_} {p4:aQ} (m:Value)  (n:Value)  (o:Value)  (p:Value)  (y:jT)  (t:Value)  (A:oV)  (u:Value) (r:(Int×Int×Int×Int×Bool×a_)×Int) (h:jI U p0 p1 p2 p3 p4=some r):
  aV Tryz.prog 18 #[Value.agg #[vS (p0.1),m,n],Value.agg #[o,p],vI (p2),t,u] [Sl aJ m p0.2.1,Sl aF n p0.2.2,PF (Value.agg #[vS p0.1,m,n]),Sl bL o p1.1,S2 aW p y p1.2,S2 bL t A p3,Sl wV u p4,Gb 0 (cellsOf EK uB)] (fun x:Cd=>Value.tuple #[Value.agg #[vU (r.1.1),vI (r.1.2.1),vI (r.1.2.2.1),vI (r.1.2.2.2.1),vB (r.1.2.2.2.2.1),x.1],vI (r.2)]) (fun x l=>Ar c_.raw x.1 x.2::gU cE x.2 r.1.2.2.2.2.2::l) (fun _ l=>l):=by
 refine aV.of Tryz.func18 rfl Tryz.ntmps18 rfl fun c=>?_
 refine sqR<|aE (aG.box (cs:=[vS (p0.1),m,n]) rfl rfl) rfl fun D=>aE (aG.box (cs:=[o,p]) rfl rfl) rfl fun E=>aE (aG.alloc (cs:=vD4) rfl rfl) rfl fun F=>qkAsg rfl<|dtN<|sqR<|qkLdA 2 rfl<|qkLdA 1 rfl<|qkMove rfl<|qkMove rfl<|qkMove rfl<|bnE h fun a B h=>aE (aG.callQ Hj (uY U m n o p y t A u a B) rfl (iJ [0,1,2,3,4,5,6,7] rfl)) rfl fun d=>qkMove rfl<|qkExt rfl<|qkExt rfl<|aE (aG.alloc (cs:=DK) rfl rfl) rfl fun G=>bJ (Know.one ((aT (aC.res 1 rfl) jP))) fun q=>bJ (Know.one ((aT (aC.res 2 rfl) jP))) fun s=>bJ (Know.one (aC.sl (aP (i:=3) (j:=4) rfl rfl cW))) fun e=>aY 0 (vs:=[d.1,d.2.1,d.2.2.1,vI (a.1.2.2.2.1),vI (a.1.2.2.2.2.1),vI (a.1.2.2.2.2.2.1),vI (a.1.2.2.2.2.2.2.1),vU (a.1.2.2.2.2.2.2.2)]) rfl rfl (cB q (cB s (cB e (cB rfl (cB rfl (cB rfl (cB rfl (cB rfl rfl)))))))) rfl rfl rfl<|qkAsg rfl<|dtN<|aH<|sqR<|qkMove rfl<|qkNeq rfl<|dtN ?_
 refine eZ h rfl (fun h=>?_) fun h=>?_
 ·refine sqR ?_
  refine aB (yD (r:=Value.agg #[vU (0:Int),vI (0:Int),vI (0:Int),vI (0:Int),vB (false),eG]) (by intro w;simp[Instr.build,Instr.fill,bV,bQ,bK,bW,bX,bR,cC])) rfl ?_
  refine qkMove rfl<|aY 5 (vs:=vD4) rfl rfl rfl rfl rfl rfl<|qkAsg rfl<|dtN<|aN<|aI<|dV (dA c_.raw) (dV (gY cE) ?_)
  cases h
  exact dR ((eG),([]:dO)) rfl rfl (RV.cell 7 rfl rfl rfl rfl) (RV.tmp rfl) (aS.ix [1,0] rfl rfl) aA.nil
 refine cL<|sqR<|qkLdA 0 rfl<|bnE h fun b v h=>aE (aG.callQ XX (CQ U d.1 d.2.1 d.2.2.1 (List.zip d.2.2.2 a.1.2.2.1) b v) rfl (aA.cons (aT (aC.res 1 rfl) jP) (aA.cons (aT (aC.res 2 rfl) jP) (aA.cons (aP (i:=3) (j:=4) rfl rfl cW) .nil)))) rfl fun C=>qkMove rfl<|qkExt rfl<|qkExt rfl<|qkAsg rfl<|qkAsg rfl<|dtN<|aH ?_
 refine JR.start [0,0,0,4,12,0,32,96,0,256,0,1024,3072,7168,16128,32512,65280,0,131072,524287,1048575,2097151] 19 mixedOrders (by decide +kernel) ?_
 refine JR.open (by exact rfl) ?_
 refine jkMove rfl<|jkMove rfl<|jkFld rfl<|jkFld rfl<|jkLd 0 rfl<|jkFld rfl<|jkFld rfl<|jkLd 0 rfl<|jkFld rfl<|jkLd 0 rfl<|jkFld rfl<|jkLd 0 rfl<|bD rfl (aS.cons 2 rfl .nil) .nil (fM rfl (aT (aC.res 0 rfl) jP) rfl) aK.z<|jqN rfl (pD rfl rfl)<|ckE h fun k h=>bD rfl (aS.cons 2 rfl .nil) .nil (bG rfl rfl (aT (aC.res 0 rfl) jP) rfl rfl k) aK.z<|bD rfl (aS.cons 2 rfl .nil) .nil (cK rfl (aT (aC.res 0 rfl) jP) rfl rfl rfl AH k) aK.z<|jqN rfl (yE rfl rfl)<|jkFld rfl<|jkLd 0 rfl<|bF 19 rfl rfl<|bJ (Know.one (aC.sl (aP (i:=3) (j:=4) rfl rfl cW))) fun f=>?_
 refine aB (Y.bld6 (r:=Value.agg #[vU (b.1),vI (b.2),vI (a.1.2.2.2.2.1),vI (a.1.2.2.2.2.2.2.1),vB (decide ((at' a.1.2.1 (wI .i64 ((List.length a.1.2.1:Int) - (1:Int))))=(0:Int))),d.2.2.1]) rfl rfl rfl rfl rfl rfl (by intro w;simp[Instr.build,Instr.fill,bV,bQ,bK,bW,bX,bR,cC,cY f])) rfl ?_
 refine bJ (Know.one (aC.sl (aP (i:=3) (j:=4) rfl rfl cW))) fun g=>aY 5 (vs:=[vU (b.1),vI (b.2),vI (a.1.2.2.2.2.1),vI (a.1.2.2.2.2.2.2.1),vB (decide ((at' a.1.2.1 (wI .i64 ((List.length a.1.2.1:Int) - (1:Int))))=(0:Int))),d.2.2.1]) rfl rfl (cB rfl (cB rfl (cB rfl (cB rfl (cB rfl (cB g rfl)))))) rfl rfl rfl<|qkAsg rfl<|dtN<|aN ?_
 cases h
 exact dR (d.2.2.1,d.2.2.2) rfl rfl (RV.cell 5 rfl rfl rfl rfl) (RV.tmp rfl) (aS.ix [3,4] rfl rfl) aA.nil
end Go.Proofs.YtpenklncfhiloaaGreatDoor
end
