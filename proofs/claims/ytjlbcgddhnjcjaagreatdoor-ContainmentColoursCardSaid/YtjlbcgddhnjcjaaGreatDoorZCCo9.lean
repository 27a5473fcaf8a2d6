/- Models and proofs. Conditions: none. -/
import Derived.Test.YtjlbcgddhnjcjaaGreatDoorZCCo5
import Derived.Test.YtjlbcgddhnjcjaaGreatDoorZCCo8
import Derived.Test.YtjlbcgddhnjcjaaGreatDoorZCCo7
import Derived.Test.YtjlbcgddhnjcjaaGreatDoorZCCo6
import Derived.Test.YtjlbcgddhnjcjaaGreatDoorZCCo1
import Derived.OpenShut
import Derived.Test.YtjlbcgddhnjcjaaGreatDoorZCCo2
import Derived.LaidLaws
import Derived.LaidHandle
import Derived.Lay
import Derived.MakeChecks
set_option linter.unusedVariables false
set_option linter.unusedSimpArgs false
set_option maxHeartbeats 4000000
set_option maxRecDepth 20000
section
namespace Go.Proofs.YtjlbcgddhnjcjaaGreatDoor
open Go.Sx
section
noncomputable def lR (a:QF) (b:Bool):Option (aT×Bool):=
 some (a.2.2.2.2.2.2.2.2,b)
noncomputable def rV  (a:QF):Option (aT×Bool):=
 if a.1=(0:Int)then(if(0:Int)<(List.length a.2.2.2.2.2.2.2.1:Int)then(ck (0<=(wI .i64 ((List.length a.2.2.2.2.2.2.2.1:Int) - (1:Int)))∧(wI .i64 ((List.length a.2.2.2.2.2.2.2.1:Int) - (1:Int)))<(List.length a.2.2.2.2.2.2.2.1:Int)) (lR a (decide ((at' a.2.2.2.2.2.2.2.1 (wI .i64 ((List.length a.2.2.2.2.2.2.2.1:Int) - (1:Int))))=(0:Int)))))else(lR a (false)))else(lR a (false))
noncomputable def nE (U:Nat) (p0:ByteArray) (p1:cU) (p2:aT):Option (aT×Bool):=
 Option.bind (kY U p0) fun b=>Om b.2.2 fun d=>(Option.bind (kL U ([]:aL) (60:Int)) fun c=>(Option.bind (lM U ((b.1,b.2.1,d)) ((p1.1,p1.2)) (1:Int) p2 c) fun a=>(rV  (a.2,a.1.2.2.2.1,a.1.2.2.2.2.1,a.1.2.2.2.2.2.1,a.1.2.2.2.2.2.2.1,a.1.2.2.2.2.2.2.2,a.1.1,a.1.2.1,a.1.2.2.1))))
theorem YU:aP Tryz.prog 26:=Tryz.call26
theorem GN (U:Nat) {p0:ByteArray} {p1:cU} {p2:aT} (K:Value)  (L:Value)  (z2:lW)  (M:Value)  (z4:oC) (r:aT×Bool) (h:nE U p0 p1 p2=some r):
  aU Tryz.prog 26 #[vS (p0),Value.agg #[K,L],M] [Sl bI K p1.1,S2 aY L z2 p1.2,S2 bI M z4 p2,Gb 0 (cellsOf AV oA)] (fun x:CG=>Value.tuple #[x.1,vB (r.2)]) (fun x l=>Ar cE.raw x.1 x.2::fT bO x.2 r.1::l) (fun _ l=>l):=by
 refine aU.of Tryz.func26 rfl Tryz.ntmps26 rfl fun c=>?_
 unfold nE at h
 refine sqR<|aF (aI.box (cs:=[K,L]) rfl rfl) rfl fun b1=>qkAsg rfl<|qkAsg rfl<|dtN<|aG<|midL (B:=Nat×Value×Value×Value×List Value) (fun d=>rV  d=some r) (fun d b=>[(8,vP b.1),(9,vI (d.1))]) (fun d b=>[bL b.1 [b.2.1,b.2.2.1,b.2.2.2.1,vI (d.2.1),vI (d.2.2.1),vI (d.2.2.2.1),vI (d.2.2.2.2.1),vU (d.2.2.2.2.2.1)] 63,Ar gK b.2.1 d.2.2.2.2.2.2.1,Ar gK b.2.2.1 d.2.2.2.2.2.2.2.1,Ar cE.raw b.2.2.2.1 b.2.2.2.2,fT bO b.2.2.2.2 d.2.2.2.2.2.2.2.2]) ?_ ?_
 ·have⟨r24,w25,h⟩:=bnd h
  refine Jw [0,1,0,0,3,31,63,127,127,0,767,2047] 11 [[0,2,3,1,4,5,6,7,8,9,10,11],[0,2,3,1,4,9,5,6,7,8,10,11],[0,2,3,1,9,4,5,6,7,8,10,11],[0,2,3,9,1,4,5,6,7,8,10,11]] mixedOrders (by decide +kernel) (by decide +kernel) ?_
  intro o ho
  simp only[List.mem_cons,List.not_mem_nil,or_false]at ho
  rcases ho with rfl|rfl|rfl|rfl
  ·refine jkMove rfl<|jkLdA 0 rfl<|jkMove rfl<|JR.loud rfl rfl rfl (aI.call DX (nG U r24 w25) rfl (lX 3 rfl) (fun _ _=>rfl) (fun _ _=>rfl)) rfl (fun⟨C,D,e,v⟩=>(mW [([0],[])] rfl)) fun⟨C,D,e,v⟩=>?_
   have h:=yT h e v
   refine bnE h fun n p h=>JR.loud rfl rfl rfl (aI.callQ HR (rF U (gM) n p) rfl (aD.cons aB.nil .nil)) rfl (fun ag=>(mW [([1],[])] rfl)) fun ag=>bnE h fun a q h=>JR.loud rfl rfl rfl (aI.callQ HS (vK U C D K L z2 M z4 ag a q) rfl (aD.cons (aB.fact 0 rfl) (aD.cons (aB.fact 1 rfl) (aD.cons (aB.fact 2 rfl) (aD.cons (aB.fact 3 rfl) (aD.cons (aB.fact 4 rfl) (aD.cons (aB.fact 5 rfl) (aD.cons (aO (aB.res 0 rfl) fJ) (lK [6] rfl))))))))) rfl (fun f=>(mW [] rfl)) fun f=>jqN rfl (dD rfl)<|jqN rfl (fC rfl rfl)<|jqN rfl (fC rfl rfl)<|JR.loud rfl rfl rfl (aI.alloc (cs:=zS) rfl rfl) rfl (fun O=>(mW [([6],[])] rfl)) fun O=>cB (Know.one ((aO (aB.res 1 rfl) fJ))) fun S=>cB (Know.one ((aO (aB.res 2 rfl) fJ))) fun T=>cB (Know.one (aB.sl (aV (i:=3) (j:=4) rfl rfl cC))) fun V=>sQ rfl rfl rfl (wS 0 (vs:=[f.1,f.2.1,f.2.2.1,vI (a.1.2.2.2.1),vI (a.1.2.2.2.2.1),vI (a.1.2.2.2.2.2.1),vI (a.1.2.2.2.2.2.2.1),vU (a.1.2.2.2.2.2.2.2)]) rfl rfl (bY S (bY T (bY V (bY rfl (bY rfl (bY rfl (bY rfl (bY rfl rfl)))))))) rfl rfl rfl) (fun ak=>(mW [] rfl)) fun ak=>bD 11 rfl rfl<|qkAsg rfl<|dtN ?_
   exact bT (a.2,a.1.2.2.2.1,a.1.2.2.2.2.1,a.1.2.2.2.2.2.1,a.1.2.2.2.2.2.2.1,a.1.2.2.2.2.2.2.2,a.1.1,a.1.2.1,a.1.2.2.1) (O,f.1,f.2.1,f.2.2.1,f.2.2.2) h SF (aR.ix [0,1,2,3,4] rfl rfl) (lK [3,4,5,6] rfl)
  ·refine jkMove rfl<|jkLdA 0 rfl<|jkMove rfl<|JR.loud rfl rfl rfl (aI.call DX (nG U r24 w25) rfl (lX 3 rfl) (fun _ _=>rfl) (fun _ _=>rfl)) rfl (fun⟨E,F,e,w⟩=>(mW [([0],[])] rfl)) fun⟨E,F,e,w⟩=>?_
   have h:=yT h e w
   refine bnE h fun n p h=>JR.loud rfl rfl rfl (aI.callQ HR (rF U (gM) n p) rfl (aD.cons aB.nil .nil)) rfl (fun ah=>(mW [([1],[])] rfl)) fun ah=>JR.loud rfl rfl rfl (aI.alloc (cs:=zS) rfl rfl) rfl (fun P=>(mW [([2],[])] rfl)) fun P=>bnE h fun a q h=>JR.loud rfl rfl rfl (aI.callQ HS (vK U E F K L z2 M z4 ah a q) rfl (aD.cons (aB.fact 0 rfl) (aD.cons (aB.fact 1 rfl) (aD.cons (aB.fact 2 rfl) (aD.cons (aB.fact 3 rfl) (aD.cons (aB.fact 4 rfl) (aD.cons (aB.fact 5 rfl) (aD.cons (aO (aB.res 1 rfl) fJ) (lK [6] rfl))))))))) rfl (fun g=>(mW [] rfl)) fun g=>jqN rfl (dD rfl)<|jqN rfl (fC rfl rfl)<|jqN rfl (fC rfl rfl)<|cB (Know.one ((aO (aB.res 0 rfl) fJ))) fun W=>cB (Know.one ((aO (aB.res 1 rfl) fJ))) fun X=>cB (Know.one (aB.sl (aV (i:=2) (j:=3) rfl rfl cC))) fun Y=>sQ rfl rfl rfl (wS 4 (vs:=[g.1,g.2.1,g.2.2.1,vI (a.1.2.2.2.1),vI (a.1.2.2.2.2.1),vI (a.1.2.2.2.2.2.1),vI (a.1.2.2.2.2.2.2.1),vU (a.1.2.2.2.2.2.2.2)]) rfl rfl (bY W (bY X (bY Y (bY rfl (bY rfl (bY rfl (bY rfl (bY rfl rfl)))))))) rfl rfl rfl) (fun al=>(mW [] rfl)) fun al=>bD 11 rfl rfl<|qkAsg rfl<|dtN ?_
   exact bT (a.2,a.1.2.2.2.1,a.1.2.2.2.2.1,a.1.2.2.2.2.2.1,a.1.2.2.2.2.2.2.1,a.1.2.2.2.2.2.2.2,a.1.1,a.1.2.1,a.1.2.2.1) (P,g.1,g.2.1,g.2.2.1,g.2.2.2) h SF (aR.ix [4,0,1,2,3] rfl rfl) (lK [3,4,5,6] rfl)
  ·refine jkMove rfl<|jkLdA 0 rfl<|jkMove rfl<|JR.loud rfl rfl rfl (aI.call DX (nG U r24 w25) rfl (lX 3 rfl) (fun _ _=>rfl) (fun _ _=>rfl)) rfl (fun⟨G,H,e,y⟩=>(mW [([0],[])] rfl)) fun⟨G,H,e,y⟩=>?_
   have h:=yT h e y
   refine JR.loud rfl rfl rfl (aI.alloc (cs:=zS) rfl rfl) rfl (fun Q=>(mW [([1],[])] rfl)) fun Q=>bnE h fun n p h=>JR.loud rfl rfl rfl (aI.callQ HR (rF U (gM) n p) rfl (aD.cons aB.nil .nil)) rfl (fun ai=>(mW [([2],[])] rfl)) fun ai=>bnE h fun a q h=>JR.loud rfl rfl rfl (aI.callQ HS (vK U G H K L z2 M z4 ai a q) rfl (aD.cons (aB.fact 0 rfl) (aD.cons (aB.fact 1 rfl) (aD.cons (aB.fact 2 rfl) (aD.cons (aB.fact 3 rfl) (aD.cons (aB.fact 4 rfl) (aD.cons (aB.fact 5 rfl) (aD.cons (aO (aB.res 0 rfl) fJ) (lK [6] rfl))))))))) rfl (fun k=>(mW [] rfl)) fun k=>jqN rfl (dD rfl)<|jqN rfl (fC rfl rfl)<|jqN rfl (fC rfl rfl)<|cB (Know.one ((aO (aB.res 0 rfl) fJ))) fun Z=>cB (Know.one ((aO (aB.res 1 rfl) fJ))) fun aa=>cB (Know.one (aB.sl (aV (i:=2) (j:=3) rfl rfl cC))) fun ab=>sQ rfl rfl rfl (wS 5 (vs:=[k.1,k.2.1,k.2.2.1,vI (a.1.2.2.2.1),vI (a.1.2.2.2.2.1),vI (a.1.2.2.2.2.2.1),vI (a.1.2.2.2.2.2.2.1),vU (a.1.2.2.2.2.2.2.2)]) rfl rfl (bY Z (bY aa (bY ab (bY rfl (bY rfl (bY rfl (bY rfl (bY rfl rfl)))))))) rfl rfl rfl) (fun am=>(mW [] rfl)) fun am=>bD 11 rfl rfl<|qkAsg rfl<|dtN ?_
   exact bT (a.2,a.1.2.2.2.1,a.1.2.2.2.2.1,a.1.2.2.2.2.2.1,a.1.2.2.2.2.2.2.1,a.1.2.2.2.2.2.2.2,a.1.1,a.1.2.1,a.1.2.2.1) (Q,k.1,k.2.1,k.2.2.1,k.2.2.2) h SF (aR.ix [5,0,1,2,3] rfl rfl) (lK [3,4,5,6] rfl)
  refine jkMove rfl<|jkLdA 0 rfl<|jkMove rfl<|JR.loud rfl rfl rfl (aI.alloc (cs:=zS) rfl rfl) rfl (fun R=>(mW [([1],[])] rfl)) fun R=>JR.loud rfl rfl rfl (aI.call DX (nG U r24 w25) rfl (lX 3 rfl) (fun _ _=>rfl) (fun _ _=>rfl)) rfl (fun⟨I,J,e,A⟩=>(mW [([1],[])] rfl)) fun⟨I,J,e,A⟩=>?_
  have h:=yT h e A
  refine bnE h fun n p h=>JR.loud rfl rfl rfl (aI.callQ HR (rF U (gM) n p) rfl (aD.cons aB.nil .nil)) rfl (fun aj=>(mW [([2],[])] rfl)) fun aj=>bnE h fun a q h=>JR.loud rfl rfl rfl (aI.callQ HS (vK U I J K L z2 M z4 aj a q) rfl (aD.cons (aB.fact 0 rfl) (aD.cons (aB.fact 1 rfl) (aD.cons (aB.fact 2 rfl) (aD.cons (aB.fact 3 rfl) (aD.cons (aB.fact 4 rfl) (aD.cons (aB.fact 5 rfl) (aD.cons (aO (aB.res 0 rfl) fJ) (lK [6] rfl))))))))) rfl (fun m=>(mW [] rfl)) fun m=>jqN rfl (dD rfl)<|jqN rfl (fC rfl rfl)<|jqN rfl (fC rfl rfl)<|cB (Know.one ((aO (aB.res 0 rfl) fJ))) fun ac=>cB (Know.one ((aO (aB.res 1 rfl) fJ))) fun ad=>cB (Know.one (aB.sl (aV (i:=2) (j:=3) rfl rfl cC))) fun ae=>sQ rfl rfl rfl (wS 5 (vs:=[m.1,m.2.1,m.2.2.1,vI (a.1.2.2.2.1),vI (a.1.2.2.2.2.1),vI (a.1.2.2.2.2.2.1),vI (a.1.2.2.2.2.2.2.1),vU (a.1.2.2.2.2.2.2.2)]) rfl rfl (bY ac (bY ad (bY ae (bY rfl (bY rfl (bY rfl (bY rfl (bY rfl rfl)))))))) rfl rfl rfl) (fun an=>(mW [] rfl)) fun an=>bD 11 rfl rfl<|qkAsg rfl<|dtN ?_
  exact bT (a.2,a.1.2.2.2.1,a.1.2.2.2.2.1,a.1.2.2.2.2.2.1,a.1.2.2.2.2.2.2.1,a.1.2.2.2.2.2.2.2,a.1.1,a.1.2.1,a.1.2.2.1) (R,m.1,m.2.1,m.2.2.1,m.2.2.2) h SF (aR.ix [5,0,1,2,3] rfl rfl) (lK [3,4,5,6] rfl)
 intro d b h
 unfold rV at h
 refine aG<|midU (fun s=>lR d s=some r) (fun s N=>[(6,b.2.2.2.1),(7,vB (s))]) (fun s N=>[Ar cE.raw b.2.2.2.1 b.2.2.2.2,fT bO b.2.2.2.2 d.2.2.2.2.2.2.2.2]) ?_ ?_
 ·refine JR.start [0,1,0,4,12,28,60,124,252,508,1020,2044,4092,2044,10236,26620,59388,131068,262140,524284,1048572,2047,4194303] 22 mixedOrders (by decide +kernel) ?_
  refine JR.open (by exact rfl) ?_
  refine jkFld rfl<|jkLd 0 rfl<|jkMove rfl<|jqN rfl (Dr rfl rfl)<|jkMove rfl ?_
  refine AB (by exact rfl) (by exact rfl) (by exact rfl) (fun t=>?_) (fun t=>?_)
  ·have h:=JU t h
   refine fF rfl .nil .nil (cZ rfl rfl rfl rfl rfl) aK.z<|fF rfl (aR.cons 0 rfl .nil) .nil (eF 0 rfl rfl rfl rfl rfl) aK.z<|fF rfl (aR.cons 2 rfl .nil) .nil (fR rfl (aO (aB.res 0 rfl) fJ) rfl) aK.z<|fF rfl .nil .nil (vR rfl rfl) aK.z<|jqN rfl (zZ rfl rfl)<|jkMove rfl ?_
   refine AB (by exact rfl) (by exact rfl) (by exact rfl) (fun u=>?_) (fun u=>?_)
   ·have h:=JU u h
    refine fF rfl .nil .nil (cZ rfl rfl rfl rfl rfl) aK.z<|fF rfl (aR.cons 0 rfl .nil) .nil (eF 0 rfl rfl rfl rfl rfl) aK.z<|fF rfl .nil .nil (cZ rfl rfl rfl rfl rfl) aK.z<|fF rfl (aR.cons 0 rfl .nil) .nil (eF 0 rfl rfl rfl rfl rfl) aK.z<|fF rfl (aR.cons 2 rfl .nil) .nil (fR rfl (aO (aB.res 0 rfl) fJ) rfl) aK.z<|fF rfl .nil .nil (pO rfl rfl) aK.z<|ckE h fun af h=>fF rfl (aR.cons 2 rfl .nil) .nil (a_ rfl rfl (aO (aB.res 0 rfl) fJ) rfl rfl af) aK.z<|fF rfl (aR.cons 2 rfl .nil) .nil (bV rfl (aO (aB.res 0 rfl) fJ) rfl rfl rfl Am af) aK.z<|fF rfl .nil .nil (Dr rfl rfl) aK.z<|jqN rfl (zZ rfl rfl)<|jqN rfl (iV rfl)<|bD 22 rfl rfl<|qkAsg rfl<|dtN ?_
    exact bT (decide ((at' d.2.2.2.2.2.2.2.1 (wI .i64 ((List.length d.2.2.2.2.2.2.2.1:Int) - (1:Int))))=(0:Int))) () h SF (aR.ix [3,4] rfl rfl) (aD.refl _ _)
   have h:=Xu u h
   refine bB rfl rfl rfl rfl<|bB rfl rfl rfl rfl<|bB rfl rfl rfl rfl<|bB rfl rfl rfl rfl<|bB rfl rfl rfl rfl<|bB rfl rfl rfl rfl<|bB rfl rfl rfl rfl<|bB rfl rfl rfl rfl<|bB rfl rfl rfl rfl<|jqN rfl (tH rfl rfl)<|jqN rfl (iV rfl)<|bD 22 rfl rfl<|qkAsg rfl<|dtN ?_
   exact bT (false) () h SF (aR.ix [3,4] rfl rfl) (aD.refl _ _)
  have h:=Xu t h
  refine bB rfl rfl rfl rfl<|bB rfl rfl rfl rfl<|bB rfl rfl rfl rfl<|bB rfl rfl rfl rfl<|jqN rfl (tH rfl rfl)<|jkMove rfl<|bB rfl rfl rfl rfl<|bB rfl rfl rfl rfl<|bB rfl rfl rfl rfl<|bB rfl rfl rfl rfl<|bB rfl rfl rfl rfl<|bB rfl rfl rfl rfl<|bB rfl rfl rfl rfl<|bB rfl rfl rfl rfl<|bB rfl rfl rfl rfl<|jqN rfl (tH rfl rfl)<|jqN rfl (iV rfl)<|bD 22 rfl rfl<|qkAsg rfl<|dtN ?_
  exact bT (false) () h SF (aR.ix [3,4] rfl rfl) (aD.refl _ _)
 intro s N h
 unfold lR at h
 refine aQ ?_
 cases h
 exact iO (b.2.2.2.1,b.2.2.2.2) rfl rfl (RV.tmp rfl) (RV.tmp rfl) (aR.refl _) aD.nil
end
section
noncomputable def sD (b:List aT×(List (Int×Int×Int×Int×Int))×Int) (a:Bool):Option (List aT×(List (Int×Int×Int×Int×Int))×Bool):=
 some (b.1,b.2.1,a)
noncomputable def xM (U:Nat) (p0:ByteArray) (p1:cU) (p2:Int) (p3:aT) (p4:aL):Option (List aT×(List (Int×Int×Int×Int×Int))×Bool):=
 Option.bind (kY U p0) fun b=>Om b.2.2 fun c=>(Option.bind (uM U ((b.1,b.2.1,c)) ((p1.1,p1.2)) p2 p3 p4) fun a=>(if a.2.2=(0:Int)then(if(List.length a.1:Int)=(List.length a.2.1:Int)then(sD a (decide ((0:Int)<(List.length a.1:Int))))else(sD a (false)))else(sD a (false))))
theorem YY:aP Tryz.prog 33:=Tryz.call33
theorem Ny (U:Nat) {p0:ByteArray} {p1:cU} {p2:Int} {p3:aT} {p4:aL} (v0:Value)  (v1:Value)  (z2:lW)  (v3:Value)  (z4:oC)  (v5:Value) (r:Vp) (h:xM U p0 p1 p2 p3 p4=some r):
  aU Tryz.prog 33 #[vS (p0),Value.agg #[v0,v1],vI (p2),v3,v5] [Sl bI v0 p1.1,S2 aY v1 z2 p1.2,S2 bI v3 z4 p3,Sl pI v5 p4,Gb 0 (cellsOf AV oA)] (fun x:Value×List Value×List (List Value)×Value=>Value.tuple #[x.1,x.2.2.2,vB (r.2.2)]) (fun x l=>Ar cE.raw x.1 x.2.1::Jh bO x.2.1 x.2.2.1 r.1::Ar cH x.2.2.2 r.2.1::l) (fun _ l=>l):=by
 refine aU.of Tryz.func33 rfl Tryz.ntmps33 rfl fun c=>?_
 refine sqR<|aF (aI.box (cs:=[v0,v1]) rfl rfl) rfl fun b1=>qkAsg rfl<|qkAsg rfl<|qkAsg rfl<|dtN<|aG ?_
 refine JR.start [0,1,0,0,0,0,63,127,255,255,255,511,3071,8191] 13 mixedOrders (by decide +kernel) ?_
 refine JR.open (by exact rfl) ?_
 refine jkMove rfl<|bnE h fun r2 w3 h=>JR.loud rfl rfl rfl (aI.call DX (nG U r2 w3) rfl (lX 4 rfl) (fun _ _=>rfl) (fun _ _=>rfl)) rfl (fun⟨x4a,x4b,z5,hz6⟩=>(mW [] rfl)) fun⟨x4a,x4b,z5,hz6⟩=>?_
 have h:=yT h z5 hz6
 refine bG rfl (aR.cons 0 rfl .nil) .nil (eN 0 rfl rfl rfl rfl) (aK.h (aR.ix [0] rfl rfl) .nil aK.z)<|jqN rfl (dD rfl)<|jqN rfl (dD rfl)<|jqN rfl (dD rfl)<|bnE h fun r7 w8 h=>JR.loud rfl rfl rfl (aI.callQ Zc (Nw U x4a x4b v0 v1 z2 v3 z4 v5 r7 w8) rfl (lK [0,1,2,3,4,5,6,7] rfl)) rfl (fun x9=>(mW [] rfl)) fun x9=>jqN rfl (dD rfl)<|jqN rfl (fC rfl rfl)<|jqN rfl (fC rfl rfl)<|jqN rfl (fC rfl rfl)<|jqN rfl (iV rfl)<|jqN rfl (iV rfl)<|bD 13 rfl rfl<|qkAsg rfl<|dtN<|aG<|xQ (B:=Unit) (fun a11=>sD r7 a11=some r) (fun a11 b12=>[(10,x9.1),(11,x9.2.2.2),(12,vB (a11))]) (fun a11 b12=>[Ar cE.raw x9.1 x9.2.1,Jh bO x9.2.1 x9.2.2.1 r7.1,Ar cH x9.2.2.2 r7.2.1]) (fun a11 b12=>[Sl aH x4a r2.2.1,Sl aE x4b z5,PF (Value.agg #[vS r2.1,x4a,x4b]),Sl bI v0 p1.1,S2 aY v1 z2 p1.2,S2 bI v3 z4 p3,Sl pI v5 p4,Gb 0 (cellsOf AV oA)]) ?_ ?_
 ·refine aM<|qkMove rfl<|qkMove rfl<|qkMove rfl<|qkEql rfl<|qkMove rfl ?_
  refine BS h rfl (fun _ h=>?_) fun _ h=>?_
  ·refine gyMove rfl<|aS rfl (HJ 0 1 rfl rfl rfl rfl) rfl<|gyMove rfl<|aS rfl (fR rfl (aO (aB.res 2 rfl) iU) rfl) rfl<|aS rfl (Dr rfl rfl) rfl<|qkPkT rfl<|qkMove rfl ?_
   refine BS h rfl (fun _ h=>?_) fun _ h=>?_
   ·refine gyMove rfl<|aS rfl (HJ 0 1 rfl rfl rfl rfl) rfl<|aS rfl (vR rfl rfl) rfl<|qkPkT rfl<|qkAsg rfl<|qkAsg rfl<|qkAsg rfl<|dtN ?_
    exact bT (decide ((0:Int)<(List.length r7.1:Int))) () h SF (aR.ix [0,1,2] rfl rfl) (aD.refl _ _)
   refine gdSkip rfl<|gdSkip rfl<|gdSkip rfl<|qkPkF rfl<|qkAsg rfl<|qkAsg rfl<|qkAsg rfl<|dtN ?_
   exact bT (false) () h SF (aR.ix [0,1,2] rfl rfl) (aD.refl _ _)
  refine gdSkip rfl<|gdSkip rfl<|gdSkip rfl<|gdSkip rfl<|gdSkip rfl<|qkPkF rfl<|qkMove rfl<|gdSkip rfl<|gdSkip rfl<|gdSkip rfl<|qkPkF rfl<|qkAsg rfl<|qkAsg rfl<|qkAsg rfl<|dtN ?_
  exact bT (false) () h SF (aR.ix [0,1,2] rfl rfl) (aD.refl _ _)
 intro a11 b12 h
 unfold sD at h
 refine aQ ?_
 cases h
 exact GY (x9.1,x9.2.1,x9.2.2.1,x9.2.2.2) rfl rfl (RV.tmp rfl) (RV.tmp rfl) (RV.tmp rfl) (aR.refl _) aD.nil
end
section
noncomputable def cV  (a:Bool):Option (Bool):=
 some (a)
noncomputable def lL (U:Nat) (b:CI) (c:aT×Bool) (d:aT) (a:QG) (i:Unit):Option (Bool):=
 Option.bind (qC U c.1 d) fun e=>(Option.bind (Au U) fun f=>(if f=true then(if a.1.2.1<=(1:Int)then(Option.bind (kK U ((b.1,b.2)) e (1:Int)) fun g=>(if(uS .u32 a.1.1 g)=(0:Int)then(if a.1.2.2.2.2.1=true then(Option.bind (jA U ((b.1,b.2)) a.1.2.2.2.2.2) fun h=>(cV  (h)))else(cV  (false)))else(cV  (false))))else(cV  (false)))else(cV  (false))))
noncomputable def fN (U:Nat) (d:CI) (e:aT×Bool) (f:aT) (g:QG) (b:Vp) (a:Int) (c:(Int)->Option (Bool)):Option (Bool):=
 if(wI .i64 (a+(1:Int)))<(List.length b.1:Int)then(ck (0<=(wI .i64 (a+(1:Int)))∧(wI .i64 (a+(1:Int)))<(List.length b.1:Int)) (Option.bind (fI U ((d.1,d.2)) (at' b.1 (wI .i64 (a+(1:Int))))) fun h=>(ck (0<=a∧a<(List.length b.1:Int)) (Option.bind (fI U ((d.1,d.2)) (at' b.1 a)) fun i=>(if(uS .u32 h i)≠(0:Int)then(some (false))else(c (wI .i64 (a+(1:Int)))))))))else(lL U d e f g (()))
noncomputable def iR (U:Nat) (f:CI) (b:aT×Bool) (c:aT) (d:QG) (e:Vp) (a:Bool):Option (Bool):=
 if a=true then(some (false))else(bJ (fN U f b c d e) U (0:Int))
noncomputable def iQ (U:Nat) (p2:Int) (p3:aL) (p4:aL) (r2:CI) (r11:ByteArray×List (ByteArray×Int×Int×Int×Int×Int)×List (e_×List (Int×e_))) (z14:List pW) (r28:aT×Bool) (a32:Bool):Option (Bool):=
 if a32=true then(some (false))else(Option.bind (pA U r28.1 p2 p3 (wI .i64 ((List.length r28.1:Int)+(1:Int)))) fun r35=>(Option.bind (kL U p4 (40:Int)) fun r38=>(Option.bind (jT U ((r11.1,r11.2.1,z14)) ((r2.1,r2.2)) (2:Int) r35 r38) fun r41=>(Option.bind (iL U) fun r46=>(Option.bind (xM U r46 ((r2.1,r2.2)) (2:Int) r35 r38) fun r49=>(if r41.2≠(0:Int)then(iR U r2 r28 r35 r41 r49 (true))else(iR U r2 r28 r35 r41 r49 ((!r49.2.2)))))))))
noncomputable def mH (U:Nat) (p0:AT) (p1:aL) (p2:Int) (p3:aL) (p4:aL):Option (Bool):=
 Option.bind (nR U ((p0.1,p0.2.1,p0.2.2.1,p0.2.2.2.1,p0.2.2.2.2.1,p0.2.2.2.2.2)) (9:Int)) fun r2=>(Option.bind (iL U) fun r8=>(Option.bind (kY U r8) fun r11=>Om r11.2.2 fun z14=>(Option.bind (iL U) fun r19=>(Option.bind (Bq U) fun r22=>(Option.bind (mJ U ((r2.1,r2.2)) r22 p1) fun r25=>(Option.bind (nE U r19 ((r2.1,r2.2)) r25) fun r28=>(if(!r28.2)=true then(iQ U p2 p3 p4 r2 r11 z14 r28 (true))else(Option.bind (jA U ((r2.1,r2.2)) r28.1) fun r98=>(iQ U p2 p3 p4 r2 r11 z14 r28 ((!r98)))))))))))
theorem zO (U:Nat) {p0:AT} {p1:aL} {p2:Int} {p3:aL} {p4:aL} (v0:Value)  (v1:Value)  (v2:Value)  (v3:Value)  (v4:Value)  (v5:Value) (r:Bool) (h:mH U p0 p1 p2 p3 p4=some r):
  aU Tryz.prog 6 #[Value.agg #[vI (p0.1),v0,v1,v2,vB (p0.2.2.2.2.1),vB (p0.2.2.2.2.2)],v3,vU (p2),v4,v5] [Sl bI v0 p0.2.1,Sl bI v1 p0.2.2.1,Sl bI v2 p0.2.2.2.1,Sl bI v3 p1,Sl bI v4 p3,Sl pI v5 p4,Gb 0 (cellsOf AV oA)] (fun x:Unit=>vB (r)) (fun x l=>l) (fun _ l=>l):=by
 refine aU.of Tryz.func6 rfl Tryz.ntmps6 rfl fun c=>?_
 refine sqR<|aF (aI.box (cs:=[vI (p0.1),v0,v1,v2,vB (p0.2.2.2.2.1),vB (p0.2.2.2.2.2)]) rfl rfl) rfl fun b1=>qkAsg rfl<|dtN<|sqR<|qkLdA 0 rfl<|bnE h fun r2 w3 h=>aF (aI.callQ aaZ (Fe U v0 v1 v2 r2 w3) rfl (lK [0,1,2] rfl)) rfl fun x4=>aF (aI.alloc (cs:=[gM,gM]) rfl rfl) rfl fun b5=>bM (Know.one ((aO (aB.res 1 rfl) cC))) fun ho6=>bM (Know.one (aB.sl (aV (i:=2) (j:=3) rfl rfl bN))) fun ho7=>bE 0 (vs:=[x4.1,x4.2.1]) rfl rfl (bY ho6 (bY ho7 rfl)) rfl rfl rfl<|dtN<|sqR<|bnE h fun r8 w9 h=>aF (aI.callQ Oq (wQ U  r8 w9) rfl .nil) rfl fun x10=>bnE h fun r11 w12 h=>aF (aI.call DX (nG U r11 w12) rfl (lX 6 rfl) (fun _ _=>rfl) (fun _ _=>rfl)) rfl fun⟨x13a,x13b,z14,hz15⟩=>?_
 have h:=yT h z14 hz15
 refine aF (aI.alloc (cs:=[vS (ByteArray.mk #[]),gM,gM]) rfl rfl) rfl fun b16=>bM (Know.one ((aB.fact 0 rfl))) fun ho17=>bM (Know.one ((aB.fact 1 rfl))) fun ho18=>bE 0 (vs:=[vS (r11.1),x13a,x13b]) rfl rfl (bY rfl (bY ho17 (bY ho18 rfl))) rfl rfl rfl<|dtN<|aG ?_
 refine JR.start [0,0,0,1,0,29,63,127,255,255,511,2047] 11 mixedOrders (by decide +kernel) ?_
 refine JR.open (by exact rfl)<|bnE h fun r19 w20 h=>JR.loud rfl rfl rfl (aI.callQ Oq (wQ U  r19 w20) rfl .nil) rfl (fun x21=>yG.z) fun x21=>bG rfl (aR.cons 1 rfl .nil) .nil (eN 0 rfl rfl rfl rfl) (aK.h (aR.ix [1] rfl rfl) .nil aK.z)<|bG rfl (aR.cons 1 rfl .nil) .nil (eN 0 rfl rfl rfl rfl) (aK.h (aR.ix [1] rfl rfl) .nil aK.z)<|bnE h fun r22 w23 h=>JR.loud rfl rfl rfl (aI.callQ YP (LB U  r22 w23) rfl .nil) rfl (fun x24=>(mW [([2],[]),([2],[])] rfl)) fun x24=>jqN rfl (dD rfl)<|bnE h fun r25 w26 h=>JR.loud rfl rfl rfl (aI.callQ YQ (IX U x4.1 x4.2.1 (List.zip x4.2.2 r2.2) x24 v3 r25 w26) rfl (aD.cons (aO (aB.res 3 rfl) cC) (aD.cons (aV (i:=4) (j:=5) rfl rfl bN) (aD.cons (aO (aB.res 0 rfl) sI) (lK [6] rfl))))) rfl (fun x27=>(mW [([4],[])] rfl)) fun x27=>bnE h fun r28 w29 h=>JR.loud rfl rfl rfl (aI.callQ YU (GN U x4.1 x4.2.1 (List.zip x4.2.2 r2.2) x27.1 (List.zip x27.2 r25) r28 w29) rfl (aD.cons (aO (aB.res 5 rfl) cC) (aD.cons (aV (i:=6) (j:=7) rfl rfl bN) (aD.cons (aV (i:=0) (j:=1) rfl rfl cC) (lK [9] rfl))))) rfl (fun x30=>(mW [] rfl)) fun x30=>jqN rfl (dD rfl)<|jqN rfl (fC rfl rfl)<|jqN rfl (fC rfl rfl)<|jqN rfl (iV rfl)<|bD 11 rfl rfl<|qkAsg rfl<|dtN<|aG<|aG<|xQ (B:=Unit) (fun a32=>iQ U p2 p3 p4 r2 r11 z14 r28 a32=some r) (fun a32 b33=>[(2,vU (p2)),(3,v4),(4,v5),(11,vP b5),(12,vP b16),(13,x30.1),(45,vB (a32))]) (fun a32 b33=>[Ar cE.raw x30.1 x30.2,fT bO x30.2 r28.1,bL b16 [vS (r11.1),x13a,x13b] 36,bL b5 [x4.1,x4.2.1] 29,Ar bO x4.1 r2.1,Ar cE.raw x4.2.1 x4.2.2,fT bS x4.2.2 r2.2]) (fun a32 b33=>[Sl aH x13a r11.2.1,Sl aE x13b z14,PF (Value.agg #[vS r11.1,x13a,x13b]),Sl bI v0 p0.2.1,Sl bI v1 p0.2.2.1,Sl bI v2 p0.2.2.2.1,Sl bI v3 p1,Sl bI v4 p3,Sl pI v5 p4,Gb 0 (cellsOf AV oA)]) ?_ ?_
 ·refine aM<|qkMove rfl<|aA (qX rfl) rfl<|qkMove rfl ?_
  refine zX (by exact rfl) (by exact rfl) (fun hp97=>?_) (fun hp97=>?_)
  ·have h:=JU hp97 h
   refine gdSkip rfl<|gdSkip rfl<|gdSkip rfl<|gdSkip rfl<|qkPkT rfl<|dtN ?_
   exact bT (true) () h SF (aR.ix [0,1,5,6,7,8,9] rfl rfl) (aD.refl _ _)
  have h:=Io hp97 h
  refine aS rfl (eN 6 rfl rfl rfl rfl) rfl<|gyMove rfl<|bnE h fun r98 w99 h=>tF rfl (aI.callQ Tl (Ai U x4.1 x4.2.1 (List.zip x4.2.2 r2.2) x30.1 (List.zip x30.2 r28.1) r98 w99) rfl (aD.cons (aO (aB.res 7 rfl) cC) (aD.cons (aV (i:=8) (j:=9) rfl rfl bN) (aD.cons (aV (i:=0) (j:=1) rfl rfl cC) .nil)))) rfl fun x100=>aS rfl (qX rfl) rfl<|qkPkF rfl<|dtN ?_
  exact bT ((!r98)) () h SF (aR.ix [0,1,5,6,7,8,9] rfl rfl) (aD.refl _ _)
 intro a32 b33 h
 refine AG h rfl (fun _ h=>?_) fun _ h=>?_
 ·refine sqR<|qkAsg rfl<|dtN<|aQ<|aJ ?_
  cases h
  exact wN rfl
 refine cJ<|sqR<|qkMove rfl<|qkMove rfl<|qkMove rfl<|qkMove rfl<|aA (iW rfl (aV (i:=0) (j:=1) rfl rfl cC) rfl) rfl<|qkAdd rfl<|bnE h fun r35 w36 h=>aF (aI.callQ YV (IR U x30.1 (List.zip x30.2 r28.1) v4 r35 w36) rfl (aD.cons (aV (i:=0) (j:=1) rfl rfl cC) (lK [7] rfl))) rfl fun x37=>qkAsg rfl<|dtN<|sqR<|qkMove rfl<|bnE h fun r38 w39 h=>aF (aI.callQ HR (rF U v5 r38 w39) rfl (lK [8] rfl)) rfl fun x40=>qkAsg rfl<|dtN<|sqR<|qkLdA 5 rfl<|qkLdA 6 rfl<|qkMove rfl<|qkMove rfl<|bnE h fun r41 w42 h=>aF (aI.callQ YR (BV U x13a x13b x4.1 x4.2.1 (List.zip x4.2.2 r2.2) x37.1 (List.zip x37.2 r35) x40 r41 w42) rfl (aD.cons (aB.fact 0 rfl) (aD.cons (aB.fact 1 rfl) (aD.cons (aB.fact 2 rfl) (aD.cons (aO (aB.res 7 rfl) cC) (aD.cons (aV (i:=8) (j:=9) rfl rfl bN) (aD.cons (aV (i:=1) (j:=2) rfl rfl cC) (aD.cons (aO (aB.res 0 rfl) fJ) (lK [9] rfl))))))))) rfl fun x43=>qkMove rfl<|qkExt rfl<|qkExt rfl<|aF (aI.alloc (cs:=vD5) rfl rfl) rfl fun b44=>bM (Know.one (aB.sl (aV (i:=1) (j:=2) rfl rfl cC))) fun ho45=>bE 0 (vs:=[vU (r41.1.1),vI (r41.1.2.1),vI (r41.1.2.2.1),vI (r41.1.2.2.2.1),vB (r41.1.2.2.2.2.1),x43.1]) rfl rfl (bY rfl (bY rfl (bY rfl (bY rfl (bY rfl (bY ho45 rfl)))))) rfl rfl rfl<|qkAsg rfl<|dtN<|aG ?_
 refine JR.start [0,0,0,0,15,31,63,63,63,127,767,2047] 11 mixedOrders (by decide +kernel) ?_
 refine JR.open (by exact rfl)<|bnE h fun r46 w47 h=>JR.loud rfl rfl rfl (aI.callQ Oq (wQ U  r46 w47) rfl .nil) rfl (fun x48=>yG.z) fun x48=>bG rfl (aR.cons 9 rfl .nil) .nil (eN 0 rfl rfl rfl rfl) (aK.h (aR.ix [9] rfl rfl) .nil aK.z)<|jqN rfl (dD rfl)<|jqN rfl (dD rfl)<|bnE h fun r49 w50 h=>JR.loud rfl rfl rfl (aI.callQ YY (Ny U x4.1 x4.2.1 (List.zip x4.2.2 r2.2) x37.1 (List.zip x37.2 r35) x40 r49 w50) rfl (aD.cons (aO (aB.res 10 rfl) cC) (aD.cons (aV (i:=11) (j:=12) rfl rfl bN) (aD.cons (aV (i:=4) (j:=5) rfl rfl cC) (aD.cons (aO (aB.res 3 rfl) fJ) (lK [9] rfl)))))) rfl (fun x51=>(mW [] rfl)) fun x51=>jqN rfl (dD rfl)<|jqN rfl (fC rfl rfl)<|jqN rfl (fC rfl rfl)<|jqN rfl (fC rfl rfl)<|jqN rfl (iV rfl)<|jqN rfl (iV rfl)<|bD 11 rfl rfl<|qkAsg rfl<|dtN<|aG<|aG<|xQ (B:=Unit) (fun a53=>iR U r2 r28 r35 r41 r49 a53=some r) (fun a53 b54=>[(11,vP b5),(13,x30.1),(15,x37.1),(17,vP b44),(19,x51.1),(77,vB (a53))]) (fun a53 b54=>[Ar cE.raw x51.1 x51.2.1,Jh bO x51.2.1 x51.2.2.1 r49.1,bL b44 [vU (r41.1.1),vI (r41.1.2.1),vI (r41.1.2.2.1),vI (r41.1.2.2.2.1),vB (r41.1.2.2.2.2.1),x43.1] 43,Ar cE.raw x43.1 x43.2,fT bO x43.2 r41.1.2.2.2.2.2,Ar cE.raw x37.1 x37.2,fT bO x37.2 r35,Ar cE.raw x30.1 x30.2,fT bO x30.2 r28.1,bL b5 [x4.1,x4.2.1] 29,Ar bO x4.1 r2.1,Ar cE.raw x4.2.1 x4.2.2,fT bS x4.2.2 r2.2]) (fun a53 b54=>[Sl aH x13a r11.2.1,Sl aE x13b z14,PF (Value.agg #[vS r11.1,x13a,x13b]),Sl bI v0 p0.2.1,Sl bI v1 p0.2.2.1,Sl bI v2 p0.2.2.2.1,Sl bI v3 p1,Sl bI v4 p3,Sl pI v5 p4,Gb 0 (cellsOf AV oA)]) ?_ ?_
 ·refine aM<|qkMove rfl<|qkNeq rfl<|qkMove rfl ?_
  refine BS h rfl (fun _ h=>?_) fun _ h=>?_
  ·refine gdSkip rfl<|gdSkip rfl<|qkPkT rfl<|dtN ?_
   exact bT (true) () h SF (aR.ix [0,1,3,4,5,7,8,9,10,12,13,14,15] rfl rfl) (aD.refl _ _)
  refine gyMove rfl<|aS rfl (qX rfl) rfl<|qkPkF rfl<|dtN ?_
  exact bT ((!r49.2.2)) () h SF (aR.ix [0,1,3,4,5,7,8,9,10,12,13,14,15] rfl rfl) (aD.refl _ _)
 intro a53 b54 h
 refine AG h rfl (fun _ h=>?_) fun _ h=>?_
 ·refine sqR<|qkAsg rfl<|dtN<|aQ<|aJ ?_
  cases h
  exact wN rfl
 refine cJ<|aG<|xQ (B:=Unit) (fun a56=>lL U r2 r28 r35 r41 a56=some r) (fun a56 b57=>[(11,vP b5),(13,x30.1),(15,x37.1),(17,vP b44)]) (fun a56 b57=>[bL b44 [vU (r41.1.1),vI (r41.1.2.1),vI (r41.1.2.2.1),vI (r41.1.2.2.2.1),vB (r41.1.2.2.2.2.1),x43.1] 43,Ar cE.raw x43.1 x43.2,fT bO x43.2 r41.1.2.2.2.2.2,Ar cE.raw x37.1 x37.2,fT bO x37.2 r35,Ar cE.raw x30.1 x30.2,fT bO x30.2 r28.1,bL b5 [x4.1,x4.2.1] 29,Ar bO x4.1 r2.1,Ar cE.raw x4.2.1 x4.2.2,fT bS x4.2.2 r2.2]) (fun a56 b57=>[Sl aH x13a r11.2.1,Sl aE x13b z14,PF (Value.agg #[vS r11.1,x13a,x13b]),Sl bI v0 p0.2.1,Sl bI v1 p0.2.2.1,Sl bI v2 p0.2.2.2.1,Sl bI v3 p1,Sl bI v4 p3,Sl pI v5 p4,Gb 0 (cellsOf AV oA)]) ?_ ?_
 ·refine sqR<|qkAsg rfl<|dtN<|aN<|Ep (B:=Unit) (fN U r2 r28 r35 r41 r49) (fun a79 b80=>[(11,vP b5),(13,x30.1),(15,x37.1),(17,vP b44),(19,x51.1),(22,vI (a79))]) (fun a79 b80=>[Ar cE.raw x51.1 x51.2.1,Jh bO x51.2.1 x51.2.2.1 r49.1,bL b44 [vU (r41.1.1),vI (r41.1.2.1),vI (r41.1.2.2.1),vI (r41.1.2.2.2.1),vB (r41.1.2.2.2.2.1),x43.1] 43,Ar cE.raw x43.1 x43.2,fT bO x43.2 r41.1.2.2.2.2.2,Ar cE.raw x37.1 x37.2,fT bO x37.2 r35,Ar cE.raw x30.1 x30.2,fT bO x30.2 r28.1,bL b5 [x4.1,x4.2.1] 29,Ar bO x4.1 r2.1,Ar cE.raw x4.2.1 x4.2.2,fT bS x4.2.2 r2.2]) (fun a79 b80=>[Sl aH x13a r11.2.1,Sl aE x13b z14,PF (Value.agg #[vS r11.1,x13a,x13b]),Sl bI v0 p0.2.1,Sl bI v1 p0.2.2.1,Sl bI v2 p0.2.2.2.1,Sl bI v3 p1,Sl bI v4 p3,Sl pI v5 p4,Gb 0 (cellsOf AV oA)]) (0:Int) () h SF (aR.refl _) (aD.refl _ _) ?_
  intro k81 a79 b80 h
  refine aG<|sqR<|qkMove rfl<|qkAdd rfl<|qkMove rfl<|aA (HJ 0 1 rfl rfl rfl rfl) rfl<|qkLss rfl<|dtN ?_
  refine eT h rfl (fun h=>?_) fun h=>?_
  ·refine cJ<|aG<|aN<|aG ?_
   refine JR.start [0,0,0,4,14,30,63,0,0,0,768,1792,4095,8191,16383] 12 mixedOrders (by decide +kernel) ?_
   refine JR.open (by exact rfl) ?_
   refine jkLdA 9 rfl<|jkMove rfl<|jkMove rfl<|jqN rfl (wB rfl rfl)<|ckE h fun j83 h=>cB (uR 1 rfl) fun hl84=>?_
   refine bG rfl (aR.cons 0 rfl .nil) .nil (gH 0 rfl rfl rfl rfl rfl j83.1 (by have q1:=j83.2;have q2:=hl84;(try simp only[List.length_set]at q1);(try simp only[List.length_set]at q2);(try simp only[List.length_set]);omega)) aK.z ?_
   refine cB (uR 1 rfl) fun hl85=>bG rfl (aR.cons 0 rfl .nil) .nil (kQ 0 rfl rfl hl85 rfl rfl j83) aK.z<|bnE h fun r86 w87 h=>JR.loud rfl rfl rfl (aI.callQ Tm (vW U x4.1 x4.2.1 (List.zip x4.2.2 r2.2) (at' x51.2.1 (wI .i64 (a79+(1:Int)))) (List.zip (at' x51.2.2.1 (wI .i64 (a79+(1:Int)))) (at' r49.1 (wI .i64 (a79+(1:Int))))) r86 w87) rfl (aD.cons (aO (aB.res 10 rfl) cC) (aD.cons (aV (i:=11) (j:=12) rfl rfl bN) (aD.cons (LW (j:=1) rfl cC j83.1 j83.2) .nil)))) rfl (fun x88=>(mW [] rfl)) fun x88=>bG rfl (aR.cons 9 rfl .nil) .nil (eN 0 rfl rfl rfl rfl) (aK.h (aR.ix [9] rfl rfl) .nil aK.z)<|jqN rfl (dD rfl)<|jqN rfl (dD rfl)<|ckE h fun j89 h=>cB (uR 1 rfl) fun hl90=>?_
   refine bG rfl (aR.cons 0 rfl .nil) .nil (gH 0 rfl rfl rfl rfl rfl j89.1 (by have q1:=j89.2;have q2:=hl90;(try simp only[List.length_set]at q1);(try simp only[List.length_set]at q2);(try simp only[List.length_set]);omega)) (aK.h (aR.ix [0] rfl rfl) .nil aK.z) ?_
   refine cB (uR 1 rfl) fun hl91=>bG rfl (aR.cons 0 rfl .nil) .nil (kQ 0 rfl rfl hl91 rfl rfl j89) (aK.h (aR.ix [0] rfl rfl) .nil aK.z)<|bD 12 rfl rfl<|bnE h fun r92 w93 h=>aF (aI.callQ Tm (vW U x4.1 x4.2.1 (List.zip x4.2.2 r2.2) (at' x51.2.1 a79) (List.zip (at' x51.2.2.1 a79) (at' r49.1 a79)) r92 w93) rfl (aD.cons (aO (aB.res 10 rfl) cC) (aD.cons (aV (i:=11) (j:=12) rfl rfl bN) (aD.cons (LW (j:=1) rfl cC j89.1 j89.2) .nil)))) rfl fun x94=>aA (Cd rfl rfl) rfl<|qkNeq rfl<|dtN ?_
   refine eT h rfl (fun h=>?_) fun h=>?_
   ·refine sqR<|qkAsg rfl<|dtN<|aQ<|bQ<|aJ<|aJ<|bQ<|aJ ?_
    cases h
    exact wN rfl
   refine dQ<|inT<|aM<|qkMove rfl<|qkAdd rfl<|qkAsg rfl<|dtN ?_
   exact yX (wI .i64 (a79+(1:Int))) () h SF rfl
  refine fM ?_
  exact bT () (()) h SF (aR.ix [2,3,4,5,6,7,8,9,10,11,12] rfl rfl) (aD.refl _ _)
 intro a56 b57 h
 refine sqR<|qkMove rfl<|qkMove rfl<|bnE h fun r58 w59 h=>aF (aI.callQ YW (GQ U x30.1 (List.zip x30.2 r28.1) x37.1 (List.zip x37.2 r35) r58 w59) rfl (aD.cons (aV (i:=5) (j:=6) rfl rfl cC) (aD.cons (aV (i:=3) (j:=4) rfl rfl cC) .nil))) rfl fun x60=>qkAsg rfl<|dtN<|aG<|xQ (B:=Unit) (fun a62=>cV  a62=some r) (fun a62 b63=>[(10,vB (a62))]) (fun a62 b63=>[]) (fun a62 b63=>[Sl aH x13a r11.2.1,Sl aE x13b z14,PF (Value.agg #[vS r11.1,x13a,x13b]),Sl bI v0 p0.2.1,Sl bI v1 p0.2.2.1,Sl bI v2 p0.2.2.2.1,Sl bI v3 p1,Sl bI v4 p3,Sl pI v5 p4,Gb 0 (cellsOf AV oA)]) ?_ ?_
 ·refine JR.start [0,1,3,7,15,31,63,127,255,127,127,1663,4095,8191,16383,32767,65535,131071,262143,524287,1048575,1048575,3145727,8388607,16777215,33554431] 23 mixedOrders (by decide +kernel) ?_
  refine JR.open (by exact rfl)<|bnE h fun r64 w65 h=>JR.loud rfl rfl rfl (aI.callQ Tk (Jq U  r64 w65) rfl (lK [9] rfl)) rfl (fun x66=>yG.z) fun x66=>jqN rfl (dD rfl) ?_
  refine JR.guard (by exact rfl) (by exact rfl) (by exact rfl) (fun hp67=>?_) (fun hp67=>?_)
  ·have h:=JU hp67 h
   refine fF rfl .nil .nil (cZ rfl rfl rfl rfl rfl) (MM rfl)<|fF rfl (aR.cons 0 rfl .nil) .nil (eF 0 rfl rfl rfl rfl rfl) (MM rfl)<|fF rfl .nil .nil (zY rfl rfl) (MM rfl)<|jqN rfl (zZ rfl rfl)<|jqN rfl (dD rfl) ?_
   refine AB (by exact rfl) (by exact rfl) (by exact rfl) (fun hp68=>?_) (fun hp68=>?_)
   ·have h:=JU hp68 h
    refine fF rfl .nil .nil (cZ rfl rfl rfl rfl rfl) (MM rfl)<|fF rfl (aR.cons 0 rfl .nil) .nil (eF 0 rfl rfl rfl rfl rfl) (MM rfl)<|fF rfl (aR.cons 7 rfl .nil) .nil (eN 0 rfl rfl rfl rfl) (MM rfl)<|fF rfl .nil .nil (dD rfl) (MM rfl)<|bnE h fun r69 w70 h=>SH rfl rfl rfl rfl (aI.callQ YT (Cz U x4.1 x4.2.1 (List.zip x4.2.2 r2.2) r69 w70) rfl (aD.cons (aO (aB.res 8 rfl) cC) (aD.cons (aV (i:=9) (j:=10) rfl rfl bN) .nil))) rfl (fun x71=>(mW [([0],[])] rfl)) fun x71=>fF rfl .nil .nil (Cd rfl rfl) (MM rfl)<|fF rfl .nil .nil (Dr rfl rfl) (MM rfl)<|jqN rfl (zZ rfl rfl)<|jqN rfl (dD rfl) ?_
    refine AB (by exact rfl) (by exact rfl) (by exact rfl) (fun hp72=>?_) (fun hp72=>?_)
    ·have h:=JU hp72 h
     refine fF rfl .nil .nil (cZ rfl rfl rfl rfl rfl) (MM rfl)<|fF rfl (aR.cons 0 rfl .nil) .nil (eF 0 rfl rfl rfl rfl rfl) (MM rfl)<|jqN rfl (zZ rfl rfl)<|jqN rfl (dD rfl) ?_
     refine JR.guard (by exact rfl) (by exact rfl) (by exact rfl) (fun hp73=>?_) (fun hp73=>?_)
     ·have h:=JU hp73 h
      refine fF rfl (aR.cons 7 rfl .nil) .nil (eN 0 rfl rfl rfl rfl) (MM rfl)<|fF rfl .nil .nil (cZ rfl rfl rfl rfl rfl) (MM rfl)<|fF rfl (aR.cons 0 rfl .nil) .nil (eF 0 rfl rfl rfl rfl rfl) (MM rfl)<|bD 23 rfl rfl<|bnE h fun r74 w75 h=>tF rfl (aI.callQ Tl (Ai U x4.1 x4.2.1 (List.zip x4.2.2 r2.2) x43.1 (List.zip x43.2 r41.1.2.2.2.2.2) r74 w75) rfl (aD.cons (aO (aB.res 8 rfl) cC) (aD.cons (aV (i:=9) (j:=10) rfl rfl bN) (aD.cons (aV (i:=1) (j:=2) rfl rfl cC) .nil)))) rfl fun x76=>qkPkT rfl<|qkAsg rfl<|dtN ?_
      exact bT (r74) () h SF .nil (aD.refl _ _)
     have h:=Io hp73 h
     refine bB rfl rfl rfl rfl<|bB rfl rfl rfl rfl<|bB rfl rfl rfl rfl<|bD 23 rfl rfl<|gdSkip rfl<|qkPkF rfl<|qkAsg rfl<|dtN ?_
     exact bT (false) () h SF .nil (aD.refl _ _)
    have h:=Xu hp72 h
    refine bB rfl rfl rfl rfl<|bB rfl rfl rfl rfl<|jqN rfl (tH rfl rfl)<|jqN rfl (dD rfl)<|bB rfl rfl rfl rfl<|bB rfl rfl rfl rfl<|bB rfl rfl rfl rfl<|bD 23 rfl rfl<|gdSkip rfl<|qkPkF rfl<|qkAsg rfl<|dtN ?_
    exact bT (false) () h SF .nil (aD.refl _ _)
   have h:=Xu hp68 h
   refine bB rfl rfl rfl rfl<|bB rfl rfl rfl rfl<|bB rfl rfl rfl rfl<|bB rfl rfl rfl rfl<|bB rfl rfl rfl rfl<|bB rfl rfl rfl rfl<|bB rfl rfl rfl rfl<|jqN rfl (tH rfl rfl)<|jqN rfl (dD rfl)<|bB rfl rfl rfl rfl<|bB rfl rfl rfl rfl<|jqN rfl (tH rfl rfl)<|jqN rfl (dD rfl)<|bB rfl rfl rfl rfl<|bB rfl rfl rfl rfl<|bB rfl rfl rfl rfl<|bD 23 rfl rfl<|gdSkip rfl<|qkPkF rfl<|qkAsg rfl<|dtN ?_
   exact bT (false) () h SF .nil (aD.refl _ _)
  have h:=Io hp67 h
  refine bB rfl rfl rfl rfl<|bB rfl rfl rfl rfl<|bB rfl rfl rfl rfl<|jqN rfl (tH rfl rfl)<|jqN rfl (dD rfl)<|bB rfl rfl rfl rfl<|bB rfl rfl rfl rfl<|bB rfl rfl rfl rfl<|bB rfl rfl rfl rfl<|bB rfl rfl rfl rfl<|bB rfl rfl rfl rfl<|bB rfl rfl rfl rfl<|jqN rfl (tH rfl rfl)<|jqN rfl (dD rfl)<|bB rfl rfl rfl rfl<|bB rfl rfl rfl rfl<|jqN rfl (tH rfl rfl)<|jqN rfl (dD rfl)<|bB rfl rfl rfl rfl<|bB rfl rfl rfl rfl<|bB rfl rfl rfl rfl<|bD 23 rfl rfl<|gdSkip rfl<|qkPkF rfl<|qkAsg rfl<|dtN ?_
  exact bT (false) () h SF .nil (aD.refl _ _)
 intro a62 b63 h
 unfold cV at h
 refine aQ ?_
 cases h
 exact lC rfl
end
end Go.Proofs.YtjlbcgddhnjcjaaGreatDoor
end
section
namespace Go.Proofs.YtjlbcgddhnjcjaaGreatDoor
open Go Go.Sx
abbrev pC (z:List pW):vZ:=(ByteArray.mk #[99,111,108,111,117,114,105,110,103],gG,z)
theorem abL:∀x,x<gG.length->Cc (at' gG (x:Int)) ∧ -100000<=(at' gG (x:Int)).2.2.1∧(at' gG (x:Int)).2.2.1<=(at' gG (x:Int)).2.2.2.1:=by
 intro x hx
 refine⟨QB x hx,?_⟩
 obtain rfl:x=0:=by simp[gG]at hx;exact hx
 exact⟨by decide,by decide⟩
theorem MH {z:List pW} {g:GR} {c:aT} (h:mV (bH (pC z) g) RC (dC g) c=0) (v:Nat) (a:v<g.2.length):¬xT g c v:=fun q=>by
 have:(mV (bH (pC z) g) RC (dC g) c).testBit v=true:=(yL _ RC _ c v).2 ⟨a,AQ.2 q,by unfold dC;rw[Wl,decide_eq_true a]⟩
 rw[h]at this;simp at this
def Xk (z:List pW) (g:GR) (b:aT) (ws:aL) (k:Nat) (c:aT):Prop:=
 ∃ch d a,lM 1000 (pC z) g 1 b ws=some ((As ch,a,c,d),0)∧QW g (dC g) k c ch∧k<=ws.length∧a.length=k+1∧at' a (k:Int)=((mV (bH (pC z) g) RC (dC g) c:Nat):Int)∧(k=ws.length∨mV (bH (pC z) g) RC (dC g) c=0)∧c=pG (pC z) gG RC g 1 ws b k∧∀j,j<k->mV (bH (pC z) g) RC (dC g) (pG (pC z) gG RC g 1 ws b j)≠0
theorem Nu {g:GR} (I:VG g) {E:aT} (W:g.2.length<=9) (u:G_ g E gG):∃c,nE 1000 wL g E=some (c,true)∧G_ g c gG∧∀v,v<g.2.length->¬xT g c v:=by
 obtain⟨ws,N,V,M⟩:=Kr ([]:aL) (n:=60) (by omega)
 have D:∀z:List pW,z.map uX=Bi RC->∃k c,Xk z g E ws k c:=fun z C=>by
  obtain⟨k,c,ch,s,j,d,F,K,G,S,x,q,a,o,h⟩:=Ik (p:=pC z) I (VH I) C Lu (kind:=1) (by omega) (by omega) u (ws:=ws) (by omega) M
   (fun k c ch=>QW g (dC g) k c ch) (OZ u).m
   (fun k c ch t G K F h L B y=>Vi I F L B (y (by decide)))
  exact⟨k,c,ch,s,j,d,F,G,x,q,a,o,h⟩
 obtain⟨P,O⟩:=exZ (Bi RC)
 obtain⟨X,c,H,Q,R,_,l,J,_,_,b,w,A⟩:=D P O
 have i:mV (bH (pC P) g) RC (dC g) c=0:=by
  rcases b with e|e
  ·have:=Pf (f:=rO H) (n:=g.2.length) l.one
   have:=l.sum
   omega
  ·exact e
 refine⟨c,?_,l.r,MH i⟩
 unfold nE
 rw[bA (IF 1000)]
 refine KL fun z C=> ?_
 have C:z.map uX=Bi RC:=C
 obtain⟨k,T,ch,s,j,d,F,G,x,q,a,o,h⟩:=D z C
 obtain rfl:c=T:=Va J b w A G a o h
 rw[bA (show kL 1000 ([]:aL) 60=_ from N)]
 refine(bA (show lM 1000 (pC z) g 1 E ws=_ from d)).trans ?_
 unfold rV lR
 dsimp only
 have U:wI .i64 ((j.length:Int) - 1)=(k:Int):=by rw[wr (by omega) (by omega)];omega
 rw[if_pos rfl,if_pos (by omega),U,cP (by omega),q,Gn _ (pC P),i]
 rfl
theorem Sf {z:List pW} {g:GR} (f:VG g) {c:aT} (hc:G_ g c gG) {t:Nat} (b:∀i,t.testBit i=true->(mV (bH (pC z) g) RC (dC g) c).testBit i=true) (a:∀v u,t.testBit v=true->t.testBit u=true->¬El g v u) {v:Nat} (k:v<g.2.length) (h:xT g (gJ (bH (pC z) g) gG RC c t) v):xT g c v:=
 (IM f hc (fun u j=>by
  obtain⟨d,e,_⟩:=(yL (bH (pC z) g) RC (dC g) c u).1 (b u j)
  exact⟨d,AQ.1 e⟩) a k h).1
theorem XO {g:GR} (F:VG g) {a:aT} (n:G_ g a gG) {ws:aL} (N:ws.length<=900) (hw:∀k:Nat,k<ws.length->∃m:Nat,at' ws (k:Int)=(m:Int)∧m<4294967296):
  ∃(k:Nat) (cs:yF) (s:List CT),xM 1000 wL g 2 a ws=some (cs,s,true)∧cs.length=k+1∧k<=ws.length∧(∀j,j<=k->G_ g (at' cs (j:Int)) gG)∧∀j,j<k->∀v,v<g.2.length->xT g (at' cs ((j+1:Nat):Int)) v->xT g (at' cs (j:Int)) v:=by
 let P:List pW->Nat->Prop:=fun z k=>(∀j,j<=k->G_ g (pG (pC z) gG RC g 2 ws a j) gG)∧∀j,j<k->∀v,v<g.2.length->xT g (pG (pC z) gG RC g 2 ws a (j+1)) v->xT g (pG (pC z) gG RC g 2 ws a j) v
 have D:∀z:List pW,z.map uX=Bi RC->∃k,uM 1000 (pC z) g 2 a ws=some ((List.range (k+1)).map (pG (pC z) gG RC g 2 ws a),(List.range (k+1)).map (GG (pC z) gG RC g 2 ws a),0)∧k<=ws.length∧P z k∧(∀j,j<k->mV (bH (pC z) g) RC (dC g) (pG (pC z) gG RC g 2 ws a j)≠0)∧(k=ws.length∨mV (bH (pC z) g) RC (dC g) (pG (pC z) gG RC g 2 ws a k)=0):=fun z C=>by
  obtain⟨k,c,ch,H,U,rfl,V,W,X⟩:=VI (p:=pC z) F (VH F) C Lu (kind:=2) (by omega) (by omega) n (ws:=ws) N hw
   (fun k c ch _=>QW g (dC g) k c ch∧P z k∧c=pG (pC z) gG RC g 2 ws a k) ⟨(OZ n).m,⟨fun j b=>by(obtain rfl:j=0:=by omega);exact n,fun j b=>by omega⟩,rfl⟩
   (fun k c ch S t Q T R aa E A M f d _ K _=>by
    obtain⟨E,⟨Y,Z⟩,rfl⟩:=E
    have u:=Vi F E M f (d (by decide))
    refine⟨u,⟨fun j b=> ?_,fun j b v G h=> ?_⟩,K.symm⟩
    ·by_cases e:j<=k
     ·exact Y j e
     ·obtain rfl:j=k+1:=by omega
      rw[K];exact u.r
    ·by_cases e:j<k
     ·exact Z j e v G h
     ·obtain rfl:j=k:=by omega
      rw[K]at h
      exact Sf F E.r f (d (by decide)) G h)
  exact⟨k,H,V,U.2.1,W,X⟩
 obtain⟨i,O⟩:=exZ (Bi RC)
 obtain⟨q,_,y,w,B,o⟩:=D i O
 have l:∀j,j<=q->at' ((List.range (q+1)).map (pG (pC i) gG RC g 2 ws a)) (j:Int)=pG (pC i) gG RC g 2 ws a j:=fun j b=>zE _ (by omega)
 refine⟨q,(List.range (q+1)).map (pG (pC i) gG RC g 2 ws a),(List.range (q+1)).map (GG (pC i) gG RC g 2 ws a),?_,by simp,y,fun j b=>by rw[l j b];exact w.1 j b,fun j b v G h=> ?_⟩
 ·unfold xM
  rw[bA (IF 1000)]
  refine KL fun z C=> ?_
  have C:z.map uX=Bi RC:=C
  obtain⟨k,H,R,_,A,x⟩:=D z C
  have J:k=q:=Vb (p:=pC z) (p':=pC i) R x A y o B
  subst J
  have I:GG (pC z) gG RC g 2 ws a=GG (pC i) gG RC g 2 ws a:=funext fun j=>Zq _ _ _ _ _ _ _ _ _
  have L:pG (pC z) gG RC g 2 ws a=pG (pC i) gG RC g 2 ws a:=funext fun j=>Ct _ _ _ _ _ _ _ _ _
  refine(bA (show uM 1000 (pC z) g 2 a ws=_ from H)).trans ?_
  unfold sD
  dsimp only
  rw[if_pos rfl,if_pos (by simp),I,L,decide_eq_true (by simp)]
 ·rw[l (j+1) (by omega)]at h
  rw[l j (by omega)]
  exact w.2 j b v G h
theorem Ji (x:Oc) (raw:aL) (p2:Int) (vals wishes:aL) (h0:0<=p2) (h1:p2<4294967296):mH 1000 x raw p2 vals wishes=some true:=by
 obtain⟨d,rfl⟩:∃d:Nat,p2=d:=⟨p2.toNat,by omega⟩
 have hd:d<4294967296:=by omega
 obtain⟨g,hg,hVM,hn9⟩:=YK x 9 (by omega) (by omega)
 have hV:VG g:=hVM.vg
 have h24:=hV.n24
 obtain⟨c00,hc,hc00⟩:=Rp hV gG raw (by decide) abL
 obtain⟨cl,hset,hcl,hok⟩:=Nu hV hn9 hc00
 have hcll:=hcl.len
 obtain⟨c0,hsp,hc0,hkeep⟩:=Sd (vars:=gG) h24 rfl hcl hd vals (m:=((g.2.length+1:Nat):Int)) (by omega) (by omega) (fun a v h1 h2 _=>by rw[loC,hiC];omega)
 obtain⟨ws,hws,hwl,hwb⟩:=Kr wishes (n:=40) (by omega)
 have hdif:=Rt (c:=cl) (d:=c0) h24 hcl.len hc0.len (fun v hv=>by rw[hc0.row v hv];decide)
 have hS:∀u,u<g.2.length->((j_ (EF cl c0 g.2.length) 24).testBit u=true↔yU c0 u≠yU cl u):=fun u hu=>W_ h24 (fun v hv=>hcl.row v hv) (fun v hv=>hc0.row v hv) u hu
 have hS32:=Af (EF cl c0 g.2.length) (k:=24) (by omega)
 obtain⟨m1,hm1,hreg1,hb1⟩:=RX (r:=1) hV hS32
 obtain⟨kw,cs,cnts,hrunw,hcsl,hkw,hcsr,hcsc⟩:=XO hV hc0 (ws:=ws) (by omega) hwb
 unfold mH
 rw[show nR 1000 (x.1,x.2.1,x.2.2.1,x.2.2.2.1,x.2.2.2.2.1,x.2.2.2.2.2) 9=some g from hg,bA rfl,bA (show iL 1000=some wL from rfl),bA (IF 1000)]
 refine KL fun z hz=> ?_
 have hz:z.map uX=Bi RC:=hz
 rw[bA (show iL 1000=some wL from rfl),aak,bA rfl,show mJ 1000 (g.1,g.2) gG raw=some c00 from hc,bA rfl,bA (show nE 1000 wL (g.1,g.2) c00=_ from hset),if_neg (by simp),bA (show jA 1000 (g.1,g.2) cl=_ from JY hV hcl hok)]
 unfold iQ
 rw[if_neg (by decide),show wI .i64 ((cl.length:Int)+1)=((g.2.length+1:Nat):Int) by rw[hcll,dO (by omega)],bA (show pA 1000 cl (d:Int) vals _=_ from hsp),bA (show kL 1000 wishes 40=_ from hws)]
 obtain⟨k,c,ch,cnt,ens,hrun,⟨hI,hin⟩,hsh,hk,hchl,hel,hea,hend,hcR,hne⟩:=Ik (p:=pC z) hV (VH hV) hz Lu (kind:=2) (by omega) (by omega) hc0 (ws:=ws) (by omega) hwb
  (fun k c ch=>VW g (dC g) c0 k c ch∧∀t∈ch,Pp g t) ⟨OZ hc0,fun t h=>by cases h⟩
  (fun k c ch t hk hsh hI hne ht0 hsub hind=>⟨abE hV hI.1 ht0 hsub (hind (by decide)),fun s hs=>by
   rcases List.mem_append.1 hs with h|h
   ·exact hI.2 s h
   ·rw[List.mem_singleton.1 h];exact fun i hi=>((yL _ RC _ c i).1 (hsub i hi)).1⟩)
 have hch:=hI.m.sets
 have hM32:=UO hch
 have hMin:∀i,(Qn ch).testBit i=true->i<g.2.length∧xT g c0 i:=fun i hi=>by
  have h:=(Qo i ch).1 hi
  have h':=h
  unfold rO at h
  obtain⟨t,ht,hb⟩:=List.countP_pos_iff.1 h
  have hlt:=hin t ht i hb
  exact⟨hlt,hI.mv i hlt h'⟩
 have hzero:∀v,g.2.length<=v->rO ch v=0:=fun v hv=>by
  refine Nat.eq_zero_of_not_pos fun h=> ?_
  have:=(hMin v ((Qo v ch).2 h)).1
  omega
 obtain⟨most,hmov,hmost⟩:=UC hch (by omega) (b:=1) (fun v _=>by
  by_cases e:v<g.2.length
  ·exact hI.m.one v e
  ·rw[hzero v (by omega)];omega) ens c cnt
 have hen0:mV (bH (pC z) g) RC (dC g) c=0:=by
  rcases hend with e|e
  ·have:=Pf (f:=rO ch) (n:=g.2.length) hI.m.one
   have:=hI.m.sum
   omega
  ·exact e
 have e1:wI .i64 ((ens.length:Int) - 1)=(k:Int):=by rw[wr (by omega) (by omega)];omega
 have hrec:∃b2 b3,jT 1000 (pC z) g 2 c0 ws=some ((((Qn ch:Nat):Int),most,b2,b3,true,c),0):=by
  unfold jT
  rw[bA (show lM 1000 (pC z) g 2 c0 ws=_ from hrun)]
  dsimp only
  rw[if_neg (by decide),bA (show jF 1000 (As ch,ens,c,cnt)=_ from hmov),e1,cP (by omega),hea,hen0]
  exact⟨_,_,rfl⟩
 obtain⟨b2,b3,hrec⟩:=hrec
 refine(bA (show jT 1000 (pC z) g 2 c0 ws=_ from hrec)).trans ?_
 rw[bA (show iL 1000=some wL from rfl),bA (show xM 1000 wL (g.1,g.2) 2 c0 ws=_ from hrunw)]
 dsimp only
 rw[if_neg (by decide)]
 unfold iR
 rw[if_neg (by decide)]
 refine dV (step:=fN 1000 g (cl,true) c0 _ (cs,cnts,true)) (K:=some true) kw (fun j=>(j:Int)) (fun j ag hj=> ?_) (fun ag=> ?_) 1000 (by omega)
 ·have f1:=TD hV (at' cs ((j+1:Nat):Int))
  have f2:=TD hV (at' cs (j:Int))
  have hz0:Ib (VN g (at' cs ((j+1:Nat):Int))) (VN g (at' cs (j:Int)))=0:=Lo fun v=>by
   rw[FH f1 f2]
   cases hx:(VN g (at' cs ((j+1:Nat):Int))).testBit v with
   |false=>simp
   |true=>
    obtain⟨a,b⟩:=(KW v).1 hx
    rw[(KW v).2 ⟨a,hcsc j hj v a b⟩];simp
  unfold fN
  dsimp only
  rw[dO (by omega),if_pos (by omega),cP (by omega),bA (show fI 1000 (g.1,g.2) _=_ from Du hV (hcsr (j+1) (by omega))),cP (by omega),bA (show fI 1000 (g.1,g.2) _=_ from Du hV (hcsr j (by omega))),HP,hz0,if_neg (by simp)]
 ·unfold fN
  dsimp only
  rw[dO (by omega),if_neg (by omega)]
  unfold lL cV
  dsimp only
  have hz0:Ib (Qn ch) m1=0:=Lo fun v=>by
   rw[FH hM32 hm1]
   cases hx:(Qn ch).testBit v with
   |false=>simp
   | true =>
    obtain⟨hv,i,hi,he⟩:=hMin v hx
    have hball:Jf g (j_ (EF cl c0 g.2.length) 24) 1 v:=Classical.byContradiction fun q=>by
     obtain⟨f1,f2⟩:=ZB hV hS hv q
     obtain⟨u,hu,hue,hadj⟩:=hV.port hv hi
     rw[qQ hue,f1,f2 u hadj]at he
     exact hok v hv ⟨i,hi,by rw[qQ hue];exact he⟩
    rw[(hb1 v).2 hball];simp
  rw[bA hdif,bA (show Au 1000=some true from rfl),if_pos rfl,if_pos (by omega),bA (show kK 1000 (g.1,g.2) _ 1=_ from hreg1),HP,hz0,if_pos (by rfl),if_pos rfl,bA (show jA 1000 (g.1,g.2) c=_ from JY hV hI.m.r (MH hen0))]
end Go.Proofs.YtjlbcgddhnjcjaaGreatDoor
end
section
namespace Go.Sx
open Go.RowKit Go.ChangeShapes Go.WideShapes Go.ChangeAt Go.Proofs Go.Joins Go.Deep
section
variable {H:Type} {enc:TypeId×Value->H} {P:Program} {w:World} {base:Nat} {spare:Nat->Bool} {held:Bool}
theorem Jj {a:Type} (l:List a) (d:a):l=(List.range l.length).map fun i=>l.getD i d:=by
 apply List.ext_getElem?
 intro i
 by_cases h:i<l.length
 ·simp[h]
 ·simp[h]
theorem UN {r:Reach} {q:Nat} {t:TypeId} {a:Array Field} {v:Value} {d:DataW H} {p:List MemPlace} (m:P.underlying t=some (.struct a)) (b:oneCellFields P a=true) (u:P.cellsOf t=a.size)
  (B:Value.okWide P w r q t v) (h:DataW.Trod enc P w base spare held t v d p):
  ∃(V:Nat->Value) (Y:Nat->DataW H×List MemPlace) (n:Nat),v = .agg ((List.range a.size).map V).toArray∧∀(i:Nat) (f:Field),a[i]? = some f->DataW.trod enc P w base spare held n f.type [V i]=some (Y i):=by
 obtain⟨cs,rfl,j⟩:=okWide_struct m B
 obtain⟨fuel,x⟩:=h
 obtain⟨xs,n,_,_,_,l,y⟩:=DataW.trod_struct m x
 refine⟨fun i=>cs.toList.getD i undef,fun i=>xs.getD i (.nil,[]),n,?_,fun i f e=> ?_⟩
 ·congr 1
  apply Array.toList_inj.1
  show cs.toList=(List.range a.size).map fun i=>cs.toList.getD i undef
  have s:a.size=cs.toList.length:=by rw[<-u,<-j];rfl
  rw[s]
  exact Jj cs.toList undef
 ·have A:i<a.size:=(Array.getElem?_eq_some_iff.1 e).1
  obtain⟨o,k⟩:=hone_of b i f e
  have g:=y i f e
  have c:(Value.cells (.agg cs)).toList=cs.toList:=rfl
  have z:i<cs.toList.length:=by rw[Array.length_toList];omega
  rw[o,k,c,take1_drop _ _ undef z]at g
  rw[g]
  have C:i<xs.length:=by omega
  simp[C]
theorem Ut {k:IntKind} {e:TypeId} (a:P.underlying e=some (.int k)) {n:Nat} {v:Value} {x:DataW H×List MemPlace} (h:DataW.trod enc P w base spare held n e [v]=some x):∃y:Int,v = .int k y:=by
 obtain⟨y,b,_,_⟩:=DataW.trod_int a h
 exact⟨y,by simpa using b⟩
theorem JW {e:TypeId} (a:P.underlying e=some .bool) {n:Nat} {v:Value} {x:DataW H×List MemPlace} (h:DataW.trod enc P w base spare held n e [v]=some x):∃y:Bool,v = .bool y:=by
 obtain⟨y,b,_⟩:=DataW.trod_bool a h
 exact⟨y,by simpa using b⟩
theorem VJ {n:Int} (h:(Lit.int .u32 n).wf=true):0<=n∧n<4294967296:=by
 simp only[Lit.wf,Bool.and_eq_true,decide_eq_true_eq]at h
 have a:IntKind.u32.min=0:=by decide
 have b:IntKind.u32.max=4294967295:=by decide
 omega
end
end Go.Sx
end
section
set_option maxRecDepth 100000
namespace Go.Sx
open Go.RowKit Go.ChangeShapes Go.WideShapes Go.ChangeAt Go.Proofs Go.Joins
theorem OA {P:Program} {W:World} {n:String} {b m t y:Nat} {k:IntKind} {xs:aL} (h:laidMet P [(n,.agg (xs.map fun x=> .lit (.int k x)))] W) (F:P.globalNamed n=some b)
  (U:(P.globals[b]?).map (·.type)=some t) (V:P.underlying t=some (.array m y)) (u:P.underlying y=some (.int k)) (hc:P.cellsOf y=1) (r:P.cellsOf t=m) (Z:0<m):(Gb b (cellsOf (cE.int k) xs)).p W (fun _=>True):=by
 obtain⟨ps,⟨g,t2,cs,fuel,p,q,A,B,C,I,Y,J⟩,S,a⟩:=h
 rw[F]at A;cases A
 rw[U]at B;cases B
 refine⟨trivial,?_⟩
 obtain⟨ys,ml,_,f,R,v,O⟩:=DataW.trod_array V I
 simp only[Prod.mk.injEq,DataW.agg.injEq]at f
 have d:xs.length=m:=by rw[<-v];simpa using congrArg List.length f.1
 have N:cs.size=m:=by rw[<-r,<-R];simp
 have s:cs.toList=cellsOf (cE.int k) xs:=by
  refine List.ext_getElem? fun i=> ?_
  by_cases Q:i<m
  ·have j:=O i Q
   rw[hc,Nat.mul_one]at j
   have G:xs[i]? = some (xs[i]'(by omega)):=List.getElem?_eq_getElem _
   have D:=uI (cE.int k) xs i _ G 0 _ rfl
   rw[show i*(cE.int k).sz+0=i from Nat.mul_one i]at D
   rw[D]
   have H:ys[i]? = some (ys[i]'(by omega)):=List.getElem?_eq_getElem _
   rw[H]at j
   obtain⟨z,X,w,_⟩:=DataW.trod_int u j
   have o:cs.toList[i]? = some (.int k z):=by
    have:=congrArg (·[0]?) X
    simpa [List.getElem?_take,List.getElem?_drop]using this
   rw[o]
   have l:=congrArg (·[i]?) f.1
   simp only[List.getElem?_map,G,H,Option.map_some,Option.some.injEq]at l
   rw[w]at l
   have K:xs[i]=z:=by simpa using l
   rw[K]
  ·rw[List.getElem?_eq_none (by simp;omega),List.getElem?_eq_none (by rw[dU,d];show m*1<=i;omega)]
 have e:MemPlace.cell b 0∈ps:=by
  rw[J]
  refine List.mem_append_left _ (List.mem_append_left _ ?_)
  exact List.mem_map.2 ⟨0,by simp;omega,rfl⟩
 obtain⟨⟨c,T,E⟩,_⟩:=a b 0 e
 refine⟨T,?_⟩
 have L:c=cs:=by
  have M:(W.var? P n)=some c:=by unfold World.var?;rw[F];simp[E]
  rw[M]at C;exact Option.some.inj C
 rw[E,L,<-s]
theorem MP {H:Type} {enc:TypeId×Value->H} {os:Os} (z:List (String×DataW Unit)) (K:(z.all fun x=>x.2.handleName?.isNone)=true) (g:os.Started) {f:FuncId} {fn:Func} {s:ChangeSpec} {r:Bool} (I:Tryz.prog.funcs[f]? = some fn) (l:Tryz.prog.inits.idxOf? f=none)
  (m:(fn.params.toList.all fun t=>Tryz.prog.readableRec t&&decide (t<Tryz.prog.types.size))=true) (u:fn.resultTypes = #[4]) (c:s.vars=[])
  (n:∀a:List (DataW H),a.length=fn.params.toList.length->s.fn H a={results:=[.lit (.bool true)],args:=a})
  (k:∃(w:World) (b:Tape) (i:Input),w.os=os∧(w.forCall b i).Shaped Tryz.prog∧i.vars=[]∧Input.okWide Tryz.prog (w.forCall b i) .any w.heap.size f i∧
   ((s.pre enc Tryz.prog fn [] false (w.forCall b i).memory i.args∧laidMetH Tryz.prog z (w.forCall b i).memory)∧sizedMet enc Tryz.prog fn (OpenSpec.ofChange s) false (w.forCall b i).memory i.args)∧({}:Assume).holds Tryz.prog (lone (Frame.enter Tryz.prog f i.args .normal) [] (w.forCall b i)))
  (A:∀(W:World) (base:Nat) (args:Array Value) (a:List (DataW H)) (p:List MemPlace),laidMetH Tryz.prog z W->(∀(j:Nat) t v,fn.params[j]? = some t->args[j]? = some v->Value.okWide Tryz.prog W .any base t v)->
   DataW.TrodAll enc Tryz.prog W 0 (fun _=>true) true fn.params.toList args.toList a p->Calls Tryz.prog f args W fun e M=>e = .returned (.bool true)∧Kw W M):
  ReturnsInHanded {} Go.Proofs.YtjlbcgddhnjcjaaGreatDoor.Tryz.pinned.checked os f .any (fun w args=>(s.pre enc Tryz.prog fn [] false w args∧laidMetH Tryz.prog z w)∧sizedMet enc Tryz.prog fn (OpenSpec.ofChange s) false w args) (s.post enc Tryz.prog fn false r false false):=by
 refine returnsInHanded_of_change_and (C:=Go.Proofs.YtjlbcgddhnjcjaaGreatDoor.Tryz.pinned.checked) (X:=fun w _=>laidMetH Tryz.prog z w) (fun _ _ _ R h=>by rw[MakeChecks.laidMetH_plain _ _ _ K]at h ⊢;exact h.of_heap R) aeB g l I k ?_
 intro W base args a gs D y F _ _ Q _
 have J:=F.lt
 have G:=F
 obtain⟨p,q,E,N,rfl,_,_⟩:=F
 rw[c]at N
 obtain⟨rfl,rfl⟩:=trodVars_none N
 refine(A W base args a p Q y E).mono ?_
 rintro e M ⟨rfl,O⟩
 refine⟨_,rfl,?_⟩
 have o:a.length=fn.params.toList.length:=by
  have:∀(B:List TypeId) (vs:eV) (a:List (DataW H)) (p:List MemPlace),DataW.TrodAll enc Tryz.prog W 0 (fun _=>true) true B vs a p->a.length=B.length:=by
   intro B
   induction B with
   |nil=>intro vs a p h;cases vs<;>cases a<;>first|rfl|exact h.elim
   | cons t B ih =>
    intro vs a p h
    cases vs with
    |nil=>exact h.elim
    |cons v vs=>
     cases a with
     |nil=>exact h.elim
     |cons d a=>obtain⟨_,_,_,P,_⟩:=h;simp[ih vs a _ P]
  exact this _ _ _ _ E
 have L:s.fn H (a++[])={results:=[.lit (.bool true)],args:=a}:=by rw[List.append_nil];exact n a o
 refine⟨a,[],p++[],[],p,[],G,?_,?_,?_,O.frame _,fun h=>by cases h⟩
 ·rw[L,u]
  exact trodAll_mk1 (shut_bool Tryz.underlying4 true)
 ·rw[L]
  exact DG abq O _ _ _ _ m E (fun x S=>J x (List.mem_append_left _ S))
 ·rw[L,c];exact rfl
theorem RH {P:Program} {n:String} {k:IntKind} {xs:aL} {W:World} (h:laidMetH P [(n,.agg (xs.map fun x=> .lit (.int k x)))] W):laidMet P [(n,.agg (xs.map fun x=> .lit (.int k x)))] W:=by
 rw[MakeChecks.laidMetH_plain _ _ _ (by rfl)]at h;exact h
end Go.Sx
end
