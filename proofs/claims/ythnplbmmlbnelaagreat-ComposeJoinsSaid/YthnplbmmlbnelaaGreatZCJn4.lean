/- Models and proofs. Conditions: none. -/
import Derived.Test.YthnplbmmlbnelaaGreatZCJn3
import Derived.Test.YthnplbmmlbnelaaGreatZCJn2
set_option linter.unusedVariables false
set_option linter.unusedSimpArgs false
set_option maxHeartbeats 4000000
set_option maxRecDepth 20000
section
namespace Go.Proofs.YthnplbmmlbnelaaGreat
open Go.Sx
section
def tX  (a17:Unit):Option (Int):=
 some (0:Int)
def qL (U:Nat) (p0:cH) (r14:cU) (a21:Int) (ag20:(Int)->Option (Int)):Option (Int):=
 if a21<(List.length p0.2.2:Int)then(ck (0<=a21∧a21<(List.length p0.2.2:Int)) (Option.bind (z_ U ((((at' p0.2.2 a21).1),((at' p0.2.2 a21).2.1),((at' p0.2.2 a21).2.2))) r14) fun r30=>(if(!r30)=true then(some (6:Int))else(ag20 (wI .i64 (a21+(1:Int)))))))else(tX  (()))
def zA (U:Nat) (p0:cH) (a12:Unit):Option (Int):=
 Option.bind (zY U ((p0.1,p0.2.1,p0.2.2))) fun r14=>(bZ (qL U p0 r14) U (0:Int))
def qM (U:Nat) (p0:cH) (a36:Int) (ag35:(Int)->Option (Int)):Option (Int):=
 if a36<(List.length p0.2.2:Int)then(ck (0<=a36∧a36<(List.length p0.2.2:Int)) (Option.bind (yD U ((((at' p0.2.2 a36).1),((at' p0.2.2 a36).2.1),((at' p0.2.2 a36).2.2))) (List.length p0.2.1:Int)) fun r45=>(if(!r45)=true then(some (7:Int))else(ag35 (wI .i64 (a36+(1:Int)))))))else(zA U p0 (()))
def tW (U:Nat) (p0:cH) (a10:Unit):Option (Int):=
 bZ (qM U p0) U (0:Int)
def qN (U:Nat) (p0:cH) (a51:Int) (ag50:(Int)->Option (Int)):Option (Int):=
 if a51<(List.length p0.2.1:Int)then(ck (0<=a51∧a51<(List.length p0.2.1:Int)) (Option.bind (wO U ((((at' p0.2.1 a51).1),((at' p0.2.1 a51).2.1),((at' p0.2.1 a51).2.2.1),((at' p0.2.1 a51).2.2.2.1),((at' p0.2.1 a51).2.2.2.2.1),((at' p0.2.1 a51).2.2.2.2.2)))) fun r57=>(if(!r57)=true then(some (2:Int))else(ag50 (wI .i64 (a51+(1:Int)))))))else(tW U p0 (()))
def tV (U:Nat) (p0:cH) (a3:Bool):Option (Int):=
 if a3=true then(some (3:Int))else(Option.bind (zZ U ((p0.1,p0.2.1,p0.2.2))) fun r6=>(if(!r6)=true then(some (5:Int))else(bZ (qN U p0) U (0:Int))))
def zX (U:Nat) (p0:cH):Option (Int):=
 if(List.length p0.2.1:Int)=(0:Int)then(tV U p0 (true))else(if(6:Int)<(List.length p0.2.1:Int)then(tV U p0 (true))else(tV U p0 (decide ((12:Int)<(List.length p0.2.2:Int)))))
theorem UN:bO Tryz.prog 50:=Tryz.call50
theorem IU (U:Nat) {p0:cH} (v0:Value)  (v1:Value) (r:Int) (h:zX U p0=some r):
  bQ Tryz.prog 50 #[Value.agg #[vS (p0.1),v0,v1]] [Sl aF v0 p0.2.1,Sl aD v1 p0.2.2] (fun x:Unit=>vI (r)) (fun x l=>l) (fun _ l=>l):=by
 refine bQ.of Tryz.func50 rfl Tryz.ntmps50 rfl fun c=>?_
 refine aZ<|aT (aW.box (cs:=[vS (p0.1),v0,v1]) rfl rfl) rfl fun b1=>aK rfl<|aU<|aP<|aP<|dD (fun a3=>tV U p0 a3=some r) (fun a3 b4=>[(1,vP b1),(25,vB (a3))]) (fun a3 b4=>[bJ b1 [vS (p0.1),v0,v1] 25]) ?_ ?_
 ·refine aS<|bP rfl<|dC 0 rfl<|eC (dN rfl) rfl<|dQ rfl<|aE rfl ?_
  refine oD h rfl (fun _ h=>?_) fun _ h=>?_
  ·refine aI rfl<|aI rfl<|aI rfl<|aI rfl<|cE rfl<|aE rfl<|aI rfl<|aI rfl<|aI rfl<|aI rfl<|cE rfl<|aU ?_
   exact cZ (true) () h SF rfl
  refine aL rfl (cF rfl rfl rfl rfl rfl) rfl<|aL rfl (cT 0 rfl rfl rfl rfl rfl) rfl<|aL rfl (dR rfl (dN rfl) rfl) rfl<|aL rfl (kT rfl rfl) rfl<|cI rfl<|aE rfl ?_
  refine oD h rfl (fun _ h=>?_) fun _ h=>?_
  ·refine aI rfl<|aI rfl<|aI rfl<|aI rfl<|cE rfl<|aU ?_
   exact cZ (true) () h SF rfl
  refine aL rfl (cF rfl rfl rfl rfl rfl) rfl<|aL rfl (cT 0 rfl rfl rfl rfl rfl) rfl<|aL rfl (dR rfl (fP rfl) rfl) rfl<|aL rfl (kT rfl rfl) rfl<|cI rfl<|aU ?_
  exact cZ (decide ((12:Int)<(List.length p0.2.2:Int))) () h SF rfl
 intro a3 b4 h
 refine gP h rfl (fun _ h=>?_) fun _ h=>?_
 ·refine aZ<|aK rfl<|aU<|bE<|aR ?_
  cases h
  exact yR rfl
 refine cC<|aP<|aZ<|iC 0 rfl<|fO h fun r6 w7 h=>aT (aW.callQ UV (IW U v0 v1 r6 w7) rfl (gO [0,1] rfl)) rfl fun x8=>aJ (fR rfl) rfl<|aU ?_
 refine gP h rfl (fun _ h=>?_) fun _ h=>?_
 ·refine aZ<|aK rfl<|aU<|bE<|aR ?_
  cases h
  exact yR rfl
 refine cC<|aP<|dD (fun a10=>tW U p0 a10=some r) (fun a10 b11=>[(1,vP b1)]) (fun a10 b11=>[bJ b1 [vS (p0.1),v0,v1] 25]) ?_ ?_
 ·refine aZ<|bP rfl<|dC 0 rfl<|eC (dN rfl) rfl<|aE rfl<|aU<|aY<|fW (qN U p0) (fun a51 b52=>[(1,vP b1),(30,v0),(31,vI (List.length p0.2.1:Int)),(32,vI (a51))]) (fun a51 b52=>[bJ b1 [vS (p0.1),v0,v1] 25]) (0:Int) () h SF (bH.refl _) ?_
  intro k53 a51 b52 h
  refine aZ<|dL rfl<|aU<|aP ?_
  refine gT h rfl (fun h=>?_) fun h=>?_
  ·refine cC<|aP<|aY<|aZ<|fJ h fun j55 h=>aJ (a_ rfl rfl (dN rfl) rfl rfl j55) rfl<|aJ (gI (cs:=[vS ((at' p0.2.1 a51).1),vI ((at' p0.2.1 a51).2.1),vI ((at' p0.2.1 a51).2.2.1),vI ((at' p0.2.1 a51).2.2.2.1),vI ((at' p0.2.1 a51).2.2.2.2.1),vI ((at' p0.2.1 a51).2.2.2.2.2)]) rfl (dN rfl) aQ rfl rfl rfl rfl j55) rfl<|aT (aW.alloc (cs:=XO) rfl rfl) rfl fun b56=>bL 0 (vs:=[vS ((at' p0.2.1 a51).1),vI ((at' p0.2.1 a51).2.1),vI ((at' p0.2.1 a51).2.2.1),vI ((at' p0.2.1 a51).2.2.2.1),vI ((at' p0.2.1 a51).2.2.2.2.1),vI ((at' p0.2.1 a51).2.2.2.2.2)]) rfl rfl rfl rfl rfl rfl<|aU<|aZ<|iC 0 rfl<|fO h fun r57 w58 h=>aT (aW.callQ UW (Hc U  r57 w58) rfl .nil) rfl fun x59=>aJ (fR rfl) rfl<|aU ?_
   refine gP h rfl (fun _ h=>?_) fun _ h=>?_
   ·refine aZ<|aK rfl<|aU<|bE<|cG<|aR<|aR<|cG<|aR ?_
    cases h
    exact yR rfl
   refine eJ<|lP<|aS<|dM rfl<|aE rfl<|aU ?_
   exact dZ (wI .i64 (a51+(1:Int))) () h SF (bH.ix [1] rfl rfl) (aV.refl _ _)
  refine eQ ?_
  exact cZ () (()) h SF rfl
 intro a10 b11 h
 unfold tW at h
 refine aP<|dD (fun a12=>zA U p0 a12=some r) (fun a12 b13=>[(1,vP b1)]) (fun a12 b13=>[bJ b1 [vS (p0.1),v0,v1] 25]) ?_ ?_
 ·refine aZ<|bP rfl<|dC 0 rfl<|eC (fP rfl) rfl<|aE rfl<|aU<|aY<|fW (qM U p0) (fun a36 b37=>[(1,vP b1),(41,v1),(42,vI (List.length p0.2.2:Int)),(43,vI (a36))]) (fun a36 b37=>[bJ b1 [vS (p0.1),v0,v1] 25]) (0:Int) () h SF (bH.refl _) ?_
  intro k38 a36 b37 h
  refine aZ<|dL rfl<|aU<|aP ?_
  refine gT h rfl (fun h=>?_) fun h=>?_
  ·refine cC<|aP<|aY<|aZ<|fJ h fun j40 h=>aJ (a_ rfl rfl (fP rfl) rfl rfl j40) rfl<|mS (v:=v1) (ds:=p0.2.2) aO (fP rfl) fun us41=>?_
   refine cJ (bD ((e_ (bT (f:=aC) (fP rfl) j40.1 (by first|exact j40.2|simpa using j40.2))):aM _ _ (Sl bF ((at' us41 a36).1) ((at' p0.2.2 a36).2.1)))) ?_
   refine cJ (bD ((fA (bT (f:=aC) (rA rfl) j40.1 (by first|exact j40.2|simpa using j40.2))):aM _ _ (Sl aX ((at' us41 a36).2) ((at' p0.2.2 a36).2.2)))) ?_
   refine aJ (dY (cs:=[vS ((at' p0.2.2 a36).1),(at' us41 a36).1,(at' us41 a36).2]) rfl (rA rfl) rfl rfl rfl rfl ⟨j40.1,by first|exact j40.2|simpa using j40.2⟩) rfl<|aT (aW.alloc (cs:=fL) rfl rfl) rfl fun b42=>bY (Know.one ((fP rfl))) fun ho43=>bY (Know.one ((dN rfl))) fun ho44=>bL 0 (vs:=[vS ((at' p0.2.2 a36).1),(at' us41 a36).1,(at' us41 a36).2]) rfl rfl (cR rfl (cR ho43 (cR ho44 rfl))) rfl rfl rfl<|aU<|aZ<|iC 0 rfl<|bP rfl<|dC 1 rfl<|eC (KS rfl) rfl<|fO h fun r45 w46 h=>aT (aW.callQ UX (Iw U ((at' us41 a36).1) ((at' us41 a36).2) r45 w46) rfl (gO [1,0] rfl)) rfl fun x47=>aJ (fR rfl) rfl<|aU ?_
   refine gP h rfl (fun _ h=>?_) fun _ h=>?_
   ·refine aZ<|aK rfl<|aU<|bE<|cG<|aR<|aR<|cG<|aR ?_
    cases h
    exact yR rfl
   refine eJ<|lP<|aS<|dM rfl<|aE rfl<|aU ?_
   exact dZ (wI .i64 (a36+(1:Int))) () h SF (bH.ix [1] rfl rfl) (gO [4,5] rfl)
  refine eQ ?_
  exact cZ () (()) h SF rfl
 intro a12 b13 h
 refine aZ<|iC 0 rfl<|fO h fun r14 w15 h=>aT (aW.callQ UY (IV U v0 v1 r14 w15) rfl (gO [0,1] rfl)) rfl fun x16=>aK rfl<|aU<|aP<|dD (fun a17=>tX  a17=some r) (fun a17 b18=>[]) (fun a17 b18=>[]) ?_ ?_
 ·refine aZ<|bP rfl<|dC 1 rfl<|eC (fP rfl) rfl<|aE rfl<|aU<|aY<|fW (qL U p0 r14) (fun a21 b22=>[(7,x16),(57,v1),(58,vI (List.length p0.2.2:Int)),(59,vI (a21))]) (fun a21 b22=>[Ar gZ x16 r14]) (0:Int) () h SF (bH.ix [0] rfl rfl) ?_
  intro k23 a21 b22 h
  refine aZ<|dL rfl<|aU<|aP ?_
  refine gT h rfl (fun h=>?_) fun h=>?_
  ·refine cC<|aP<|aY<|aZ<|fJ h fun j25 h=>aJ (a_ rfl rfl (fP rfl) rfl rfl j25) rfl<|mS (v:=v1) (ds:=p0.2.2) aO (fP rfl) fun us26=>?_
   refine cJ (bD ((e_ (bT (f:=aC) (fP rfl) j25.1 (by first|exact j25.2|simpa using j25.2))):aM _ _ (Sl bF ((at' us26 a21).1) ((at' p0.2.2 a21).2.1)))) ?_
   refine cJ (bD ((fA (bT (f:=aC) (rA rfl) j25.1 (by first|exact j25.2|simpa using j25.2))):aM _ _ (Sl aX ((at' us26 a21).2) ((at' p0.2.2 a21).2.2)))) ?_
   refine aJ (dY (cs:=[vS ((at' p0.2.2 a21).1),(at' us26 a21).1,(at' us26 a21).2]) rfl (rA rfl) rfl rfl rfl rfl ⟨j25.1,by first|exact j25.2|simpa using j25.2⟩) rfl<|aT (aW.alloc (cs:=fL) rfl rfl) rfl fun b27=>bY (Know.one ((fP rfl))) fun ho28=>bY (Know.one ((dN rfl))) fun ho29=>bL 0 (vs:=[vS ((at' p0.2.2 a21).1),(at' us26 a21).1,(at' us26 a21).2]) rfl rfl (cR rfl (cR ho28 (cR ho29 rfl))) rfl rfl rfl<|aU<|aZ<|iC 0 rfl<|aE rfl<|fO h fun r30 w31 h=>aT (aW.callQ UZ (IX U ((at' us26 a21).1) ((at' us26 a21).2) x16 r30 w31) rfl (aV.cons (fP rfl) (aV.cons (dN rfl) (aV.cons (aM.ar (aM.res 1 rfl) jF) .nil)))) rfl fun x32=>aJ (fR rfl) rfl<|aU ?_
   refine gP h rfl (fun _ h=>?_) fun _ h=>?_
   ·refine aZ<|aK rfl<|aU<|bE<|cG<|aR<|aR<|cG<|aR ?_
    cases h
    exact yR rfl
   refine eJ<|lP<|aS<|dM rfl<|aE rfl<|aU ?_
   exact dZ (wI .i64 (a21+(1:Int))) () h SF (bH.ix [1] rfl rfl) (gO [4,5] rfl)
  refine eQ ?_
  exact cK () (()) h SF .nil (aV.refl _ _)
 intro a17 b18 h
 unfold tX at h
 refine aZ<|aK rfl<|aU<|bE ?_
 cases h
 exact kF rfl
end
section
def pE (U:Nat) (p0:cH):Option (Bool):=
 Option.bind (zX U ((p0.1,p0.2.1,p0.2.2))) fun r2=>(some (decide (r2=(0:Int))))
theorem JX:bO Tryz.prog 21:=Tryz.call21
theorem Au (U:Nat) {p0:cH} (v0:Value)  (v1:Value) (r:Bool) (h:pE U p0=some r):
  bQ Tryz.prog 21 #[Value.agg #[vS (p0.1),v0,v1]] [Sl aF v0 p0.2.1,Sl aD v1 p0.2.2] (fun x:Unit=>vB (r)) (fun x l=>l) (fun _ l=>l):=by
 refine bQ.of Tryz.func21 rfl Tryz.ntmps21 rfl fun c=>?_
 refine aZ<|aT (aW.box (cs:=[vS (p0.1),v0,v1]) rfl rfl) rfl fun b1=>aK rfl<|aU<|aZ<|iC 0 rfl<|fO h fun r2 w3 h=>aT (aW.callQ UN (IU U v0 v1 r2 w3) rfl (gO [0,1] rfl)) rfl fun x4=>dQ rfl<|aK rfl<|aU<|bE ?_
 cases h
 exact yR rfl
end
section
def tR  (a8:Unit):Option (Bool):=
 some (true)
def yL (U:Nat) (p0:cH) (a12:Int) (ag11:(Int)->Option (Bool)) (a16:Unit):Option (Bool):=
 ck (0<=a12∧a12<(List.length p0.2.2:Int)) (Option.bind (uI U ((at' p0.2.2 a12).1)) fun r19=>(if(!r19)=true then(some (false))else(ag11 (wI .i64 (a12+(1:Int))))))
def qF (U:Nat) (p0:cH) (a12:Int) (ag11:(Int)->Option (Bool)) (a25:Int) (ag24:(Int)->Option (Bool)):Option (Bool):=
 if a25<a12 then(ck (0<=a25∧a25<(List.length p0.2.2:Int)) (ck (0<=a12∧a12<(List.length p0.2.2:Int)) (if(eR ((at' p0.2.2 a25).1) ((at' p0.2.2 a12).1))=true then(some (false))else(ag24 (wI .i64 (a25+(1:Int)))))))else(yL U p0 a12 ag11 (()))
def lN (U:Nat) (p0:cH) (a12:Int) (ag11:(Int)->Option (Bool)):Option (Bool):=
 if a12<(List.length p0.2.2:Int)then(bZ (qF U p0 a12 ag11) U (0:Int))else(tR  (()))
def tQ (U:Nat) (p0:cH) (a6:Unit):Option (Bool):=
 bZ (lN U p0) U (0:Int)
def yM (U:Nat) (p0:cH) (a34:Int) (ag33:(Int)->Option (Bool)) (a38:Unit):Option (Bool):=
 ck (0<=a34∧a34<(List.length p0.2.1:Int)) (Option.bind (uI U ((at' p0.2.1 a34).1)) fun r41=>(if(!r41)=true then(some (false))else(ag33 (wI .i64 (a34+(1:Int))))))
def qG (U:Nat) (p0:cH) (a34:Int) (ag33:(Int)->Option (Bool)) (a47:Int) (ag46:(Int)->Option (Bool)):Option (Bool):=
 if a47<a34 then(ck (0<=a47∧a47<(List.length p0.2.1:Int)) (ck (0<=a34∧a34<(List.length p0.2.1:Int)) (if(eR ((at' p0.2.1 a47).1) ((at' p0.2.1 a34).1))=true then(some (false))else(ag46 (wI .i64 (a47+(1:Int)))))))else(yM U p0 a34 ag33 (()))
def lO (U:Nat) (p0:cH) (a34:Int) (ag33:(Int)->Option (Bool)):Option (Bool):=
 if a34<(List.length p0.2.1:Int)then(bZ (qG U p0 a34 ag33) U (0:Int))else(tQ U p0 (()))
def zV (U:Nat) (p0:cH):Option (Bool):=
 Option.bind (uI U p0.1) fun r2=>(if(!r2)=true then(some (false))else(bZ (lO U p0) U (0:Int)))
theorem U_:bO Tryz.prog 79:=Tryz.call79
theorem IR (U:Nat) {p0:cH} (v0:Value)  (v1:Value) (r:Bool) (h:zV U p0=some r):
  bQ Tryz.prog 79 #[Value.agg #[vS (p0.1),v0,v1]] [Sl aF v0 p0.2.1,Sl aD v1 p0.2.2] (fun x:Unit=>vB (r)) (fun x l=>l) (fun _ l=>l):=by
 refine bQ.of Tryz.func79 rfl Tryz.ntmps79 rfl fun c=>?_
 refine aZ<|aT (aW.box (cs:=[vS (p0.1),v0,v1]) rfl rfl) rfl fun b1=>aK rfl<|aU<|aP<|aZ<|bP rfl<|dC 0 rfl<|fO h fun r2 w3 h=>aT (aW.callQ JV (CP U  r2 w3) rfl .nil) rfl fun x4=>aJ (fR rfl) rfl<|aU ?_
 refine gP h rfl (fun _ h=>?_) fun _ h=>?_
 ·refine aZ<|aK rfl<|aU<|bE<|aR ?_
  cases h
  exact yR rfl
 refine cC<|aP<|dD (fun a6=>tQ U p0 a6=some r) (fun a6 b7=>[(1,vP b1)]) (fun a6 b7=>[bJ b1 [vS (p0.1),v0,v1] 25]) ?_ ?_
 ·refine aZ<|aK rfl<|aU<|aY<|fW (lO U p0) (fun a34 b35=>[(1,vP b1),(3,vI (a34))]) (fun a34 b35=>[bJ b1 [vS (p0.1),v0,v1] 25]) (0:Int) () h SF (bH.refl _) ?_
  intro k36 a34 b35 h
  refine aP<|aZ<|aE rfl<|bP rfl<|dC 0 rfl<|eC (dN rfl) rfl<|dL rfl<|aU ?_
  refine gT h rfl (fun h=>?_) fun h=>?_
  ·refine cC<|aP<|aY<|aP<|dD (fun a38=>yM U p0 a34 (bZ (lO U p0) k36) a38=some r) (fun a38 b39=>[(1,vP b1),(3,vI (a34))]) (fun a38 b39=>[bJ b1 [vS (p0.1),v0,v1] 25]) ?_ ?_
   ·refine aZ<|aK rfl<|aU<|aY<|fW (qG U p0 a34 (bZ (lO U p0) k36)) (fun a47 b48=>[(1,vP b1),(3,vI (a34)),(4,vI (a47))]) (fun a47 b48=>[bJ b1 [vS (p0.1),v0,v1] 25]) (0:Int) () h SF (bH.refl _) ?_
    intro k49 a47 b48 h
    refine aP<|aZ<|aE rfl<|aE rfl<|dL rfl<|aU ?_
    refine gT h rfl (fun h=>?_) fun h=>?_
    ·refine cC<|aP<|aY<|aP ?_
     refine CC [0,1,0,7,15,31,0,64,0,448,960,1984,4095] 12 mixedOrders ?_
     refine eD rfl<|gM 0 rfl<|dG rfl<|fJ h fun j51 h=>dK rfl .nil (jY 0 rfl) (a_ rfl rfl (dN rfl) rfl rfl j51) bG.z<|zE rfl (cW rfl rfl rfl rfl rfl)<|dK rfl .nil (jY 0 rfl) (fN rfl (dN rfl) rfl rfl rfl iG j51) bG.z<|eD rfl<|gM 0 rfl<|dG rfl<|fJ h fun j52 h=>dK rfl .nil (jY 0 rfl) (a_ rfl rfl (dN rfl) rfl rfl j52) bG.z<|zE rfl (cW rfl rfl rfl rfl rfl)<|dK rfl .nil (jY 0 rfl) (fN rfl (dN rfl) rfl rfl rfl iG j52) bG.z<|cX 12 rfl rfl<|aJ (eF rfl rfl) rfl<|aU ?_
     refine gP h rfl (fun _ h=>?_) fun _ h=>?_
     ·refine aZ<|aK rfl<|aU<|bE<|cG<|aR<|aR<|cG<|aR<|cG<|aR<|aR<|cG<|aR ?_
      cases h
      exact yR rfl
     refine eJ<|lP<|aS<|aE rfl<|dM rfl<|aK rfl<|aU ?_
     exact BR (wI .i64 (a47+(1:Int))) () h SF rfl
    refine eQ ?_
    exact cZ () (()) h SF rfl
   intro a38 b39 h
   refine aZ<|bP rfl<|dC 0 rfl<|aE rfl<|fJ h fun j40 h=>aJ (a_ rfl rfl (dN rfl) rfl rfl j40) rfl<|aJ (cW rfl rfl rfl rfl rfl) rfl<|aJ (fN rfl (dN rfl) rfl rfl rfl iG j40) rfl<|fO h fun r41 w42 h=>aT (aW.callQ JV (CP U  r41 w42) rfl .nil) rfl fun x43=>aJ (fR rfl) rfl<|aU ?_
   refine gP h rfl (fun _ h=>?_) fun _ h=>?_
   ·refine aZ<|aK rfl<|aU<|bE<|cG<|aR<|aR<|cG<|aR ?_
    cases h
    exact yR rfl
   refine eJ<|lP<|aS<|aE rfl<|dM rfl<|aK rfl<|aU ?_
   exact BR (wI .i64 (a34+(1:Int))) () h SF rfl
  refine eQ ?_
  exact cZ () (()) h SF rfl
 intro a6 b7 h
 unfold tQ at h
 refine aP<|dD (fun a8=>tR  a8=some r) (fun a8 b9=>[]) (fun a8 b9=>[]) ?_ ?_
 ·refine aZ<|aK rfl<|aU<|aY<|fW (lN U p0) (fun a12 b13=>[(1,vP b1),(5,vI (a12))]) (fun a12 b13=>[bJ b1 [vS (p0.1),v0,v1] 25]) (0:Int) () h SF (bH.refl _) ?_
  intro k14 a12 b13 h
  refine aP<|aZ<|aE rfl<|bP rfl<|dC 0 rfl<|eC (fP rfl) rfl<|dL rfl<|aU ?_
  refine gT h rfl (fun h=>?_) fun h=>?_
  ·refine cC<|aP<|aY<|aP<|dD (fun a16=>yL U p0 a12 (bZ (lN U p0) k14) a16=some r) (fun a16 b17=>[(1,vP b1),(5,vI (a12))]) (fun a16 b17=>[bJ b1 [vS (p0.1),v0,v1] 25]) ?_ ?_
   ·refine aZ<|aK rfl<|aU<|aY<|fW (qF U p0 a12 (bZ (lN U p0) k14)) (fun a25 b26=>[(1,vP b1),(5,vI (a12)),(6,vI (a25))]) (fun a25 b26=>[bJ b1 [vS (p0.1),v0,v1] 25]) (0:Int) () h SF (bH.refl _) ?_
    intro k27 a25 b26 h
    refine aP<|aZ<|aE rfl<|aE rfl<|dL rfl<|aU ?_
    refine gT h rfl (fun h=>?_) fun h=>?_
    ·refine cC<|aP<|aY<|aP ?_
     refine CC [0,1,0,7,15,31,0,64,0,448,960,1984,4095] 12 mixedOrders ?_
     refine eD rfl<|gM 0 rfl<|dG rfl<|fJ h fun j29 h=>dK rfl .nil (jY 1 rfl) (a_ rfl rfl (dN rfl) rfl rfl j29) bG.z<|zE rfl (cW rfl rfl rfl rfl rfl)<|dK rfl .nil (jY 1 rfl) (fN rfl (dN rfl) rfl rfl rfl dX j29) bG.z<|eD rfl<|gM 0 rfl<|dG rfl<|fJ h fun j30 h=>dK rfl .nil (jY 1 rfl) (a_ rfl rfl (dN rfl) rfl rfl j30) bG.z<|zE rfl (cW rfl rfl rfl rfl rfl)<|dK rfl .nil (jY 1 rfl) (fN rfl (dN rfl) rfl rfl rfl dX j30) bG.z<|cX 12 rfl rfl<|aJ (eF rfl rfl) rfl<|aU ?_
     refine gP h rfl (fun _ h=>?_) fun _ h=>?_
     ·refine aZ<|aK rfl<|aU<|bE<|cG<|aR<|aR<|cG<|aR<|cG<|aR<|aR<|cG<|aR ?_
      cases h
      exact yR rfl
     refine eJ<|lP<|aS<|aE rfl<|dM rfl<|aK rfl<|aU ?_
     exact BR (wI .i64 (a25+(1:Int))) () h SF rfl
    refine eQ ?_
    exact cZ () (()) h SF rfl
   intro a16 b17 h
   refine aZ<|bP rfl<|dC 0 rfl<|aE rfl<|fJ h fun j18 h=>aJ (a_ rfl rfl (fP rfl) rfl rfl j18) rfl<|aJ (cW rfl rfl rfl rfl rfl) rfl<|aJ (fN rfl (fP rfl) rfl rfl rfl dX j18) rfl<|fO h fun r19 w20 h=>aT (aW.callQ JV (CP U  r19 w20) rfl .nil) rfl fun x21=>aJ (fR rfl) rfl<|aU ?_
   refine gP h rfl (fun _ h=>?_) fun _ h=>?_
   ·refine aZ<|aK rfl<|aU<|bE<|cG<|aR<|aR<|cG<|aR ?_
    cases h
    exact yR rfl
   refine eJ<|lP<|aS<|aE rfl<|dM rfl<|aK rfl<|aU ?_
   exact BR (wI .i64 (a12+(1:Int))) () h SF rfl
  refine eQ ?_
  exact cK () (()) h SF .nil (aV.refl _ _)
 intro a8 b9 h
 unfold tR at h
 refine aZ<|aK rfl<|aU<|bE ?_
 cases h
 exact kF rfl
end
section
def rP  (a6:Unit):Option (Bool):=
 some (true)
def rQ (a10:Int) (ag9:(Int)->Option (Bool)) (a14:Unit):Option (Bool):=
 ag9 (wI .i64 (a10+(1:Int)))
def oH (p0:qZ) (a10:Int) (ag9:(Int)->Option (Bool)) (a22:Int) (ag21:(Int)->Option (Bool)):Option (Bool):=
 if a22<a10 then(ck (0<=a22∧a22<(List.length p0.2.2:Int)) (ck (0<=a10∧a10<(List.length p0.2.2:Int)) (if((at' p0.2.2 a22).1)=((at' p0.2.2 a10).1)then(some (false))else(ag21 (wI .i64 (a22+(1:Int)))))))else(rQ a10 ag9 (()))
def xA (U:Nat) (p0:qZ) (a10:Int) (ag9:(Int)->Option (Bool)) (a17:Bool):Option (Bool):=
 if a17=true then(some (false))else(bZ (oH p0 a10 ag9) U (0:Int))
def iU (U:Nat) (p0:qZ) (p1:Int) (a10:Int) (ag9:(Int)->Option (Bool)):Option (Bool):=
 if a10<(List.length p0.2.2:Int)then(ck (0<=a10∧a10<(List.length p0.2.2:Int)) (Option.bind (mX U ((at' p0.2.2 a10).1) (0:Int) (wI .i64 (p1 - (1:Int)))) fun r30=>(if(!r30)=true then(xA U p0 a10 ag9 (true))else(ck (0<=a10∧a10<(List.length p0.2.2:Int)) (Option.bind (kV U ((at' p0.2.2 a10).2) p1) fun r36=>(xA U p0 a10 ag9 ((!r36))))))))else(rP  (()))
def w_ (U:Nat) (p0:qZ) (p1:Int) (a3:Bool):Option (Bool):=
 if a3=true then(some (false))else(bZ (iU U p0 p1) U (0:Int))
def yA (U:Nat) (p0:qZ) (p1:Int):Option (Bool):=
 Option.bind (mX U (List.length p0.2.2:Int) (1:Int) (6:Int)) fun r39=>(if(!r39)=true then(w_ U p0 p1 (true))else(Option.bind (kV U p0.2.1 p1) fun r43=>(w_ U p0 p1 ((!r43)))))
theorem Vb:bO Tryz.prog 81:=Tryz.call81
theorem Ir (U:Nat) {p0:qZ} {p1:Int} (v0:Value)  (v1:Value) (r:Bool) (h:yA U p0 p1=some r):
  bQ Tryz.prog 81 #[Value.agg #[vS (p0.1),v0,v1],vI (p1)] [Sl bF v0 p0.2.1,Sl aX v1 p0.2.2] (fun x:Unit=>vB (r)) (fun x l=>l) (fun _ l=>l):=by
 refine bQ.of Tryz.func81 rfl Tryz.ntmps81 rfl fun c=>?_
 refine aZ<|aT (aW.box (cs:=[vS (p0.1),v0,v1]) rfl rfl) rfl fun b1=>aK rfl<|aU<|aP<|aP<|dD (fun a3=>w_ U p0 p1 a3=some r) (fun a3 b4=>[(1,vI (p1)),(2,vP b1),(18,vB (a3))]) (fun a3 b4=>[bJ b1 [vS (p0.1),v0,v1] 42]) ?_ ?_
 ·refine aS<|bP rfl<|dC 0 rfl<|eC (fP rfl) rfl<|fO h fun r39 w40 h=>aT (aW.callQ Dq (tT U  r39 w40) rfl .nil) rfl fun x41=>aJ (fR rfl) rfl<|aE rfl ?_
  refine fY (by exact rfl) (by exact rfl) (fun hp42=>?_) (fun hp42=>?_)
  ·have h:=BK hp42 h
   refine aI rfl<|aI rfl<|aI rfl<|aI rfl<|aI rfl<|cE rfl<|aU ?_
   exact cZ (true) () h SF rfl
  have h:=sM hp42 h
  refine aL rfl (cF rfl rfl rfl rfl rfl) rfl<|aL rfl (cT 0 rfl rfl rfl rfl rfl) rfl<|cP rfl<|fO h fun r43 w44 h=>eX rfl (aW.callQ MM (BO U v0 r43 w44) rfl (gO [0] rfl)) rfl fun x45=>aL rfl (fR rfl) rfl<|cI rfl<|aU ?_
  exact cZ ((!r43)) () h SF rfl
 intro a3 b4 h
 refine gP h rfl (fun _ h=>?_) fun _ h=>?_
 ·refine aZ<|aK rfl<|aU<|bE<|aR ?_
  cases h
  exact yR rfl
 refine cC<|aP<|dD (fun a6=>rP  a6=some r) (fun a6 b7=>[]) (fun a6 b7=>[]) ?_ ?_
 ·refine aZ<|aK rfl<|aU<|aY<|fW (iU U p0 p1) (fun a10 b11=>[(1,vI (p1)),(2,vP b1),(5,vI (a10))]) (fun a10 b11=>[bJ b1 [vS (p0.1),v0,v1] 42]) (0:Int) () h SF (bH.refl _) ?_
  intro k12 a10 b11 h
  refine aP<|aZ<|aE rfl<|bP rfl<|dC 0 rfl<|eC (fP rfl) rfl<|dL rfl<|aU ?_
  refine gT h rfl (fun h=>?_) fun h=>?_
  ·refine cC<|aP<|dD (fun a14=>rQ a10 (bZ (iU U p0 p1) k12) a14=some r) (fun a14 b15=>[(1,vI (p1)),(2,vP b1),(5,vI (a10))]) (fun a14 b15=>[bJ b1 [vS (p0.1),v0,v1] 42]) ?_ ?_
   ·refine aY<|aP<|aP<|dD (fun a17=>xA U p0 a10 (bZ (iU U p0 p1) k12) a17=some r) (fun a17 b18=>[(1,vI (p1)),(2,vP b1),(5,vI (a10)),(46,vB (a17))]) (fun a17 b18=>[bJ b1 [vS (p0.1),v0,v1] 42]) ?_ ?_
    ·refine aS<|bP rfl<|dC 0 rfl<|aE rfl<|fJ h fun j29 h=>aJ (a_ rfl rfl (fP rfl) rfl rfl j29) rfl<|aJ (cW rfl rfl rfl rfl rfl) rfl<|aJ (fN rfl (fP rfl) rfl rfl rfl kA j29) rfl<|aE rfl<|aJ (sY rfl rfl) rfl<|fO h fun r30 w31 h=>aT (aW.callQ Dq (tT U  r30 w31) rfl .nil) rfl fun x32=>aJ (fR rfl) rfl<|aE rfl ?_
     refine fY (by exact rfl) (by exact rfl) (fun hp33=>?_) (fun hp33=>?_)
     ·have h:=BK hp33 h
      refine aI rfl<|aI rfl<|aI rfl<|aI rfl<|aI rfl<|aI rfl<|aI rfl<|aI rfl<|aI rfl<|cE rfl<|aU ?_
      exact cZ (true) () h SF rfl
     have h:=sM hp33 h
     refine aL rfl (cF rfl rfl rfl rfl rfl) rfl<|aL rfl (cT 0 rfl rfl rfl rfl rfl) rfl<|cP rfl<|fJ h fun j34 h=>aL rfl (a_ rfl rfl (fP rfl) rfl rfl j34) rfl<|aL rfl (cW rfl rfl rfl rfl rfl) rfl<|mS (v:=v1) (ds:=p0.2.2) bK (fP rfl) fun us35=>?_
     refine cJ (bD ((bT (f:=bW) (fP rfl) j34.1 (by first|exact j34.2|simpa using j34.2)):aM _ _ (Sl bF (at' us35 a10) ((at' p0.2.2 a10).2)))) ?_
     refine aL rfl (wD (gv:=fun x=>x) rfl (fP rfl) rfl rfl rfl nZ ⟨j34.1,by first|exact j34.2|simpa using j34.2⟩) rfl<|cP rfl<|fO h fun r36 w37 h=>eX rfl (aW.callQ MM (BO U (at' us35 a10) r36 w37) rfl (gO [0] rfl)) rfl fun x38=>aL rfl (fR rfl) rfl<|cI rfl<|aU ?_
     exact cK ((!r36)) () h SF (bH.refl _) (gO [3,4] rfl)
    intro a17 b18 h
    refine gP h rfl (fun _ h=>?_) fun _ h=>?_
    ·refine aZ<|aK rfl<|aU<|bE<|aR<|cG<|aR<|aR<|cG<|aR ?_
     cases h
     exact yR rfl
    refine cC<|aZ<|aK rfl<|aU<|aY<|fW (oH p0 a10 (bZ (iU U p0 p1) k12)) (fun a22 b23=>[(1,vI (p1)),(2,vP b1),(5,vI (a10)),(6,vI (a22))]) (fun a22 b23=>[bJ b1 [vS (p0.1),v0,v1] 42]) (0:Int) () h SF (bH.refl _) ?_
    intro k24 a22 b23 h
    refine aP<|aZ<|aE rfl<|aE rfl<|dL rfl<|aU ?_
    refine gT h rfl (fun h=>?_) fun h=>?_
    ·refine cC<|aP<|aY<|aP ?_
     refine CC [0,1,0,7,15,31,0,64,0,448,960,1984,4095] 12 mixedOrders ?_
     refine eD rfl<|gM 0 rfl<|dG rfl<|fJ h fun j26 h=>dK rfl .nil (jY 1 rfl) (a_ rfl rfl (dN rfl) rfl rfl j26) bG.z<|zE rfl (cW rfl rfl rfl rfl rfl)<|dK rfl .nil (jY 1 rfl) (fN rfl (dN rfl) rfl rfl rfl kA j26) bG.z<|eD rfl<|gM 0 rfl<|dG rfl<|fJ h fun j27 h=>dK rfl .nil (jY 1 rfl) (a_ rfl rfl (dN rfl) rfl rfl j27) bG.z<|zE rfl (cW rfl rfl rfl rfl rfl)<|dK rfl .nil (jY 1 rfl) (fN rfl (dN rfl) rfl rfl rfl kA j27) bG.z<|cX 12 rfl rfl<|dQ rfl<|aU ?_
     refine gT h rfl (fun h=>?_) fun h=>?_
     ·refine aZ<|aK rfl<|aU<|bE<|cG<|aR<|aR<|cG<|cG<|aR<|aR<|cG<|aR ?_
      cases h
      exact yR rfl
     refine eJ<|lP<|aS<|aE rfl<|dM rfl<|aK rfl<|aU ?_
     exact BR (wI .i64 (a22+(1:Int))) () h SF rfl
    refine Cp<|nO<|nO<|Fb<|lP ?_
    exact cZ () (()) h SF rfl
   intro a14 b15 h
   unfold rQ at h
   refine aS<|aE rfl<|dM rfl<|aK rfl<|aU ?_
   exact BR (wI .i64 (a10+(1:Int))) () h SF rfl
  refine eQ ?_
  exact cK () (()) h SF .nil (aV.refl _ _)
 intro a6 b7 h
 unfold rP at h
 refine aZ<|aK rfl<|aU<|bE ?_
 cases h
 exact kF rfl
end
section
def yK  (a4:cU):Option cU:=
 some (a4)
def tP (p0:cH) (a10:cU×Int) (ag9:(cU×Int)->Option cU):Option cU:=
 if a10.2<(List.length p0.2.1:Int)then(ck (0<=a10.2∧a10.2<(List.length p0.2.1:Int)) (ck ((List.length a10.1:Int)+(List.length ([((at' p0.2.1 a10.2).2.1)]):Int)<=1099511627) (ag9 ((a10.1++([((at' p0.2.1 a10.2).2.1)])),(wI .i64 (a10.2+(1:Int)))))))else(yK  (a10.1))
def vF (U:Nat) (p0:cH):Option cU:=
 bZ (tP p0) U (([]:cU),(0:Int))
theorem Ve:bO Tryz.prog 83:=Tryz.call83
theorem IP (U:Nat) {p0:cH} (v0:Value)  (v1:Value) (r:cU) (h:vF U p0=some r):
  bQ Tryz.prog 83 #[Value.agg #[vS (p0.1),v0,v1]] [Sl aF v0 p0.2.1,Sl aD v1 p0.2.2] (fun x:Value=>x) (fun x l=>Ar gZ x r::l) (fun _ l=>l):=by
 refine bQ.of Tryz.func83 rfl Tryz.ntmps83 rfl fun c=>?_
 unfold vF at h
 refine aZ<|aT (aW.box (cs:=[vS (p0.1),v0,v1]) rfl rfl) rfl fun b1=>aK rfl<|aU<|aZ<|aK rfl<|aU<|aP<|Ep (B:=Value) (fun a4=>yK  a4=some r) (fun a4 b5=>[(3,b5)]) (fun a4 b5=>[Ar gZ b5 a4]) ?_ ?_
 ·refine aZ<|aK rfl<|aU<|aY<|cJ (d_ gZ)<|fW (B:=Value) (tP p0) (fun a10 b11=>[(1,vP b1),(3,b11),(4,vI (a10.2))]) (fun a10 b11=>[bJ b1 [vS (p0.1),v0,v1] 25,Ar gZ b11 a10.1]) (([]:cU),(0:Int)) (fX) h SF (bH.ix [1,0] rfl rfl) ?_
  intro k12 a10 b11 h
  refine aP<|aZ<|aE rfl<|bP rfl<|dC 0 rfl<|eC (dN rfl) rfl<|dL rfl<|aU ?_
  refine gT h rfl (fun h=>?_) fun h=>?_
  ·refine cC<|aP<|aY<|aS<|aE rfl<|bP rfl<|dC 0 rfl<|aE rfl<|fJ h fun j14 h=>aJ (a_ rfl rfl (dN rfl) rfl rfl j14) rfl<|aJ (cW rfl rfl rfl rfl rfl) rfl<|aJ (fN rfl (dN rfl) rfl rfl rfl C_ j14) rfl<|aT (dJ (e:=gZ) ([((at' p0.2.1 a10.2).2.1)]) [(0,vI ((at' p0.2.1 a10.2).2.1))] rfl rfl rfl rfl (Bc (vI ((at' p0.2.1 a10.2).2.1)) rfl) rfl rfl rfl) rfl fun u15=>fJ h fun j17 h=>aT (dP 2 jF rfl rfl rfl (aM.ar (aM.res 0 rfl) jF) rfl rfl rfl rfl j17 rfl) rfl fun u16=>aK rfl<|fQ<|lP<|aS<|aE rfl<|dM rfl<|aK rfl<|aU ?_
   exact dZ ((a10.1++([((at' p0.2.1 a10.2).2.1)])),(wI .i64 (a10.2+(1:Int)))) (u16) h SF (bH.ix [1,2] rfl rfl) (aV.refl _ _)
  refine eQ ?_
  exact cK (a10.1) (b11) h SF (bH.ix [1] rfl rfl) (aV.refl _ _)
 intro a4 b5 h
 unfold yK at h
 refine aZ<|aE rfl<|aK rfl<|aU<|bE ?_
 cases h
 exact uD (b5) rfl rfl (RV.tmp rfl) (bH.refl _) aV.nil
end
section
def tO  (a14:Unit):Option (Int):=
 some (0:Int)
def qB (U:Nat) (p0:cH) (a18:Int) (ag17:(Int)->Option (Int)):Option (Int):=
 if a18<(List.length p0.2.2:Int)then(ck (0<=a18∧a18<(List.length p0.2.2:Int)) (Option.bind (vF U ((p0.1,p0.2.1,p0.2.2))) fun r24=>(Option.bind (zW U ((((at' p0.2.2 a18).1),((at' p0.2.2 a18).2.1),((at' p0.2.2 a18).2.2))) r24) fun r27=>(if(!r27)=true then(some (6:Int))else(ag17 (wI .i64 (a18+(1:Int))))))))else(tO  (()))
def tM (U:Nat) (p0:cH) (a12:Unit):Option (Int):=
 bZ (qB U p0) U (0:Int)
def qC (U:Nat) (p0:cH) (a33:Int) (ag32:(Int)->Option (Int)):Option (Int):=
 if a33<(List.length p0.2.2:Int)then(ck (0<=a33∧a33<(List.length p0.2.2:Int)) (Option.bind (yA U ((((at' p0.2.2 a33).1),((at' p0.2.2 a33).2.1),((at' p0.2.2 a33).2.2))) (List.length p0.2.1:Int)) fun r39=>(if(!r39)=true then(some (7:Int))else(ag32 (wI .i64 (a33+(1:Int)))))))else(tM U p0 (()))
def tK (U:Nat) (p0:cH) (a10:Unit):Option (Int):=
 bZ (qC U p0) U (0:Int)
def qD (U:Nat) (p0:cH) (a45:Int) (ag44:(Int)->Option (Int)):Option (Int):=
 if a45<(List.length p0.2.1:Int)then(ck (0<=a45∧a45<(List.length p0.2.1:Int)) (Option.bind (wM U ((((at' p0.2.1 a45).1),((at' p0.2.1 a45).2.1),((at' p0.2.1 a45).2.2.1),((at' p0.2.1 a45).2.2.2.1),((at' p0.2.1 a45).2.2.2.2.1),((at' p0.2.1 a45).2.2.2.2.2)))) fun r50=>(if(!r50)=true then(some (2:Int))else(ag44 (wI .i64 (a45+(1:Int)))))))else(tK U p0 (()))
def yJ (U:Nat) (p0:cH) (a3:Bool):Option (Int):=
 if a3=true then(some (3:Int))else(Option.bind (zV U ((p0.1,p0.2.1,p0.2.2))) fun r6=>(if(!r6)=true then(some (5:Int))else(bZ (qD U p0) U (0:Int))))
def zT (U:Nat) (p0:cH):Option (Int):=
 Option.bind (mX U (List.length p0.2.1:Int) (1:Int) (6:Int)) fun r54=>(if(!r54)=true then(yJ U p0 (true))else(yJ U p0 (decide ((12:Int)<(List.length p0.2.2:Int)))))
theorem UO:bO Tryz.prog 52:=Tryz.call52
theorem IN (U:Nat) {p0:cH} (v0:Value)  (v1:Value) (r:Int) (h:zT U p0=some r):
  bQ Tryz.prog 52 #[Value.agg #[vS (p0.1),v0,v1]] [Sl aF v0 p0.2.1,Sl aD v1 p0.2.2] (fun x:Unit=>vI (r)) (fun x l=>l) (fun _ l=>l):=by
 refine bQ.of Tryz.func52 rfl Tryz.ntmps52 rfl fun c=>?_
 refine aZ<|aT (aW.box (cs:=[vS (p0.1),v0,v1]) rfl rfl) rfl fun b1=>aK rfl<|aU<|aP<|aP<|dD (fun a3=>yJ U p0 a3=some r) (fun a3 b4=>[(1,vP b1),(16,vB (a3))]) (fun a3 b4=>[bJ b1 [vS (p0.1),v0,v1] 25]) ?_ ?_
 ·refine aS<|bP rfl<|dC 0 rfl<|eC (dN rfl) rfl<|fO h fun r54 w55 h=>aT (aW.callQ Dq (tT U  r54 w55) rfl .nil) rfl fun x56=>aJ (fR rfl) rfl<|aE rfl ?_
  refine fY (by exact rfl) (by exact rfl) (fun hp57=>?_) (fun hp57=>?_)
  ·have h:=BK hp57 h
   refine aI rfl<|aI rfl<|aI rfl<|aI rfl<|cE rfl<|aU ?_
   exact cZ (true) () h SF rfl
  have h:=sM hp57 h
  refine aL rfl (cF rfl rfl rfl rfl rfl) rfl<|aL rfl (cT 0 rfl rfl rfl rfl rfl) rfl<|aL rfl (dR rfl (fP rfl) rfl) rfl<|aL rfl (kT rfl rfl) rfl<|cI rfl<|aU ?_
  exact cZ (decide ((12:Int)<(List.length p0.2.2:Int))) () h SF rfl
 intro a3 b4 h
 refine gP h rfl (fun _ h=>?_) fun _ h=>?_
 ·refine aZ<|aK rfl<|aU<|bE<|aR ?_
  cases h
  exact yR rfl
 refine cC<|aP<|aZ<|iC 0 rfl<|fO h fun r6 w7 h=>aT (aW.callQ U_ (IR U v0 v1 r6 w7) rfl (gO [0,1] rfl)) rfl fun x8=>aJ (fR rfl) rfl<|aU ?_
 refine gP h rfl (fun _ h=>?_) fun _ h=>?_
 ·refine aZ<|aK rfl<|aU<|bE<|aR ?_
  cases h
  exact yR rfl
 refine cC<|aP<|dD (fun a10=>tK U p0 a10=some r) (fun a10 b11=>[(1,vP b1)]) (fun a10 b11=>[bJ b1 [vS (p0.1),v0,v1] 25]) ?_ ?_
 ·refine aZ<|aK rfl<|aU<|aY<|fW (qD U p0) (fun a45 b46=>[(1,vP b1),(3,vI (a45))]) (fun a45 b46=>[bJ b1 [vS (p0.1),v0,v1] 25]) (0:Int) () h SF (bH.refl _) ?_
  intro k47 a45 b46 h
  refine aP<|aZ<|aE rfl<|bP rfl<|dC 0 rfl<|eC (dN rfl) rfl<|dL rfl<|aU ?_
  refine gT h rfl (fun h=>?_) fun h=>?_
  ·refine cC<|aP<|aY<|aZ<|bP rfl<|dC 0 rfl<|aE rfl<|fJ h fun j49 h=>aJ (a_ rfl rfl (dN rfl) rfl rfl j49) rfl<|aJ (gI (cs:=[vS ((at' p0.2.1 a45).1),vI ((at' p0.2.1 a45).2.1),vI ((at' p0.2.1 a45).2.2.1),vI ((at' p0.2.1 a45).2.2.2.1),vI ((at' p0.2.1 a45).2.2.2.2.1),vI ((at' p0.2.1 a45).2.2.2.2.2)]) rfl (dN rfl) aQ rfl rfl rfl rfl j49) rfl<|fO h fun r50 w51 h=>aT (aW.callQ Va (Ha U  r50 w51) rfl .nil) rfl fun x52=>aJ (fR rfl) rfl<|aU ?_
   refine gP h rfl (fun _ h=>?_) fun _ h=>?_
   ·refine aZ<|aK rfl<|aU<|bE<|cG<|aR<|aR<|cG<|aR ?_
    cases h
    exact yR rfl
   refine eJ<|lP<|aS<|aE rfl<|dM rfl<|aK rfl<|aU ?_
   exact BR (wI .i64 (a45+(1:Int))) () h SF rfl
  refine eQ ?_
  exact cZ () (()) h SF rfl
 intro a10 b11 h
 unfold tK at h
 refine aP<|dD (fun a12=>tM U p0 a12=some r) (fun a12 b13=>[(1,vP b1)]) (fun a12 b13=>[bJ b1 [vS (p0.1),v0,v1] 25]) ?_ ?_
 ·refine aZ<|aK rfl<|aU<|aY<|fW (qC U p0) (fun a33 b34=>[(1,vP b1),(4,vI (a33))]) (fun a33 b34=>[bJ b1 [vS (p0.1),v0,v1] 25]) (0:Int) () h SF (bH.refl _) ?_
  intro k35 a33 b34 h
  refine aP<|aZ<|aE rfl<|bP rfl<|dC 0 rfl<|eC (fP rfl) rfl<|dL rfl<|aU ?_
  refine gT h rfl (fun h=>?_) fun h=>?_
  ·refine cC<|aP<|aY<|aP ?_
   refine CC [0,1,0,7,15,0,32,96,255,511] 8 mixedOrders ?_
   refine eD rfl<|gM 0 rfl<|dG rfl<|fJ h fun j37 h=>dK rfl .nil (jY 1 rfl) (a_ rfl rfl (dN rfl) rfl rfl j37) bG.z<|oJ (v:=v1) (ds:=p0.2.2) aO (fP rfl) fun us38=>?_
   refine JR.stp (bD ((e_ (bT (f:=aC) (fP rfl) j37.1 (by first|exact j37.2|simpa using j37.2))):aM _ _ (Sl bF ((at' us38 a33).1) ((at' p0.2.2 a33).2.1)))) ?_
   refine JR.stp (bD ((fA (bT (f:=aC) (rA rfl) j37.1 (by first|exact j37.2|simpa using j37.2))):aM _ _ (Sl aX ((at' us38 a33).2) ((at' p0.2.2 a33).2.2)))) ?_
   refine dK rfl .nil (jY 2 rfl) (dY (cs:=[vS ((at' p0.2.2 a33).1),(at' us38 a33).1,(at' us38 a33).2]) rfl (dN rfl) rfl rfl rfl rfl ⟨j37.1,by first|exact j37.2|simpa using j37.2⟩) bG.z<|eD rfl<|gM 0 rfl<|dK rfl .nil (jY 4 rfl) (dR rfl (dN rfl) rfl) bG.z<|cX 8 rfl rfl<|fO h fun r39 w40 h=>aT (aW.callQ Vb (Ir U ((at' us38 a33).1) ((at' us38 a33).2) r39 w40) rfl (gO [1,0] rfl)) rfl fun x41=>aJ (fR rfl) rfl<|aU ?_
   refine gP h rfl (fun _ h=>?_) fun _ h=>?_
   ·refine aZ<|aK rfl<|aU<|bE<|cG<|aR<|aR<|cG<|aR ?_
    cases h
    exact yR rfl
   refine eJ<|lP<|aS<|aE rfl<|dM rfl<|aK rfl<|aU ?_
   exact dZ (wI .i64 (a33+(1:Int))) () h SF (bH.refl _) (gO [4,5] rfl)
  refine eQ ?_
  exact cZ () (()) h SF rfl
 intro a12 b13 h
 unfold tM at h
 refine aP<|dD (fun a14=>tO  a14=some r) (fun a14 b15=>[]) (fun a14 b15=>[]) ?_ ?_
 ·refine aZ<|aK rfl<|aU<|aY<|fW (qB U p0) (fun a18 b19=>[(1,vP b1),(5,vI (a18))]) (fun a18 b19=>[bJ b1 [vS (p0.1),v0,v1] 25]) (0:Int) () h SF (bH.refl _) ?_
  intro k20 a18 b19 h
  refine aP<|aZ<|aE rfl<|bP rfl<|dC 0 rfl<|eC (fP rfl) rfl<|dL rfl<|aU ?_
  refine gT h rfl (fun h=>?_) fun h=>?_
  ·refine cC<|aP<|aY<|aP ?_
   refine CC [0,1,0,7,15,0,32,127,255] 7 mixedOrders ?_
   refine eD rfl<|gM 0 rfl<|dG rfl<|fJ h fun j22 h=>dK rfl .nil (jY 1 rfl) (a_ rfl rfl (dN rfl) rfl rfl j22) bG.z<|oJ (v:=v1) (ds:=p0.2.2) aO (fP rfl) fun us23=>?_
   refine JR.stp (bD ((e_ (bT (f:=aC) (fP rfl) j22.1 (by first|exact j22.2|simpa using j22.2))):aM _ _ (Sl bF ((at' us23 a18).1) ((at' p0.2.2 a18).2.1)))) ?_
   refine JR.stp (bD ((fA (bT (f:=aC) (rA rfl) j22.1 (by first|exact j22.2|simpa using j22.2))):aM _ _ (Sl aX ((at' us23 a18).2) ((at' p0.2.2 a18).2.2)))) ?_
   refine dK rfl .nil (jY 2 rfl) (dY (cs:=[vS ((at' p0.2.2 a18).1),(at' us23 a18).1,(at' us23 a18).2]) rfl (dN rfl) rfl rfl rfl rfl ⟨j22.1,by first|exact j22.2|simpa using j22.2⟩) bG.z<|Cc 0 rfl<|fO h fun r24 w25 h=>JR.loud rfl rfl rfl (aW.callQ Ve (IP U v0 v1 r24 w25) rfl (gO [4,5] rfl)) rfl (fun x26=>(pH [([],[2]),([],[5]),([1],[])] rfl)) fun x26=>cX 7 rfl rfl<|fO h fun r27 w28 h=>aT (aW.callQ Vd (IS U ((at' us23 a18).1) ((at' us23 a18).2) x26 r27 w28) rfl (aV.cons (fP rfl) (aV.cons (dN rfl) (aV.cons (aM.ar (aM.res 0 rfl) jF) .nil)))) rfl fun x29=>aJ (fR rfl) rfl<|aU ?_
   refine gP h rfl (fun _ h=>?_) fun _ h=>?_
   ·refine aZ<|aK rfl<|aU<|bE<|cG<|aR<|aR<|cG<|aR ?_
    cases h
    exact yR rfl
   refine eJ<|lP<|aS<|aE rfl<|dM rfl<|aK rfl<|aU ?_
   exact dZ (wI .i64 (a18+(1:Int))) () h SF (bH.ix [1] rfl rfl) (gO [4,5] rfl)
  refine eQ ?_
  exact cK () (()) h SF .nil (aV.refl _ _)
 intro a14 b15 h
 unfold tO at h
 refine aZ<|aK rfl<|aU<|bE ?_
 cases h
 exact kF rfl
end
section
def pD (U:Nat) (p0:cH):Option (Bool):=
 Option.bind (zT U ((p0.1,p0.2.1,p0.2.2))) fun r2=>(some (decide (r2=(0:Int))))
theorem JY:bO Tryz.prog 25:=Tryz.call25
theorem Aq (U:Nat) {p0:cH} (v0:Value)  (v1:Value) (r:Bool) (h:pD U p0=some r):
  bQ Tryz.prog 25 #[Value.agg #[vS (p0.1),v0,v1]] [Sl aF v0 p0.2.1,Sl aD v1 p0.2.2] (fun x:Unit=>vB (r)) (fun x l=>l) (fun _ l=>l):=by
 refine bQ.of Tryz.func25 rfl Tryz.ntmps25 rfl fun c=>?_
 refine aZ<|aT (aW.box (cs:=[vS (p0.1),v0,v1]) rfl rfl) rfl fun b1=>aK rfl<|aU<|aZ<|iC 0 rfl<|fO h fun r2 w3 h=>aT (aW.callQ UO (IN U v0 v1 r2 w3) rfl (gO [0,1] rfl)) rfl fun x4=>dQ rfl<|aK rfl<|aU<|bE ?_
 cases h
 exact yR rfl
end
end Go.Proofs.YthnplbmmlbnelaaGreat
end
section
namespace Go.Proofs.YthnplbmmlbnelaaGreat
open Go Go.Sx
section
abbrev ST:=Int×List TM
abbrev RL:=ByteArray×List TM×List ST
abbrev PG:=ByteArray×List VR×List RL
open Classical in
noncomputable def He (vars:Int) (e:List TM):Bool:=decide (∃x,XV vars e x)
theorem CR {vars:Int} {e:List TM}:He vars e=true↔∃x,XV vars e x:=by unfold He;simp
theorem TO (F:Nat) (e:List TM) (vars:Int) (hl:e.length<=900) (hF:1000<=F):iR F e vars=some (He vars e):=by
 obtain⟨b,h1,_,h3⟩:=E_ F e vars hl hF
 rw[h1];congr 1;exact Bool.eq_iff_iff.2 (h3.trans CR.symm)
theorem VO (F:Nat) (e:List TM) (vars:Int) (hl:e.length<=900) (hF:1000<=F):kV F e vars=some (He vars e):=by
 obtain⟨b,_,h1,h3⟩:=E_ F e vars hl hF
 rw[h1];congr 1;exact Bool.eq_iff_iff.2 (h3.trans CR.symm)
open Classical in
noncomputable def PI (ks:cU) (e:List TM):Int:=if h:∃x,XV ks.length e x then(Classical.choose h).ty ks false else 0
theorem Xq (F:Nat) {e:List TM} {ks:cU} (h:He ks.length e=true) (hk:∀k∈ks,Nc k=true) (h6:ks.length<=6) (hF:1000<=F):∃c,zM F e ks false=some (PI ks e,c):=by
 have h':=CR.1 h
 have e:PI ks e=(Classical.choose h').ty ks false:=by unfold PI;rw[dif_pos h']
 rw[e]
 exact⟨_,tOf F (Classical.choose_spec h') hk h6 false hF⟩
theorem WX (F:Nat) {e:List TM} {ks:cU} (h:He ks.length e=true) (hF:1000<=F):gR F e 0 ks false=some (PI ks e):=by
 have h':=CR.1 h
 unfold PI
 rw[dif_pos h']
 exact rKd F (Classical.choose_spec h') false hF
section
variable {κ:Type} [DecidableEq κ]
def Oh (l:List κ):List (κ×Bool):=l.foldl (fun m x=>AK x true m) []
theorem Pu (x y:κ) (m:List (κ×Bool)):uN y (AK x true m)=if y=x then some true else uN y m:=by
 induction m with
 |nil=>simp[AK,uN]
 | cons z m ih =>
  simp only[AK]
  by_cases h:x=z.1
  ·rw[if_pos h]
   simp only[uN]
   by_cases h2:y=x
   ·rw[if_pos h2];simp[h2]
   ·rw[if_neg h2,if_neg h2,if_neg (by rw[<-h];exact h2)]
  ·rw[if_neg h]
   simp only[uN,ih]
   by_cases h2:y=z.1
   ·rw[if_pos h2,if_pos h2,if_neg (by rw[h2];exact fun e=>h e.symm)]
   ·rw[if_neg h2,if_neg h2]
theorem CG (l:List κ) (x:κ):Oh (l++[x])=AK x true (Oh l):=by simp[Oh]
theorem Kq (y:κ):∀n (l:List κ),l.length=n->(uN y (Oh l)).getD false=decide (y∈l):=by
 intro n
 induction n with
 |zero=>intro l h;have:l=[]:=List.eq_nil_of_length_eq_zero h;subst this;simp[Oh,uN]
 | succ n ih =>
  intro l h
  rcases List.eq_nil_or_concat l with rfl|⟨l',x,rfl⟩
  ·simp at h
  ·rw[List.concat_eq_append]at h ⊢
   rw[CG,Pu]
   have:=ih l' (by simpa using h)
   by_cases hx:y=x
   ·simp[hx]
   ·rw[if_neg hx,this];simp[hx]
end
def Ni {κ:Type} [DecidableEq κ] (l:List κ) (k:Nat):Bool:= !decide (∃x,l[k]? = some x∧x∈l.take k)
theorem Ku {κ:Type} [DecidableEq κ] {l:List κ} {k:Nat} {x:κ} (h:l[k]? = some x):Ni l k = !decide (x∈l.take k):=by
 unfold Ni;congr 1;simp[h]
theorem Kt {κ:Type} [DecidableEq κ] {l:List κ} {k:Nat} {x:κ} (h:l[k]? = some x) (g:Nat->κ) (hg:∀j,j<k->l[j]? = some (g j)):(List.range k).all (fun j=> !decide (g j=x))=Ni l k:=by
 rw[Ku h,Bool.eq_iff_iff,List.all_eq_true]
 simp only[List.mem_range,Bool.not_eq_true',decide_eq_false_iff_not]
 constructor
 ·intro hh hm
  obtain⟨j,hj⟩:=List.getElem?_of_mem hm
  have hjk:j<k:=by
   have:=bN hj
   rw[List.length_take]at this;omega
  rw[List.getElem?_take,if_pos hjk,hg j hjk]at hj
  exact hh j hjk (Option.some.inj hj)
 ·intro hn j hj e
  refine hn (List.mem_of_getElem? (i:=j) ?_)
  rw[List.getElem?_take,if_pos hj,hg j hj,e]
theorem sL {α:Type} [Inhabited α] {l:List α} {k:Nat} (h:k<l.length):l[k]? = some (at' l (k:Int)):=pT (xs:=l) (i:=(k:Int)) (by omega) (by omega)
theorem uR {α:Type} [Inhabited α] {l:List α} {k:Nat} (h:k<l.length):l.take (k+1)=l.take k++[at' l (k:Int)]:=by
 rw[List.take_add_one,sL h];rfl
theorem Fp (a b:ByteArray):eR a b=decide (a=b):=by
 unfold eR
 rw[Lib.toList_data,Lib.toList_data]
 obtain⟨⟨x⟩⟩:=a
 obtain⟨⟨y⟩⟩:=b
 rw[Bool.eq_iff_iff,decide_eq_true_eq]
 simp
def PT (p:PG):List ByteArray:=p.2.1.map fun v=>v.1
def PS (p:PG):List ByteArray:=p.2.2.map fun r=>r.1
def PU (r:RL):List Int:=r.2.2.map fun s=>s.1
theorem Ks {p:PG} {k:Nat} (h:k<p.2.1.length):(PT p)[k]? = some (at' p.2.1 (k:Int)).1:=by unfold PT;rw[List.getElem?_map,sL h];rfl
theorem Kr {p:PG} {k:Nat} (h:k<p.2.2.length):(PS p)[k]? = some (at' p.2.2 (k:Int)).1:=by unfold PS;rw[List.getElem?_map,sL h];rfl
theorem KP {r:RL} {k:Nat} (h:k<r.2.2.length):(PU r)[k]? = some (at' r.2.2 (k:Int)).1:=by unfold PU;rw[List.getElem?_map,sL h];rfl
def IG (p:PG):Bool:=KU p.1&&(List.range p.2.1.length).all (fun k=>KU (at' p.2.1 (k:Int)).1&&Ni (PT p) k)&&(List.range p.2.2.length).all (fun k=>KU (at' p.2.2 (k:Int)).1&&Ni (PS p) k)
theorem Wa (F:Nat) (p:PG) (hv:p.2.1.length<=20) (hr:p.2.2.length<=20) (hF:1000<=F):zZ F p=some (IG p):=by
 unfold zZ IG
 rw[bU (RY F p.1 (by omega))]
 have e1:=fE (step:=nN F p) (K:=tZ F p ()) (bad:=some false) p.2.1.length (fun k=>KU (at' p.2.1 (k:Int)).1&&Ni (PT p) k) (fun k=>((k:Int),Oh ((PT p).take k))) (fun k ag hk=>by
  have hx:(PT p)[k]? = some (at' p.2.1 (k:Int)).1:=Ks hk
  unfold nN zD
  dsimp only
  rw[if_pos (by omega),eP (by omega),bU (RY F _ (by omega)),Kq _ _ _ rfl,wr (by omega) (by omega),Ku hx]
  have h2:Oh ((PT p).take (k+1))=AK (at' p.2.1 (k:Int)).1 true (Oh ((PT p).take k)):=by
   rw[<-CG,List.take_add_one,hx];rfl
  rw[h2]
  cases KU (at' p.2.1 (k:Int)).1<;>by_cases hm:(at' p.2.1 (k:Int)).1∈(PT p).take k<;>simp[hm]) (fun ag=>by unfold nN;rw[if_neg (by simp)]) F (by omega)
 have e2:=fE (step:=nM F p) (K:=t_ ()) (bad:=some false) p.2.2.length (fun k=>KU (at' p.2.2 (k:Int)).1&&Ni (PS p) k) (fun k=>((k:Int),Oh ((PS p).take k))) (fun k ag hk=>by
  have hx:(PS p)[k]? = some (at' p.2.2 (k:Int)).1:=Kr hk
  unfold nM zC
  dsimp only
  rw[if_pos (by omega),eP (by omega),bU (RY F _ (by omega)),Kq _ _ _ rfl,wr (by omega) (by omega),Ku hx]
  have h2:Oh ((PS p).take (k+1))=AK (at' p.2.2 (k:Int)).1 true (Oh ((PS p).take k)):=by
   rw[<-CG,List.take_add_one,hx];rfl
  rw[h2]
  cases KU (at' p.2.2 (k:Int)).1<;>by_cases hm:(at' p.2.2 (k:Int)).1∈(PS p).take k<;>simp[hm]) (fun ag=>by unfold nM;rw[if_neg (by simp)]) F (by omega)
 have e1:bZ (nN F p) F ((0:Int),([]:List (ByteArray×Bool)))=_:=e1
 have e2:bZ (nM F p) F ((0:Int),([]:List (ByteArray×Bool)))=_:=e2
 rw[e1]
 unfold tZ
 rw[e2]
 unfold t_
 cases KU p.1<;>cases (List.range p.2.1.length).all _<;>cases (List.range p.2.2.length).all _<;>simp
theorem VK (F:Nat) (p:PG) (hv:p.2.1.length<=20) (hr:p.2.2.length<=20) (hF:1000<=F):zV F p=some (IG p):=by
 unfold zV IG
 rw[bU (RD F p.1 (by omega))]
 have e1:=fE (step:=lO F p) (K:=tQ F p ()) (bad:=some false) p.2.1.length (fun k=>KU (at' p.2.1 (k:Int)).1&&Ni (PT p) k) (fun k=>(k:Int)) (fun k ag hk=>by
  have hx:(PT p)[k]? = some (at' p.2.1 (k:Int)).1:=Ks hk
  unfold lO
  rw[if_pos (by omega)]
  have i:=fE (step:=qG F p (k:Int) ag) (K:=yM F p (k:Int) ag ()) (bad:=some false) k (fun j=> !decide ((at' p.2.1 (j:Int)).1=(at' p.2.1 (k:Int)).1)) (fun j=>(j:Int)) (fun j ag' hj=>by
   unfold qG
   rw[if_pos (by omega),eP (by omega),eP (by omega),Fp,wr (by omega) (by omega)]
   by_cases hm:(at' p.2.1 (j:Int)).1=(at' p.2.1 (k:Int)).1<;>simp[hm]) (fun ag'=>by unfold qG;rw[if_neg (by omega)]) F (by omega)
  rw[Kt hx (fun j=>(at' p.2.1 (j:Int)).1) (fun j hj=>Ks (by omega))]at i
  have i:bZ (qG F p (k:Int) ag) F (0:Int)=_:=i
  rw[i]
  unfold yM
  rw[eP (by omega),bU (RD F _ (by omega)),wr (by omega) (by omega)]
  cases Ni (PT p) k<;>cases KU (at' p.2.1 (k:Int)).1<;>simp) (fun ag=>by unfold lO;rw[if_neg (by simp)]) F (by omega)
 have e2:=fE (step:=lN F p) (K:=tR ()) (bad:=some false) p.2.2.length (fun k=>KU (at' p.2.2 (k:Int)).1&&Ni (PS p) k) (fun k=>(k:Int)) (fun k ag hk=>by
  have hx:(PS p)[k]? = some (at' p.2.2 (k:Int)).1:=Kr hk
  unfold lN
  rw[if_pos (by omega)]
  have i:=fE (step:=qF F p (k:Int) ag) (K:=yL F p (k:Int) ag ()) (bad:=some false) k (fun j=> !decide ((at' p.2.2 (j:Int)).1=(at' p.2.2 (k:Int)).1)) (fun j=>(j:Int)) (fun j ag' hj=>by
   unfold qF
   rw[if_pos (by omega),eP (by omega),eP (by omega),Fp,wr (by omega) (by omega)]
   by_cases hm:(at' p.2.2 (j:Int)).1=(at' p.2.2 (k:Int)).1<;>simp[hm]) (fun ag'=>by unfold qF;rw[if_neg (by omega)]) F (by omega)
  rw[Kt hx (fun j=>(at' p.2.2 (j:Int)).1) (fun j hj=>Kr (by omega))]at i
  have i:bZ (qF F p (k:Int) ag) F (0:Int)=_:=i
  rw[i]
  unfold yL
  rw[eP (by omega),bU (RD F _ (by omega)),wr (by omega) (by omega)]
  cases Ni (PS p) k<;>cases KU (at' p.2.2 (k:Int)).1<;>simp) (fun ag=>by unfold lN;rw[if_neg (by simp)]) F (by omega)
 have e1:bZ (lO F p) F (0:Int)=_:=e1
 have e2:bZ (lN F p) F (0:Int)=_:=e2
 rw[e1]
 unfold tQ
 rw[e2]
 unfold tR
 cases KU p.1<;>cases (List.range p.2.1.length).all _<;>cases (List.range p.2.2.length).all _<;>simp
noncomputable def Mn (r:RL) (vars:Nat):Bool:=decide (1<=r.2.2.length)&&decide (r.2.2.length<=6)&&He vars r.2.1&&(List.range r.2.2.length).all (fun k=>decide (0<=(at' r.2.2 (k:Int)).1)&&decide ((at' r.2.2 (k:Int)).1<=(vars:Int) - 1)&&Ni (PU r) k&&He vars (at' r.2.2 (k:Int)).2)
theorem s_ {α:Type} [Inhabited α] {l:List α} {k:Nat} (h:k<l.length):at' l (k:Int)∈l:=List.mem_of_getElem? (sL h)
theorem TK (F:Nat) (r:RL) (vars:Nat) (hvn:vars<=20) (hs:r.2.2.length<=20) (hg:r.2.1.length<=400) (hx:∀s∈r.2.2,s.2.length<=400) (hF:1000<=F):yD F r (vars:Int)=some (Mn r vars):=by
 unfold yD rU Mn
 by_cases h1:1<=r.2.2.length
 ·by_cases h2:r.2.2.length<=6
  ·rw[if_neg (by omega),if_neg (by omega),bU (TO F _ _ (by omega) hF)]
   have e1:=fE (step:=lW F r (vars:Int)) (K:=rV ()) (bad:=some false) r.2.2.length (fun k=>decide (0<=(at' r.2.2 (k:Int)).1)&&decide ((at' r.2.2 (k:Int)).1<=(vars:Int) - 1)&&Ni (PU r) k&&He vars (at' r.2.2 (k:Int)).2) (fun k=>((k:Int),Oh ((PU r).take k))) (fun k ag hk=>by
    have hx':(PU r)[k]? = some (at' r.2.2 (k:Int)).1:=KP hk
    have hv:=hx _ (s_ hk)
    unfold lW rW
    dsimp only
    rw[if_pos (by omega),eP (by omega),wr (x:=(vars:Int) - 1) (by omega) (by omega),bU (OA F _ _ _),bU (TO F _ _ (by omega) hF),Kq _ _ _ rfl,wr (by omega) (by omega),Ku hx']
    have h2:Oh ((PU r).take (k+1))=AK (at' r.2.2 (k:Int)).1 true (Oh ((PU r).take k)):=by
     rw[<-CG,List.take_add_one,hx'];rfl
    rw[h2]
    cases decide (0<=(at' r.2.2 (k:Int)).1)<;>cases decide ((at' r.2.2 (k:Int)).1<=(vars:Int) - 1)<;>by_cases hm:(at' r.2.2 (k:Int)).1∈(PU r).take k<;>cases He vars (at' r.2.2 (k:Int)).2<;>simp[hm]) (fun ag=>by unfold lW;rw[if_neg (by simp)]) F (by omega)
   have e1:bZ (lW F r (vars:Int)) F ((0:Int),([]:List (Int×Bool)))=_:=e1
   rw[e1]
   unfold rV
   cases He vars r.2.1<;>cases (List.range r.2.2.length).all _<;>simp[h1,h2]
  ·rw[if_neg (by omega),if_pos (by omega)];simp[h2]
 ·rw[if_pos (by omega)];simp[h1]
theorem TG (F:Nat) (r:RL) (vars:Nat) (hvn:vars<=20) (hs:r.2.2.length<=20) (hg:r.2.1.length<=400) (hx:∀s∈r.2.2,s.2.length<=400) (hF:1000<=F):yA F r (vars:Int)=some (Mn r vars):=by
 unfold yA w_ Mn
 rw[bU (Hs F _ _ _),bU (VO F _ _ (by omega) hF)]
 have e1:=fE (step:=iU F r (vars:Int)) (K:=rP ()) (bad:=some false) r.2.2.length (fun k=>decide (0<=(at' r.2.2 (k:Int)).1)&&decide ((at' r.2.2 (k:Int)).1<=(vars:Int) - 1)&&Ni (PU r) k&&He vars (at' r.2.2 (k:Int)).2) (fun k=>(k:Int)) (fun k ag hk=>by
  have hx':(PU r)[k]? = some (at' r.2.2 (k:Int)).1:=KP hk
  have hv:=hx _ (s_ hk)
  unfold iU xA
  rw[if_pos (by omega),eP (by omega),wr (x:=(vars:Int) - 1) (by omega) (by omega),bU (Hs F _ _ _),eP (by omega),bU (VO F _ _ (by omega) hF)]
  have i:=fE (step:=oH r (k:Int) ag) (K:=rQ (k:Int) ag ()) (bad:=some false) k (fun j=> !decide ((at' r.2.2 (j:Int)).1=(at' r.2.2 (k:Int)).1)) (fun j=>(j:Int)) (fun j ag' hj=>by
   unfold oH
   rw[if_pos (by omega),eP (by omega),eP (by omega),wr (by omega) (by omega)]
   by_cases h:(at' r.2.2 (j:Int)).1=(at' r.2.2 (k:Int)).1
   ·rw[if_pos h];simp[h]
   ·rw[if_neg h];simp[h]) (fun ag'=>by unfold oH;rw[if_neg (by omega)]) F (by omega)
  rw[Kt hx' (fun j=>(at' r.2.2 (j:Int)).1) (fun j hj=>KP (by omega))]at i
  have i:bZ (oH r (k:Int) ag) F (0:Int)=_:=i
  rw[i]
  unfold rQ
  rw[wr (by omega) (by omega)]
  cases decide (0<=(at' r.2.2 (k:Int)).1)<;>cases decide ((at' r.2.2 (k:Int)).1<=(vars:Int) - 1)<;>cases Ni (PU r) k<;>cases He vars (at' r.2.2 (k:Int)).2<;>simp) (fun ag=>by unfold iU;rw[if_neg (by simp)]) F (by omega)
 have e1:bZ (iU F r (vars:Int)) F (0:Int)=_:=e1
 rw[e1]
 unfold rP
 by_cases h1:1<=r.2.2.length
 ·by_cases h2:r.2.2.length<=6
  ·cases He vars r.2.1<;>cases (List.range r.2.2.length).all _<;>simp[h1,h2]<;>omega
  ·simp[h2];omega
 ·simp[h1];omega
end
section
def Gq (p:PG):cU:=p.2.1.map fun v=>v.2.1
theorem CF (p:PG):(Gq p).length=p.2.1.length:=by simp[Gq]
theorem Of {p:PG} {k:Nat} (h:k<p.2.1.length):(Gq p)[k]? = some (at' p.2.1 (k:Int)).2.1:=by unfold Gq;rw[List.getElem?_map,sL h];rfl
theorem V_ (F:Nat) (p:PG) (hv:p.2.1.length<=20) (hF:1000<=F):zY F p=some (Gq p):=by
 unfold zY
 rw[eP (by omega)]
 have e:=gK (step:=tY p) (K:=some (Gq p)) p.2.1.length (fun k=>((k:Int),(Gq p).take k++List.replicate (p.2.1.length - k) (0:Int))) (fun k ag hk=>by
  have hl:((Gq p).take k).length=k:=by rw[List.length_take,CF];omega
  unfold tY
  dsimp only
  rw[if_pos (by omega),eP (by omega),eP (by simp[hl];omega),wr (by omega) (by omega),Int.toNat_natCast]
  congr 2
  have hr:List.replicate (p.2.1.length - k) (0:Int)=0::List.replicate (p.2.1.length - (k+1)) 0:=by
   rw[show p.2.1.length - k=p.2.1.length - (k+1)+1 by omega,List.replicate_succ]
  rw[hr,Gv _ _ _ _ k hl,List.take_add_one,Of hk]
  simp) (fun ag=>by
  unfold tY zB
  dsimp only
  rw[if_neg (by omega)]
  rw[<-CF p,List.take_length];simp) F (by omega)
 simp only[List.take_zero,List.nil_append,Nat.sub_zero]at e
 rw[Int.toNat_natCast]
 exact e
theorem VI (F:Nat) (p:PG) (hv:p.2.1.length<=20) (hF:1000<=F):vF F p=some (Gq p):=by
 unfold vF
 have e:=gK (step:=tP p) (K:=some (Gq p)) p.2.1.length (fun k=>((Gq p).take k,(k:Int))) (fun k ag hk=>by
  have hl:((Gq p).take k).length=k:=by rw[List.length_take,CF];omega
  unfold tP
  dsimp only
  rw[if_pos (by omega),eP (by omega),eP (by simp[hl];omega),wr (by omega) (by omega),List.take_add_one,Of hk]
  rfl) (fun ag=>by
  unfold tP yK
  dsimp only
  rw[if_neg (by omega)]
  rw[<-CF p,List.take_length]) F (by omega)
 simpa using e
noncomputable def PH (r:RL) (ks:cU):Bool:=decide (PI ks r.2.1=2)&&(List.range r.2.2.length).all (fun k=>decide (PI ks (at' r.2.2 (k:Int)).2=at' ks (at' r.2.2 (k:Int)).1))
structure Hz (r:RL) (vars:Nat):Prop where
 n1:1<=r.2.2.length
 n6:r.2.2.length<=6
 guard:He vars r.2.1=true
 var:∀k,k<r.2.2.length->0<=(at' r.2.2 (k:Int)).1∧(at' r.2.2 (k:Int)).1<vars
 val:∀k,k<r.2.2.length->He vars (at' r.2.2 (k:Int)).2=true
theorem MV {r:RL} {vars:Nat} (h:Mn r vars=true):Hz r vars:=by
 unfold Mn at h
 simp only[Bool.and_eq_true,decide_eq_true_eq,List.all_eq_true,List.mem_range]at h
 obtain⟨⟨⟨h1,h2⟩,h3⟩,h4⟩:=h
 exact⟨h1,h2,h3,fun k hk=>⟨(h4 k hk).1.1.1,by have:=(h4 k hk).1.1.2;omega⟩,fun k hk=>(h4 k hk).2⟩
theorem Wb (F:Nat) {r:RL} {ks:cU} (hr:Hz r ks.length) (hk:∀k∈ks,Nc k=true) (h6:ks.length<=6) (hF:1000<=F):z_ F r ks=some (PH r ks):=by
 have n6:=hr.n6
 unfold z_ PH
 obtain⟨c,hc⟩:=Xq F hr.guard hk h6 hF
 rw[bU hc]
 dsimp only
 have e:=fE (step:=qR F r ks) (K:=uA ()) (bad:=some false) r.2.2.length (fun k=>decide (PI ks (at' r.2.2 (k:Int)).2=at' ks (at' r.2.2 (k:Int)).1)) (fun k=>(k:Int)) (fun k ag hkk=>by
  obtain⟨c,hc⟩:=Xq F (hr.val k hkk) hk h6 hF
  have hv:=hr.var k hkk
  unfold qR
  rw[if_pos (by omega),eP (by omega),bU hc,eP hv,wr (by omega) (by omega)]
  dsimp only
  by_cases h:PI ks (at' r.2.2 (k:Int)).2=at' ks (at' r.2.2 (k:Int)).1
  ·rw[if_neg (by simpa using h)];simp[h]
  ·rw[if_pos h];simp[h]) (fun ag=>by unfold qR;rw[if_neg (by omega)]) F (by omega)
 have e:bZ (qR F r ks) F (0:Int)=_:=e
 rw[e]
 unfold uA
 by_cases h:PI ks r.2.1=2
 ·rw[if_neg (by simpa using h)];cases (List.range r.2.2.length).all _<;>simp[h]
 ·rw[if_pos h];simp[h]
theorem VN (F:Nat) {r:RL} {ks:cU} (hr:Hz r ks.length) (hF:1000<=F):zW F r ks=some (PH r ks):=by
 have n6:=hr.n6
 unfold zW PH
 rw[bU (WX F hr.guard hF)]
 have e:=fE (step:=qH F r ks) (K:=tS ()) (bad:=some false) r.2.2.length (fun k=>decide (PI ks (at' r.2.2 (k:Int)).2=at' ks (at' r.2.2 (k:Int)).1)) (fun k=>(k:Int)) (fun k ag hkk=>by
  have hv:=hr.var k hkk
  unfold qH
  rw[if_pos (by omega),eP (by omega),bU (WX F (hr.val k hkk) hF),eP (by omega),eP hv,wr (by omega) (by omega)]
  by_cases h:PI ks (at' r.2.2 (k:Int)).2=at' ks (at' r.2.2 (k:Int)).1
  ·rw[if_neg (by simpa using h)];simp[h]
  ·rw[if_pos h];simp[h]) (fun ag=>by unfold qH;rw[if_neg (by omega)]) F (by omega)
 have e:bZ (qH F r ks) F (0:Int)=_:=e
 rw[e]
 unfold tS
 by_cases h:PI ks r.2.1=2
 ·rw[if_neg (by simpa using h)];cases (List.range r.2.2.length).all _<;>simp[h]
 ·rw[if_pos h];simp[h]
structure AD (p:PG):Prop where
 v:p.2.1.length<=20
 r:p.2.2.length<=20
 g:∀q∈p.2.2,q.2.1.length<=400∧q.2.2.length<=20∧∀s∈q.2.2,s.2.length<=400
noncomputable def Wj (p:PG):Int:=
 if p.2.1.length=0∨6<p.2.1.length∨12<p.2.2.length then 3 else if IG p=false then 5
 else if(List.range p.2.1.length).all (fun k=>EW (at' p.2.1 (k:Int)))=false then 2
 else if(List.range p.2.2.length).all (fun k=>Mn (at' p.2.2 (k:Int)) p.2.1.length)=false then 7
 else if(List.range p.2.2.length).all (fun k=>PH (at' p.2.2 (k:Int)) (Gq p))=false then 6 else 0
theorem Rn {p:PG} (h:(List.range p.2.1.length).all (fun k=>EW (at' p.2.1 (k:Int)))=true):∀k∈Gq p,Nc k=true:=by
 intro k hk
 unfold Gq at hk
 obtain⟨v,hv,rfl⟩:=List.mem_map.1 hk
 obtain⟨i,hi⟩:=List.getElem?_of_mem hv
 have hlt:=bN hi
 have:=List.all_eq_true.1 h i (List.mem_range.2 hlt)
 rw[sL hlt]at hi
 rw[Option.some.inj hi]at this
 unfold EW at this
 by_cases h1:v.2.1=1
 ·simp[Nc,h1]
 ·rw[if_pos h1]at this
  simp only[Bool.and_eq_true]at this
  exact this.1.1.1.1
theorem VY (F:Nat) {p:PG} (hp:AD p) (hF:1000<=F):zX F p=some (Wj p):=by
 have hv:=hp.v
 have hr:=hp.r
 unfold zX tV Wj
 by_cases h0:p.2.1.length=0
 ·rw[if_pos (by omega),if_pos rfl,if_pos (.inl h0)]
 by_cases h6:6<p.2.1.length
 ·rw[if_neg (by omega),if_pos (by omega),if_pos rfl,if_pos (.inr (.inl h6))]
 by_cases h12:12<p.2.2.length
 ·rw[if_neg (by omega),if_neg (by omega),if_pos (by simp;omega),if_pos (.inr (.inr h12))]
 rw[if_neg (by omega),if_neg (by omega),if_neg (by simp;omega),if_neg (by omega)]
 rw[bU (Wa F p hv hr hF)]
 cases hn:IG p
 ·rw[if_pos (by decide),if_pos rfl]
 rw[if_neg (by decide),if_neg (by decide)]
 have e3:=fE (step:=qN F p) (K:=tW F p ()) (bad:=some 2) p.2.1.length (fun k=>EW (at' p.2.1 (k:Int))) (fun k=>(k:Int)) (fun k ag hk=>by
  unfold qN
  rw[if_pos (by omega),eP (by omega),bU (Xp F _),wr (by omega) (by omega)]
  show(if(!EW (at' p.2.1 (k:Int)))=true then _ else _)=_
  cases EW (at' p.2.1 (k:Int))<;>simp) (fun ag=>by unfold qN;rw[if_neg (by omega)]) F (by omega)
 have e3:bZ (qN F p) F (0:Int)=_:=e3
 rw[e3]
 cases hnum:(List.range p.2.1.length).all (fun k=>EW (at' p.2.1 (k:Int)))
 ·rw[if_neg (by decide),if_pos rfl]
 rw[if_pos rfl,if_neg (by decide)]
 unfold tW
 have e2:=fE (step:=qM F p) (K:=zA F p ()) (bad:=some 7) p.2.2.length (fun k=>Mn (at' p.2.2 (k:Int)) p.2.1.length) (fun k=>(k:Int)) (fun k ag hk=>by
  obtain⟨g1,g2,g3⟩:=hp.g _ (s_ hk)
  unfold qM
  rw[if_pos (by omega),eP (by omega),bU (TK F _ p.2.1.length hv g2 g1 g3 hF),wr (by omega) (by omega)]
  show(if(!Mn (at' p.2.2 (k:Int)) p.2.1.length)=true then _ else _)=_
  cases Mn (at' p.2.2 (k:Int)) p.2.1.length<;>simp) (fun ag=>by unfold qM;rw[if_neg (by omega)]) F (by omega)
 have e2:bZ (qM F p) F (0:Int)=_:=e2
 rw[e2]
 cases hfm:(List.range p.2.2.length).all (fun k=>Mn (at' p.2.2 (k:Int)) p.2.1.length)
 ·rw[if_neg (by decide),if_pos rfl]
 rw[if_pos rfl,if_neg (by decide)]
 unfold zA
 rw[bU (V_ F p hv hF)]
 have hks:=Rn hnum
 have e1:=fE (step:=qL F p (Gq p)) (K:=tX ()) (bad:=some 6) p.2.2.length (fun k=>PH (at' p.2.2 (k:Int)) (Gq p)) (fun k=>(k:Int)) (fun k ag hk=>by
  have hok:=MV (List.all_eq_true.1 hfm k (List.mem_range.2 hk))
  unfold qL
  rw[if_pos (by omega),eP (by omega),bU (Wb F (r:=at' p.2.2 (k:Int)) (ks:=Gq p) (by rw[CF];exact hok) hks (by rw[CF];omega) hF),wr (by omega) (by omega)]
  show(if(!PH (at' p.2.2 (k:Int)) (Gq p))=true then _ else _)=_
  cases PH (at' p.2.2 (k:Int)) (Gq p)<;>simp) (fun ag=>by unfold qL;rw[if_neg (by omega)]) F (by omega)
 have e1:bZ (qL F p (Gq p)) F (0:Int)=_:=e1
 rw[e1]
 unfold tX
 cases (List.range p.2.2.length).all (fun k=>PH (at' p.2.2 (k:Int)) (Gq p))
 ·rw[if_neg (by decide),if_pos rfl]
 ·rw[if_pos rfl,if_neg (by decide)]
theorem VF (F:Nat) {p:PG} (hp:AD p) (hF:1000<=F):zT F p=some (Wj p):=by
 have hv:=hp.v
 have hr:=hp.r
 unfold zT yJ Wj
 rw[bU (Hs F _ _ _)]
 by_cases h0:p.2.1.length=0
 ·rw[if_pos (by simp[h0]),if_pos rfl,if_pos (.inl h0)]
 by_cases h6:6<p.2.1.length
 ·rw[if_pos (by simp;omega),if_pos rfl,if_pos (.inr (.inl h6))]
 by_cases h12:12<p.2.2.length
 ·rw[if_neg (by simp;omega),if_pos (by simp;omega),if_pos (.inr (.inr h12))]
 rw[if_neg (by simp;omega),if_neg (by simp;omega),if_neg (by omega)]
 rw[bU (VK F p hv hr hF)]
 cases hn:IG p
 ·rw[if_pos (by decide),if_pos rfl]
 rw[if_neg (by decide),if_neg (by decide)]
 have e3:=fE (step:=qD F p) (K:=tK F p ()) (bad:=some 2) p.2.1.length (fun k=>EW (at' p.2.1 (k:Int))) (fun k=>(k:Int)) (fun k ag hk=>by
  unfold qD
  rw[if_pos (by omega),eP (by omega),bU (W_ F _),wr (by omega) (by omega)]
  show(if(!EW (at' p.2.1 (k:Int)))=true then _ else _)=_
  cases EW (at' p.2.1 (k:Int))<;>simp) (fun ag=>by unfold qD;rw[if_neg (by omega)]) F (by omega)
 have e3:bZ (qD F p) F (0:Int)=_:=e3
 rw[e3]
 cases hnum:(List.range p.2.1.length).all (fun k=>EW (at' p.2.1 (k:Int)))
 ·rw[if_neg (by decide),if_pos rfl]
 rw[if_pos rfl,if_neg (by decide)]
 unfold tK
 have e2:=fE (step:=qC F p) (K:=tM F p ()) (bad:=some 7) p.2.2.length (fun k=>Mn (at' p.2.2 (k:Int)) p.2.1.length) (fun k=>(k:Int)) (fun k ag hk=>by
  obtain⟨g1,g2,g3⟩:=hp.g _ (s_ hk)
  unfold qC
  rw[if_pos (by omega),eP (by omega),bU (TG F _ p.2.1.length hv g2 g1 g3 hF),wr (by omega) (by omega)]
  show(if(!Mn (at' p.2.2 (k:Int)) p.2.1.length)=true then _ else _)=_
  cases Mn (at' p.2.2 (k:Int)) p.2.1.length<;>simp) (fun ag=>by unfold qC;rw[if_neg (by omega)]) F (by omega)
 have e2:bZ (qC F p) F (0:Int)=_:=e2
 rw[e2]
 cases hfm:(List.range p.2.2.length).all (fun k=>Mn (at' p.2.2 (k:Int)) p.2.1.length)
 ·rw[if_neg (by decide),if_pos rfl]
 rw[if_pos rfl,if_neg (by decide)]
 unfold tM
 have e1:=fE (step:=qB F p) (K:=tO ()) (bad:=some 6) p.2.2.length (fun k=>PH (at' p.2.2 (k:Int)) (Gq p)) (fun k=>(k:Int)) (fun k ag hk=>by
  have hok:=MV (List.all_eq_true.1 hfm k (List.mem_range.2 hk))
  unfold qB
  rw[if_pos (by omega),eP (by omega),bU (VI F p hv hF),bU (VN F (r:=at' p.2.2 (k:Int)) (ks:=Gq p) (by rw[CF];exact hok) hF),wr (by omega) (by omega)]
  show(if(!PH (at' p.2.2 (k:Int)) (Gq p))=true then _ else _)=_
  cases PH (at' p.2.2 (k:Int)) (Gq p)<;>simp) (fun ag=>by unfold qB;rw[if_neg (by omega)]) F (by omega)
 have e1:bZ (qB F p) F (0:Int)=_:=e1
 rw[e1]
 unfold tO
 cases (List.range p.2.2.length).all (fun k=>PH (at' p.2.2 (k:Int)) (Gq p))
 ·rw[if_neg (by decide),if_pos rfl]
 ·rw[if_pos rfl,if_neg (by decide)]
noncomputable def Gc (p:PG):Bool:=decide (Wj p=0)
theorem KH (F:Nat) {p:PG} (hp:AD p) (hF:1000<=F):pE F p=some (Gc p):=by
 unfold pE;rw[bU (VY F hp hF)];rfl
theorem Ky (F:Nat) {p:PG} (hp:AD p) (hF:1000<=F):pD F p=some (Gc p):=by
 unfold pD;rw[bU (VF F hp hF)];rfl
structure VP (p:PG):Prop where
 v1:1<=p.2.1.length
 v6:p.2.1.length<=6
 r12:p.2.2.length<=12
 nm:IG p=true
 rl:∀k,k<p.2.2.length->Hz (at' p.2.2 (k:Int)) p.2.1.length
theorem CZ {p:PG} (h:Gc p=true):VP p:=by
 unfold Gc at h
 rw[decide_eq_true_eq]at h
 unfold Wj at h
 split at h
 ·cases h
 rename_i h1
 split at h
 ·cases h
 rename_i h2
 split at h
 ·cases h
 split at h
 ·cases h
 rename_i h4
 exact⟨by omega,by omega,by omega,by cases hn:IG p<;>simp_all,fun k hk=>MV (List.all_eq_true.1 (by cases hq:(List.range p.2.2.length).all (fun k=>Mn (at' p.2.2 (k:Int)) p.2.1.length)<;>simp_all) k (List.mem_range.2 hk))⟩
end
end Go.Proofs.YthnplbmmlbnelaaGreat
end
section
namespace Go.Proofs.YthnplbmmlbnelaaGreat
open Go.Sx
section
def yX  (a12:cS):Option qT:=
 some (a12,(0:Int))
def tU (a17:Int×cS) (ag16:(Int×cS)->Option qT) (a22:cS):Option qT:=
 ag16 ((wI .i64 (a17.1+(1:Int))),a22)
def yY (p1:cU) (a17:Int×cS) (ag16:(Int×cS)->Option qT) (a27:Bool):Option qT:=
 if a27=true then(ck (0<=((at' a17.2 a17.1).2)∧((at' a17.2 a17.1).2)<(List.length p1:Int)) (ck (0<=a17.1∧a17.1<(List.length a17.2:Int)) (tU a17 ag16 (List.set a17.2 (Int.toNat a17.1) (((at' a17.2 a17.1).1),(at' p1 ((at' a17.2 a17.1).2)))))))else(tU a17 ag16 (a17.2))
def nJ (p0:cS) (p1:cU) (a17:Int×cS) (ag16:(Int×cS)->Option qT):Option qT:=
 if a17.1<(List.length p0:Int)then(ck (0<=a17.1∧a17.1<(List.length a17.2:Int)) (if((at' a17.2 a17.1).1)=(5:Int)then(yY p1 a17 ag16 (true))else(yY p1 a17 ag16 (decide (((at' a17.2 a17.1).1)=(12:Int))))))else(yX  (a17.2))
def yW (U:Nat) (p0:cS) (p1:cU) (a5:Unit):Option qT:=
 ck (0<=(List.length p0:Int)∧(List.length p0:Int)<=1099511627) (ck (List.length (List.replicate (Int.toNat (List.length p0:Int)) ((0:Int),(0:Int)))=List.length p0) (bZ (nJ p0 p1) U ((0:Int),p0)))
def yZ (a36:Int) (ag35:(Int)->Option qT) (a42:Bool):Option qT:=
 if a42=true then(some (([]:cS),(2:Int)))else(ag35 (wI .i64 (a36+(1:Int))))
def nK (U:Nat) (p0:cS) (p1:cU) (a36:Int) (ag35:(Int)->Option qT):Option qT:=
 if a36<(List.length p1:Int)then(ck (0<=a36∧a36<(List.length p1:Int)) (if(at' p1 a36)<(0:Int)then(yZ a36 ag35 (true))else(yZ a36 ag35 (decide ((6:Int)<=(at' p1 a36))))))else(yW U p0 p1 (()))
def vG (U:Nat) (p0:cS) (p1:cU):Option qT:=
 Option.bind (iR U p0 (List.length p1:Int)) fun r1=>(if(!r1)=true then(some (([]:cS),(7:Int)))else(bZ (nK U p0 p1) U (0:Int)))
theorem QA:bO Tryz.prog 51:=Tryz.call51
theorem EF (U:Nat) {p0:cS} {p1:cU} (v0:Value)  (v1:Value) (r:cS×Int) (h:vG U p0 p1=some r):
  bQ Tryz.prog 51 #[v0,v1] [Sl bF v0 p0,Sl gS v1 p1] (fun x:Value=>Value.tuple #[x,vI (r.2)]) (fun x l=>Ar cD x r.1::l) (fun _ l=>l):=by
 refine bQ.of Tryz.func51 rfl Tryz.ntmps51 rfl fun c=>?_
 refine aZ<|aK rfl<|aK rfl<|aU<|aP<|aZ<|aE rfl<|aE rfl<|eC (fP rfl) rfl<|fO h fun r1 w2 h=>aT (aW.callQ HG (yU U v0 r1 w2) rfl (gO [0] rfl)) rfl fun x3=>aJ (fR rfl) rfl<|aU ?_
 refine gP h rfl (fun _ h=>?_) fun _ h=>?_
 ·refine aZ<|aK rfl<|aK rfl<|aU<|bE<|aR<|cJ (d_ cD) ?_
  cases h
  exact fB (fX) rfl rfl (RV.tmp rfl) (RV.tmp rfl) (bH.refl _) aV.nil
 refine cC<|aP<|dD (fun a5=>yW U p0 p1 a5=some r) (fun a5 b6=>[(0,v0),(1,v1)]) (fun a5 b6=>[]) ?_ ?_
 ·refine aZ<|aE rfl<|eC (fP rfl) rfl<|aE rfl<|aU<|aY<|fW (nK U p0 p1) (fun a36 b37=>[(0,v0),(1,v1),(16,v1),(17,vI (List.length p1:Int)),(18,vI (a36))]) (fun a36 b37=>[]) (0:Int) () h SF (bH.refl _) ?_
  intro k38 a36 b37 h
  refine aZ<|dL rfl<|aU<|aP ?_
  refine gT h rfl (fun h=>?_) fun h=>?_
  ·refine cC<|aP<|aY<|aZ<|fJ h fun j40 h=>aJ (a_ rfl rfl (fP rfl) rfl rfl j40) rfl<|aJ (iN rfl (fP rfl) rfl rfl rfl mT j40) rfl<|aK rfl<|aU<|aP<|dD (fun a42=>yZ a36 (bZ (nK U p0 p1) k38) a42=some r) (fun a42 b43=>[(0,v0),(1,v1),(16,v1),(17,vI (List.length p1:Int)),(18,vI (a36)),(27,vB (a42))]) (fun a42 b43=>[]) ?_ ?_
   ·refine aS<|aE rfl<|dL rfl<|aE rfl ?_
    refine oD h rfl (fun _ h=>?_) fun _ h=>?_
    ·refine aI rfl<|aI rfl<|cE rfl<|aU ?_
     exact cZ (true) () h SF rfl
    refine cP rfl<|aL rfl (jM rfl rfl) rfl<|cI rfl<|aU ?_
    exact cZ (decide ((6:Int)<=(at' p1 a36))) () h SF rfl
   intro a42 b43 h
   refine gP h rfl (fun _ h=>?_) fun _ h=>?_
   ·refine aZ<|aK rfl<|aK rfl<|aU<|bE<|cG<|aR<|aR<|cG<|aR<|cJ (d_ cD) ?_
    cases h
    exact fB (fX) rfl rfl (RV.tmp rfl) (RV.tmp rfl) (bH.refl _) aV.nil
   refine eJ<|lP<|aS<|dM rfl<|aE rfl<|aU ?_
   exact BR (wI .i64 (a36+(1:Int))) () h SF rfl
  refine eQ ?_
  exact cZ () (()) h SF rfl
 intro a5 b6 h
 refine aZ<|aE rfl<|eC (dN rfl) rfl<|fJ h fun j7 h=>aT (Cq (e:=cD) (((0:Int),(0:Int))) rfl rfl rfl rfl j7 rfl rfl rfl) rfl fun u8=>aK rfl<|aU<|aZ<|aE rfl<|aE rfl<|fJ h fun j9 h=>aT (My 0 cO rfl rfl rfl (dN rfl) rfl rfl rfl j9) rfl fun x10=>aU<|aP<|dD (fun a12=>yX  a12=some r) (fun a12 b13=>[(8,u8)]) (fun a12 b13=>[Ar cD u8 a12]) ?_ ?_
 ·refine aZ<|aE rfl<|aJ (dR rfl (aM.ar (aM.res 0 rfl) cO) rfl) rfl<|aE rfl<|aU<|aY<|fW (nJ p0 p1) (fun a17 b18=>[(1,v1),(8,u8),(35,u8),(36,vI (List.length p0:Int)),(37,vI (a17.1))]) (fun a17 b18=>[Ar cD u8 a17.2]) ((0:Int),p0) () h SF (bH.refl _) ?_
  intro k19 a17 b18 h
  refine aZ<|dL rfl<|aU<|aP ?_
  refine gT h rfl (fun h=>?_) fun h=>?_
  ·refine cC<|aP<|dD (fun a22=>tU a17 (bZ (nJ p0 p1) k19) a22=some r) (fun a22 b23=>[(1,v1),(8,u8),(35,u8),(36,vI (List.length p0:Int)),(37,vI (a17.1))]) (fun a22 b23=>[Ar cD u8 a22]) ?_ ?_
   ·refine aY<|aZ<|aE rfl<|fJ h fun j24 h=>aJ (a_ rfl rfl (aM.ar (aM.res 0 rfl) cO) rfl rfl j24) rfl<|aJ (gI (cs:=[vI ((at' a17.2 a17.1).1),vI ((at' a17.2 a17.1).2)]) rfl (aM.ar (aM.res 0 rfl) cO) cO rfl rfl rfl rfl j24) rfl<|aT (aW.alloc (cs:=XD) rfl rfl) rfl fun b25=>aK rfl<|bL 0 (vs:=[vI ((at' a17.2 a17.1).1),vI ((at' a17.2 a17.1).2)]) rfl rfl rfl rfl rfl rfl<|aU<|aP<|dD (fun a27=>yY p1 a17 (bZ (nJ p0 p1) k19) a27=some r) (fun a27 b28=>[(1,v1),(8,u8),(9,vI (a17.1)),(10,vP b25),(35,u8),(36,vI (List.length p0:Int)),(37,vI (a17.1)),(49,vB (a27))]) (fun a27 b28=>[bJ b25 [vI ((at' a17.2 a17.1).1),vI ((at' a17.2 a17.1).2)] 84,Ar cD u8 a17.2]) ?_ ?_
    ·refine aS<|bP rfl<|dC 0 rfl<|dQ rfl<|aE rfl ?_
     refine oD h rfl (fun _ h=>?_) fun _ h=>?_
     ·refine aI rfl<|aI rfl<|aI rfl<|cE rfl<|aU ?_
      exact cZ (true) () h SF rfl
     refine aL rfl (cF rfl rfl rfl rfl rfl) rfl<|aL rfl (cT 0 rfl rfl rfl rfl rfl) rfl<|aL rfl (mU rfl rfl) rfl<|cI rfl<|aU ?_
     exact cZ (decide (((at' a17.2 a17.1).1)=(12:Int))) () h SF rfl
    intro a27 b28 h
    refine gP h rfl (fun _ h=>?_) fun _ h=>?_
    ·refine aS<|aE rfl<|aE rfl<|aE rfl<|bP rfl<|dC 0 rfl<|fJ h fun j30 h=>aJ (a_ rfl rfl (fP rfl) rfl rfl j30) rfl<|aJ (iN rfl (fP rfl) rfl rfl rfl mT j30) rfl<|fJ h fun j31 h=>aJ (a_ rfl rfl (aM.ar (aM.res 1 rfl) cO) rfl rfl j31) rfl<|aJ (cW rfl rfl rfl rfl rfl) rfl<|JJ (Dj (us:=[vI (at' p1 ((at' a17.2 a17.1).2))]) (o:=1) 1 ((((at' a17.2 a17.1).1),(at' p1 ((at' a17.2 a17.1).2)))) j31 rfl rfl rfl rfl rfl rfl rfl rfl rfl rfl) fun x32=>fQ<|lP ?_
     exact cK (List.set a17.2 (Int.toNat a17.1) (((at' a17.2 a17.1).1),(at' p1 ((at' a17.2 a17.1).2)))) () h SF (bH.ix [1] rfl rfl) (aV.refl _ _)
    refine eJ<|lP ?_
    exact cK (a17.2) () h SF (bH.ix [1] rfl rfl) (aV.refl _ _)
   intro a22 b23 h
   unfold tU at h
   refine aS<|dM rfl<|aE rfl<|aU ?_
   exact BR ((wI .i64 (a17.1+(1:Int))),a22) () h SF rfl
  refine eQ ?_
  exact cZ (a17.2) () h SF rfl
 intro a12 b13 h
 unfold yX at h
 refine aZ<|aE rfl<|aK rfl<|aK rfl<|aU<|bE ?_
 cases h
 exact fB (u8) rfl rfl (RV.tmp rfl) (RV.tmp rfl) (bH.refl _) aV.nil
end
section
def qU (p0:qZ) (r4:cS×Int) (a11:(List (Int×cS))):Option DV:=
 some ((p0.1,r4.1,a11))
def mV (U:Nat) (p0:qZ) (p1:cU) (r4:cS×Int) (a20:Int×(List (Int×cS))) (ag19:(Int×(List (Int×cS)))->Option DV):Option DV:=
 if a20.1<(List.length p0.2.2:Int)then(ck (0<=a20.1∧a20.1<(List.length p0.2.2:Int)) (Option.bind (vG U ((at' p0.2.2 a20.1).2) p1) fun r28=>(ck (0<=((at' p0.2.2 a20.1).1)∧((at' p0.2.2 a20.1).1)<(List.length p1:Int)) (ck ((List.length a20.2:Int)+(List.length ([((at' p1 ((at' p0.2.2 a20.1).1)),r28.1)]):Int)<=1099511627) (ag19 ((wI .i64 (a20.1+(1:Int))),(a20.2++([((at' p1 ((at' p0.2.2 a20.1).1)),r28.1)]))))))))else(qU p0 r4 (a20.2))
def gW (U:Nat) (p0:qZ) (p1:cU):Option DV:=
 Option.bind (vG U p0.2.1 p1) fun r4=>(bZ (mV U p0 p1 r4) U ((0:Int),([]:nL)))
theorem Gg:bO Tryz.prog 24:=Tryz.call24
theorem lQ (U:Nat) {p0:qZ} {p1:cU} (v0:Value)  (v1:Value)  (v2:Value) (r:Jw) (h:gW U p0 p1=some r):
  bQ Tryz.prog 24 #[Value.agg #[vS (p0.1),v0,v1],v2] [Sl bF v0 p0.2.1,Sl aX v1 p0.2.2,Sl gS v2 p1] (fun x:Value×Value×List (Value)=>Value.agg #[vS (r.1),x.1,x.2.1]) (fun x l=>Ar cD x.1 r.2.1::Ad bI x.2.1 x.2.2 r.2.2::l) (fun x l=>Pw bW x.2.2 r.2.2::l):=by
 refine bQ.of Tryz.func24 rfl Tryz.ntmps24 rfl fun c=>?_
 refine aZ<|aT (aW.box (cs:=[vS (p0.1),v0,v1]) rfl rfl) rfl fun b1=>aT (aW.alloc (cs:=fL) rfl rfl) rfl fun b2=>aU<|aZ<|bP rfl<|dC 1 rfl ?_
 refine aJ (xE (r:=Value.agg #[vS (p0.1),fX,fX]) rfl (by intro w;simp[Instr.build,Instr.fill,b_,bR,bM,cA,cB,bS,cL])) rfl ?_
 refine aT (aW.alloc (cs:=fL) rfl rfl) rfl fun b3=>bL 0 (vs:=[vS (p0.1),fX,fX]) rfl rfl rfl rfl rfl rfl<|aU<|aZ<|bP rfl<|dC 2 rfl<|aE rfl<|fO h fun r4 w5 h=>aT (aW.callQ QA (EF U v0 v2 r4 w5) rfl (gO [0,2] rfl)) rfl fun x6=>aE rfl<|mM rfl<|mM rfl<|bP rfl<|bY (Know.one ((aM.ar (aM.res 0 rfl) cO))) fun ho7=>eS 1 rfl rfl ho7 rfl rfl rfl<|aU<|aP<|iM (B:=Value×List (Value)) (fun a11=>qU p0 r4 a11=some r) (fun a11 b12=>[(4,vP b2),(5,vP b3)]) (fun a11 b12=>[Ar cD x6 r4.1,bJ b3 [vS (p0.1),x6,b12.1] 42,bJ b2 fL 42,Ad bI b12.1 b12.2 a11]) (fun a11 b12=>[Sl bF v0 p0.2.1,Sl aX v1 p0.2.2,Sl gS v2 p1,Pw bW b12.2 a11]) ?_ ?_
 ·refine aZ<|bP rfl<|dC 3 rfl<|eC (fP rfl) rfl<|aE rfl<|aU<|aY<|cJ (xI bI)<|cJ (bD (dB:aM _ _ (Pw bW ([]:lR) ([]:nL))))<|jL (B:=Value×List (Value)) (mV U p0 p1 r4) (fun a20 b21=>[(1,v2),(4,vP b2),(5,vP b3),(22,v1),(23,vI (List.length p0.2.2:Int)),(24,vI (a20.1))]) (fun a20 b21=>[Ar cD x6 r4.1,bJ b3 [vS (p0.1),x6,b21.1] 42,bJ b2 fL 42,Ad bI b21.1 b21.2 a20.2]) (fun a20 b21=>[Sl bF v0 p0.2.1,Sl aX v1 p0.2.2,Sl gS v2 p1,Pw bW b21.2 a20.2]) ((0:Int),([]:nL)) ((fX),([]:lR)) h SF (bH.ix [1,2,3,0] rfl rfl) (gO [1,2,3,0] rfl) ?_
  intro k22 a20 b21 h
  refine aZ<|dL rfl<|aU<|aP ?_
  refine gT h rfl (fun h=>?_) fun h=>?_
  ·refine cC<|aP<|aY<|aZ<|fJ h fun j24 h=>aJ (a_ rfl rfl (fP rfl) rfl rfl j24) rfl<|mS (v:=v1) (ds:=p0.2.2) bK (fP rfl) fun us25=>?_
   refine cJ (bD ((bT (f:=bW) (fP rfl) j24.1 (by first|exact j24.2|simpa using j24.2)):aM _ _ (Sl bF (at' us25 a20.1) ((at' p0.2.2 a20.1).2)))) ?_
   refine aJ (dY (cs:=[vI ((at' p0.2.2 a20.1).1),at' us25 a20.1]) rfl (fP rfl) rfl rfl rfl rfl ⟨j24.1,by first|exact j24.2|simpa using j24.2⟩) rfl<|aT (aW.alloc (cs:=[vI (0:Int),fX]) rfl rfl) rfl fun b26=>bY (Know.one ((dN rfl))) fun ho27=>bL 0 (vs:=[vI ((at' p0.2.2 a20.1).1),at' us25 a20.1]) rfl rfl (cR rfl (cR ho27 rfl)) rfl rfl rfl<|aU<|aZ<|bP rfl<|dC 0 rfl<|aE rfl<|fO h fun r28 w29 h=>aT (aW.callQ QA (EF U (at' us25 a20.1) v2 r28 w29) rfl (gO [0,5] rfl)) rfl fun x30=>aE rfl<|mM rfl<|mM rfl<|aK rfl<|aK rfl<|aU ?_
   refine CC [0,1,0,0,8,28,60,0,252,508,1023,2047,4095] 10 mixedOrders ?_
   refine eD rfl<|gM 3 rfl<|dG rfl<|eD rfl<|gM 1 rfl<|fJ h fun j31 h=>dK rfl .nil (jY 5 rfl) (a_ rfl rfl (dN rfl) rfl rfl j31) bG.z<|dK rfl .nil (jY 5 rfl) (iN rfl (dN rfl) rfl rfl rfl mT j31) bG.z<|dG rfl<|eG (Know.one ((aM.ar (aM.res 0 rfl) cO))) fun ho32=>?_
   refine zE rfl (kY (r:=Value.agg #[vI (at' p1 ((at' p0.2.2 a20.1).1)),x30]) rfl rfl (by intro w;simp[Instr.build,Instr.fill,b_,bR,bM,cA,cB,bS,cL,eY ho32])) ?_
   refine JR.stp (cY [Ar cD x30 r28.1] [bJ b26 [vI ((at' p0.2.2 a20.1).1),at' us25 a20.1] 44,Ar cD x6 r4.1,bJ b3 [vS (p0.1),x6,b21.1] 42,bJ b2 fL 42,Ad bI b21.1 b21.2 a20.2] (bH.ix [0,1,2,3,4,5] rfl rfl) (aM.ar (aM.res 0 rfl) cO))<|JR.stp (bD ((dO (dN rfl) dB):aM _ _ (Pw bW ([x30]) ([((at' p1 ((at' p0.2.2 a20.1).1)),r28.1)]))))<|eG (Know.one ((fP rfl))) fun ho33=>JR.loud rfl rfl rfl (eT (e:=bI) ([x30]) ([(((at' p1 ((at' p0.2.2 a20.1).1)),r28.1))]) [(0,Value.agg #[vI (at' p1 ((at' p0.2.2 a20.1).1)),x30])] rfl rfl rfl rfl (vA (vI (at' p1 ((at' p0.2.2 a20.1).1))) (x30)) rfl rfl (show List.all [vI (at' p1 ((at' p0.2.2 a20.1).1)),x30] one=true from(cR rfl (cR ho33 rfl))) rfl) rfl (fun u34=>(pH [([3],[])] rfl)) fun u34=>cX 10 rfl rfl<|fJ h fun j35 h=>cJ (bD ((eH (bV 8 rfl) (dN rfl)):aM _ _ (Pw bW (b21.2++[x30]) (a20.2++([((at' p1 ((at' p0.2.2 a20.1).1)),r28.1)])))))<|aT (aW.appendD 5 0 rfl rfl rfl rfl rfl rfl rfl rfl j35 rfl) rfl fun u36=>bP rfl<|bY (Know.one ((cV (i:=5) (j:=0) bK rfl rfl))) fun ho37=>eS 3 rfl rfl ho37 rfl rfl rfl<|fQ<|lP<|aS<|dM rfl<|aE rfl<|aU ?_
   exact dZ ((wI .i64 (a20.1+(1:Int))),(a20.2++([((at' p1 ((at' p0.2.2 a20.1).1)),r28.1)]))) (u36,(b21.2++[x30])) h SF (bH.ix [2,3,4,5] rfl rfl) (gO [6,7,8,0] rfl)
  refine eQ ?_
  exact cZ (a20.2) (b21.1,b21.2) h SF rfl
 intro a11 b12 h
 unfold qU at h
 refine aZ<|iC 1 rfl<|bY (Know.one ((aM.ar (aM.res 0 rfl) cO))) fun ho13=>bY (Know.one ((cV (i:=3) (j:=3) bK rfl rfl))) fun ho14=>bL 2 (vs:=[vS (p0.1),x6,b12.1]) rfl rfl (cR rfl (cR ho13 (cR ho14 rfl))) rfl rfl rfl<|aU<|bE ?_
 cases h
 exact uD (x6,b12.1,b12.2) rfl rfl (RV.cell 2 rfl rfl rfl rfl) (bH.ix [0,3] rfl rfl) (gO [3] rfl)
end
section
def wQ  (a10:cS):Option qT:=
 some (a10,(0:Int))
def rK (a15:Int×cS) (ag14:(Int×cS)->Option qT) (a20:cS):Option qT:=
 ag14 ((wI .i64 (a15.1+(1:Int))),a20)
def wR (p1:cU) (a15:Int×cS) (ag14:(Int×cS)->Option qT) (a23:Bool):Option qT:=
 if a23=true then(ck (0<=a15.1∧a15.1<(List.length a15.2:Int)) (ck (0<=((at' a15.2 a15.1).2)∧((at' a15.2 a15.1).2)<(List.length p1:Int)) (ck (0<=a15.1∧a15.1<(List.length a15.2:Int)) (rK a15 ag14 (List.set a15.2 (Int.toNat a15.1) (((at' a15.2 a15.1).1),(at' p1 ((at' a15.2 a15.1).2))))))))else(rK a15 ag14 (a15.2))
def lU (p1:cU) (a15:Int×cS) (ag14:(Int×cS)->Option qT):Option qT:=
 if a15.1<(List.length a15.2:Int)then(ck (0<=a15.1∧a15.1<(List.length a15.2:Int)) (if((at' a15.2 a15.1).1)=(5:Int)then(wR p1 a15 ag14 (true))else(ck (0<=a15.1∧a15.1<(List.length a15.2:Int)) (wR p1 a15 ag14 (decide (((at' a15.2 a15.1).1)=(12:Int)))))))else(wQ  (a15.2))
def wP (U:Nat) (p0:cS) (p1:cU) (a5:Unit):Option qT:=
 ck ((List.length ([]:cS):Int)+(List.length p0:Int)<=1099511627) (bZ (lU p1) U ((0:Int),(([]:cS)++p0)))
def wS (a35:Int) (ag34:(Int)->Option qT) (a40:Bool):Option qT:=
 if a40=true then(some (([]:cS),(2:Int)))else(ag34 (wI .i64 (a35+(1:Int))))
def lV (U:Nat) (p0:cS) (p1:cU) (a35:Int) (ag34:(Int)->Option qT):Option qT:=
 if a35<(List.length p1:Int)then(ck (0<=a35∧a35<(List.length p1:Int)) (if(at' p1 a35)<(0:Int)then(wS a35 ag34 (true))else(ck (0<=a35∧a35<(List.length p1:Int)) (wS a35 ag34 (decide ((6:Int)<=(at' p1 a35)))))))else(wP U p0 p1 (()))
def tH (U:Nat) (p0:cS) (p1:cU):Option qT:=
 Option.bind (kV U p0 (List.length p1:Int)) fun r1=>(if(!r1)=true then(some (([]:cS),(7:Int)))else(bZ (lV U p0 p1) U (0:Int)))
theorem QB:bO Tryz.prog 54:=Tryz.call54
theorem DL (U:Nat) {p0:cS} {p1:cU} (v0:Value)  (v1:Value) (r:cS×Int) (h:tH U p0 p1=some r):
  bQ Tryz.prog 54 #[v0,v1] [Sl bF v0 p0,Sl gS v1 p1] (fun x:Value=>Value.tuple #[x,vI (r.2)]) (fun x l=>Ar cD x r.1::l) (fun _ l=>l):=by
 refine bQ.of Tryz.func54 rfl Tryz.ntmps54 rfl fun c=>?_
 refine aZ<|aK rfl<|aK rfl<|aU<|aP<|aZ<|aE rfl<|aE rfl<|eC (fP rfl) rfl<|fO h fun r1 w2 h=>aT (aW.callQ MM (BO U v0 r1 w2) rfl (gO [0] rfl)) rfl fun x3=>aJ (fR rfl) rfl<|aU ?_
 refine gP h rfl (fun _ h=>?_) fun _ h=>?_
 ·refine aZ<|aK rfl<|aK rfl<|aU<|bE<|aR<|cJ (d_ cD) ?_
  cases h
  exact fB (fX) rfl rfl (RV.tmp rfl) (RV.tmp rfl) (bH.refl _) aV.nil
 refine cC<|aP<|dD (fun a5=>wP U p0 p1 a5=some r) (fun a5 b6=>[(0,v0),(1,v1)]) (fun a5 b6=>[]) ?_ ?_
 ·refine aZ<|aK rfl<|aU<|aY<|fW (lV U p0 p1) (fun a35 b36=>[(0,v0),(1,v1),(6,vI (a35))]) (fun a35 b36=>[]) (0:Int) () h SF (bH.refl _) ?_
  intro k37 a35 b36 h
  refine aP<|aZ<|aE rfl<|aE rfl<|eC (fP rfl) rfl<|dL rfl<|aU ?_
  refine gT h rfl (fun h=>?_) fun h=>?_
  ·refine cC<|aP<|aY<|aP<|dD (fun a40=>wS a35 (bZ (lV U p0 p1) k37) a40=some r) (fun a40 b41=>[(0,v0),(1,v1),(6,vI (a35)),(31,vB (a40))]) (fun a40 b41=>[]) ?_ ?_
   ·refine aS<|aE rfl<|aE rfl<|fJ h fun j43 h=>aJ (a_ rfl rfl (fP rfl) rfl rfl j43) rfl<|aJ (iN rfl (fP rfl) rfl rfl rfl mT j43) rfl<|dL rfl<|aE rfl ?_
    refine oD h rfl (fun _ h=>?_) fun _ h=>?_
    ·refine aI rfl<|aI rfl<|aI rfl<|aI rfl<|aI rfl<|cE rfl<|aU ?_
     exact cZ (true) () h SF rfl
    refine cP rfl<|cP rfl<|fJ h fun j45 h=>aL rfl (a_ rfl rfl (fP rfl) rfl rfl j45) rfl<|aL rfl (iN rfl (fP rfl) rfl rfl rfl mT j45) rfl<|aL rfl (jM rfl rfl) rfl<|cI rfl<|aU ?_
    exact cZ (decide ((6:Int)<=(at' p1 a35))) () h SF rfl
   intro a40 b41 h
   refine gP h rfl (fun _ h=>?_) fun _ h=>?_
   ·refine aZ<|aK rfl<|aK rfl<|aU<|bE<|cG<|aR<|aR<|cG<|aR<|cJ (d_ cD) ?_
    cases h
    exact fB (fX) rfl rfl (RV.tmp rfl) (RV.tmp rfl) (bH.refl _) aV.nil
   refine eJ<|lP<|aS<|aE rfl<|dM rfl<|aK rfl<|aU ?_
   exact BR (wI .i64 (a35+(1:Int))) () h SF rfl
  refine eQ ?_
  exact cZ () (()) h SF rfl
 intro a5 b6 h
 refine aZ<|aE rfl<|cJ (d_ cD)<|fJ h fun j8 h=>aT (dP 0 cO rfl rfl rfl (dN rfl) rfl rfl rfl rfl j8 rfl) rfl fun u7=>aK rfl<|aU<|aP<|dD (fun a10=>wQ  a10=some r) (fun a10 b11=>[(7,u7)]) (fun a10 b11=>[Ar cD u7 a10]) ?_ ?_
 ·refine aZ<|aK rfl<|aU<|aY<|fW (lU p1) (fun a15 b16=>[(1,v1),(7,u7),(8,vI (a15.1))]) (fun a15 b16=>[Ar cD u7 a15.2]) ((0:Int),(([]:cS)++p0)) () h SF (bH.refl _) ?_
  intro k17 a15 b16 h
  refine aP<|aZ<|aE rfl<|aE rfl<|aJ (dR rfl (aM.ar (aM.res 0 rfl) cO) rfl) rfl<|dL rfl<|aU ?_
  refine gT h rfl (fun h=>?_) fun h=>?_
  ·refine cC<|aP<|dD (fun a20=>rK a15 (bZ (lU p1) k17) a20=some r) (fun a20 b21=>[(1,v1),(7,u7),(8,vI (a15.1))]) (fun a20 b21=>[Ar cD u7 a20]) ?_ ?_
   ·refine aY<|aP<|dD (fun a23=>wR p1 a15 (bZ (lU p1) k17) a23=some r) (fun a23 b24=>[(1,v1),(7,u7),(8,vI (a15.1)),(53,vB (a23))]) (fun a23 b24=>[Ar cD u7 a15.2]) ?_ ?_
    ·refine aS<|aE rfl<|aE rfl<|fJ h fun j30 h=>aJ (a_ rfl rfl (aM.ar (aM.res 0 rfl) cO) rfl rfl j30) rfl<|aJ (cW rfl rfl rfl rfl rfl) rfl<|aJ (fN rfl (aM.ar (aM.res 0 rfl) cO) rfl rfl rfl pA j30) rfl<|dQ rfl<|aE rfl ?_
     refine oD h rfl (fun _ h=>?_) fun _ h=>?_
     ·refine aI rfl<|aI rfl<|aI rfl<|aI rfl<|aI rfl<|aI rfl<|cE rfl<|aU ?_
      exact cZ (true) () h SF rfl
     refine cP rfl<|cP rfl<|fJ h fun j32 h=>aL rfl (a_ rfl rfl (aM.ar (aM.res 0 rfl) cO) rfl rfl j32) rfl<|aL rfl (cW rfl rfl rfl rfl rfl) rfl<|aL rfl (fN rfl (aM.ar (aM.res 0 rfl) cO) rfl rfl rfl pA j32) rfl<|aL rfl (mU rfl rfl) rfl<|cI rfl<|aU ?_
     exact cZ (decide (((at' a15.2 a15.1).1)=(12:Int))) () h SF rfl
    intro a23 b24 h
    refine gP h rfl (fun _ h=>?_) fun _ h=>?_
    ·refine aS<|aE rfl<|aE rfl<|aE rfl<|aE rfl<|aE rfl<|fJ h fun j26 h=>aJ (a_ rfl rfl (aM.ar (aM.res 0 rfl) cO) rfl rfl j26) rfl<|aJ (cW rfl rfl rfl rfl rfl) rfl<|aJ (fN rfl (aM.ar (aM.res 0 rfl) cO) rfl rfl rfl MA j26) rfl<|fJ h fun j27 h=>aJ (a_ rfl rfl (fP rfl) rfl rfl j27) rfl<|aJ (iN rfl (fP rfl) rfl rfl rfl mT j27) rfl<|fJ h fun j28 h=>aJ (a_ rfl rfl (aM.ar (aM.res 0 rfl) cO) rfl rfl j28) rfl<|aJ (cW rfl rfl rfl rfl rfl) rfl<|JJ (Dj (us:=[vI (at' p1 ((at' a15.2 a15.1).2))]) (o:=1) 0 ((((at' a15.2 a15.1).1),(at' p1 ((at' a15.2 a15.1).2)))) j28 rfl rfl rfl rfl rfl rfl rfl rfl rfl rfl) fun x29=>fQ<|lP ?_
     exact cZ (List.set a15.2 (Int.toNat a15.1) (((at' a15.2 a15.1).1),(at' p1 ((at' a15.2 a15.1).2)))) () h SF rfl
    refine eJ<|lP ?_
    exact cZ (a15.2) () h SF rfl
   intro a20 b21 h
   unfold rK at h
   refine aS<|aE rfl<|dM rfl<|aK rfl<|aU ?_
   exact BR ((wI .i64 (a15.1+(1:Int))),a20) () h SF rfl
  refine eQ ?_
  exact cZ (a15.2) () h SF rfl
 intro a10 b11 h
 unfold wQ at h
 refine aZ<|aE rfl<|aK rfl<|aK rfl<|aU<|bE ?_
 cases h
 exact fB (u7) rfl rfl (RV.tmp rfl) (RV.tmp rfl) (bH.refl _) aV.nil
end
section
def pM (p0:qZ) (r4:cS×Int) (a11:(List (Int×cS))):Option DV:=
 some ((p0.1,r4.1,a11))
def mF (U:Nat) (p0:qZ) (p1:cU) (r4:cS×Int) (a20:Int×(List (Int×cS))) (ag19:(Int×(List (Int×cS)))->Option DV):Option DV:=
 if a20.1<(List.length p0.2.2:Int)then(ck (0<=a20.1∧a20.1<(List.length p0.2.2:Int)) (Option.bind (tH U ((at' p0.2.2 a20.1).2) p1) fun r26=>(ck (0<=a20.1∧a20.1<(List.length p0.2.2:Int)) (ck (0<=((at' p0.2.2 a20.1).1)∧((at' p0.2.2 a20.1).1)<(List.length p1:Int)) (ck ((List.length a20.2:Int)+(List.length ([((at' p1 ((at' p0.2.2 a20.1).1)),r26.1)]):Int)<=1099511627) (ag19 ((wI .i64 (a20.1+(1:Int))),(a20.2++([((at' p1 ((at' p0.2.2 a20.1).1)),r26.1)])))))))))else(pM p0 r4 (a20.2))
def iV (U:Nat) (p0:qZ) (p1:cU):Option DV:=
 Option.bind (tH U p0.2.1 p1) fun r4=>(bZ (mF U p0 p1 r4) U ((0:Int),([]:nL)))
theorem JZ:bO Tryz.prog 28:=Tryz.call28
theorem qY (U:Nat) {p0:qZ} {p1:cU} (v0:Value)  (v1:Value)  (v2:Value) (r:Jw) (h:iV U p0 p1=some r):
  bQ Tryz.prog 28 #[Value.agg #[vS (p0.1),v0,v1],v2] [Sl bF v0 p0.2.1,Sl aX v1 p0.2.2,Sl gS v2 p1] (fun x:Value×Value×List (Value)=>Value.agg #[vS (r.1),x.1,x.2.1]) (fun x l=>Ar cD x.1 r.2.1::Ad bI x.2.1 x.2.2 r.2.2::l) (fun x l=>Pw bW x.2.2 r.2.2::l):=by
 refine bQ.of Tryz.func28 rfl Tryz.ntmps28 rfl fun c=>?_
 refine aZ<|aT (aW.box (cs:=[vS (p0.1),v0,v1]) rfl rfl) rfl fun b1=>aT (aW.alloc (cs:=fL) rfl rfl) rfl fun b2=>aU<|aZ<|bP rfl<|dC 1 rfl ?_
 refine aJ (xE (r:=Value.agg #[vS (p0.1),fX,fX]) rfl (by intro w;simp[Instr.build,Instr.fill,b_,bR,bM,cA,cB,bS,cL])) rfl ?_
 refine aT (aW.alloc (cs:=fL) rfl rfl) rfl fun b3=>bL 0 (vs:=[vS (p0.1),fX,fX]) rfl rfl rfl rfl rfl rfl<|aU<|aZ<|bP rfl<|dC 2 rfl<|aE rfl<|fO h fun r4 w5 h=>aT (aW.callQ QB (DL U v0 v2 r4 w5) rfl (gO [0,2] rfl)) rfl fun x6=>aE rfl<|mM rfl<|mM rfl<|bP rfl<|bY (Know.one ((aM.ar (aM.res 0 rfl) cO))) fun ho7=>eS 1 rfl rfl ho7 rfl rfl rfl<|aU<|aP<|iM (B:=Value×List (Value)) (fun a11=>pM p0 r4 a11=some r) (fun a11 b12=>[(4,vP b2),(5,vP b3)]) (fun a11 b12=>[Ar cD x6 r4.1,bJ b3 [vS (p0.1),x6,b12.1] 42,bJ b2 fL 42,Ad bI b12.1 b12.2 a11]) (fun a11 b12=>[Sl bF v0 p0.2.1,Sl aX v1 p0.2.2,Sl gS v2 p1,Pw bW b12.2 a11]) ?_ ?_
 ·refine aZ<|aK rfl<|aU<|aY<|cJ (xI bI)<|cJ (bD (dB:aM _ _ (Pw bW ([]:lR) ([]:nL))))<|jL (B:=Value×List (Value)) (mF U p0 p1 r4) (fun a20 b21=>[(1,v2),(2,vP b1),(4,vP b2),(5,vP b3),(6,vI (a20.1))]) (fun a20 b21=>[Ar cD x6 r4.1,bJ b3 [vS (p0.1),x6,b21.1] 42,bJ b2 fL 42,bJ b1 [vS (p0.1),v0,v1] 42,Ad bI b21.1 b21.2 a20.2]) (fun a20 b21=>[Sl bF v0 p0.2.1,Sl aX v1 p0.2.2,Sl gS v2 p1,Pw bW b21.2 a20.2]) ((0:Int),([]:nL)) ((fX),([]:lR)) h SF (bH.ix [1,2,3,4,0] rfl rfl) (gO [1,2,3,0] rfl) ?_
  intro k22 a20 b21 h
  refine aP<|aZ<|aE rfl<|bP rfl<|dC 3 rfl<|eC (fP rfl) rfl<|dL rfl<|aU ?_
  refine gT h rfl (fun h=>?_) fun h=>?_
  ·refine cC<|aP<|aY<|aZ<|bP rfl<|dC 3 rfl<|aE rfl<|fJ h fun j24 h=>aJ (a_ rfl rfl (fP rfl) rfl rfl j24) rfl<|aJ (cW rfl rfl rfl rfl rfl) rfl<|mS (v:=v1) (ds:=p0.2.2) bK (fP rfl) fun us25=>?_
   refine cJ (bD ((bT (f:=bW) (fP rfl) j24.1 (by first|exact j24.2|simpa using j24.2)):aM _ _ (Sl bF (at' us25 a20.1) ((at' p0.2.2 a20.1).2)))) ?_
   refine aJ (wD (gv:=fun x=>x) rfl (fP rfl) rfl rfl rfl nZ ⟨j24.1,by first|exact j24.2|simpa using j24.2⟩) rfl<|aE rfl<|fO h fun r26 w27 h=>aT (aW.callQ QB (DL U (at' us25 a20.1) v2 r26 w27) rfl (gO [0,5] rfl)) rfl fun x28=>aE rfl<|mM rfl<|mM rfl<|aK rfl<|aK rfl<|aU ?_
   refine CC [0,1,0,0,8,0,56,120,248,508,1020,0,4092,8188,16383,32767,65535] 14 mixedOrders ?_
   refine eD rfl<|gM 2 rfl<|dG rfl<|eD rfl<|gM 4 rfl<|dG rfl<|fJ h fun j29 h=>dK rfl .nil (jY 4 rfl) (a_ rfl rfl (dN rfl) rfl rfl j29) bG.z<|zE rfl (cW rfl rfl rfl rfl rfl)<|dK rfl .nil (jY 4 rfl) (fN rfl (dN rfl) rfl rfl rfl kA j29) bG.z<|fJ h fun j30 h=>dK rfl .nil (jY 5 rfl) (a_ rfl rfl (dN rfl) rfl rfl j30) bG.z<|dK rfl .nil (jY 5 rfl) (iN rfl (dN rfl) rfl rfl rfl mT j30) bG.z<|dG rfl<|eG (Know.one ((aM.ar (aM.res 0 rfl) cO))) fun ho31=>?_
   refine zE rfl (kY (r:=Value.agg #[vI (at' p1 ((at' p0.2.2 a20.1).1)),x28]) rfl rfl (by intro w;simp[Instr.build,Instr.fill,b_,bR,bM,cA,cB,bS,cL,eY ho31])) ?_
   refine JR.stp (cY [Ar cD x28 r26.1] [Ar cD x6 r4.1,bJ b3 [vS (p0.1),x6,b21.1] 42,bJ b2 fL 42,bJ b1 [vS (p0.1),v0,v1] 42,Ad bI b21.1 b21.2 a20.2] (bH.ix [0,1,2,3,4,5] rfl rfl) (aM.ar (aM.res 0 rfl) cO))<|JR.stp (bD ((dO (dN rfl) dB):aM _ _ (Pw bW ([x28]) ([((at' p1 ((at' p0.2.2 a20.1).1)),r26.1)]))))<|eG (Know.one ((fP rfl))) fun ho32=>JR.loud rfl rfl rfl (eT (e:=bI) ([x28]) ([(((at' p1 ((at' p0.2.2 a20.1).1)),r26.1))]) [(0,Value.agg #[vI (at' p1 ((at' p0.2.2 a20.1).1)),x28])] rfl rfl rfl rfl (vA (vI (at' p1 ((at' p0.2.2 a20.1).1))) (x28)) rfl rfl (show List.all [vI (at' p1 ((at' p0.2.2 a20.1).1)),x28] one=true from(cR rfl (cR ho32 rfl))) rfl) rfl (fun u33=>(pH [([2],[])] rfl)) fun u33=>cX 14 rfl rfl<|fJ h fun j34 h=>cJ (bD ((eH (bV 8 rfl) (dN rfl)):aM _ _ (Pw bW (b21.2++[x28]) (a20.2++([((at' p1 ((at' p0.2.2 a20.1).1)),r26.1)])))))<|aT (aW.appendD 5 0 rfl rfl rfl rfl rfl rfl rfl rfl j34 rfl) rfl fun u35=>bP rfl<|bY (Know.one ((cV (i:=5) (j:=0) bK rfl rfl))) fun ho36=>eS 2 rfl rfl ho36 rfl rfl rfl<|fQ<|lP<|aS<|aE rfl<|dM rfl<|aK rfl<|aU ?_
   exact dZ ((wI .i64 (a20.1+(1:Int))),(a20.2++([((at' p1 ((at' p0.2.2 a20.1).1)),r26.1)]))) (u35,(b21.2++[x28])) h SF (bH.ix [1,2,3,4,5] rfl rfl) (gO [6,7,8,0] rfl)
  refine eQ ?_
  exact cK (a20.2) (b21.1,b21.2) h SF (bH.ix [0,1,2,4] rfl rfl) (aV.refl _ _)
 intro a11 b12 h
 unfold pM at h
 refine aZ<|iC 1 rfl<|bY (Know.one ((aM.ar (aM.res 0 rfl) cO))) fun ho13=>bY (Know.one ((cV (i:=3) (j:=3) bK rfl rfl))) fun ho14=>bL 2 (vs:=[vS (p0.1),x6,b12.1]) rfl rfl (cR rfl (cR ho13 (cR ho14 rfl))) rfl rfl rfl<|aU<|bE ?_
 cases h
 exact uD (x6,b12.1,b12.2) rfl rfl (RV.cell 2 rfl rfl rfl rfl) (bH.ix [0,3] rfl rfl) (gO [3] rfl)
end
end Go.Proofs.YthnplbmmlbnelaaGreat
end
section
namespace Go.Proofs.YthnplbmmlbnelaaGreat
open Go Go.Sx
section
structure MD (r:RL) (n:Nat):Prop extends Hz r n where
 n':n<=6
 lg:r.2.1.length<=400
 lv:∀s∈r.2.2,s.2.length<=400
end
section
def KV (m:cU) (t:TM):TM:=if t.1=5∨t.1=12 then(t.1,at' m t.2)else t
def VC (m:cU):Bool:=(List.range m.length).all fun k=>decide (0<=at' m (k:Int))&&decide (at' m (k:Int)<6)
noncomputable def Dc (m:cU) (e:List TM):List TM×Int:=if He m.length e=true then(if VC m=true then(e.map (KV m),0)else([],2))else([],7)
theorem Ke {e:List TM} {k:Nat} (h:k<e.length):e.drop k=at' e (k:Int)::e.drop (k+1):=by
 rw[List.drop_eq_getElem_cons h]
 congr 1
 have:=sL h
 rw[List.getElem?_eq_getElem h]at this
 exact Option.some.inj this
def Oq (m:cU) (e:List TM) (k:Nat):List TM:=(e.take k).map (KV m)++e.drop k
theorem RF (m:cU) {e:List TM} {k:Nat} (h:k<e.length):at' (Oq m e k) (k:Int)=at' e (k:Int):=by
 unfold Oq
 rw[Ke h]
 exact gJ _ _ _ _ (by simp;omega)
theorem FM (m:cU) {e:List TM} {k:Nat} (h:k<=e.length):(Oq m e k).length=e.length:=by unfold Oq;simp;omega
theorem FN (m:cU) {e:List TM} {k:Nat} (h:k<e.length) (y:TM) (hy:KV m (at' e (k:Int))=y):(Oq m e k).set k y=Oq m e (k+1):=by
 unfold Oq
 rw[Ke h,Gv _ _ _ _ k (by simp;omega),uR h,<-hy];simp
theorem LK (m:cU) {e:List TM} {k:Nat} (h:k<e.length) (hy:KV m (at' e (k:Int))=at' e (k:Int)):Oq m e k=Oq m e (k+1):=by
 rw[<-FN m h _ hy]
 unfold Oq
 rw[Ke h,Gv _ _ _ _ k (by simp;omega)]
theorem Xs (F:Nat) (e:List TM) (m:cU) (hl:e.length<=900) (hm:m.length<=20) (hF:1000<=F):vG F e m=some (Dc m e):=by
 unfold vG Dc
 rw[bU (TO F e _ hl hF)]
 cases hv:He m.length e
 ·rfl
 rw[if_neg (by decide),if_pos rfl]
 obtain⟨x,hx⟩:=CR.1 hv
 have e2:=fE (step:=nK F e m) (K:=yW F e m ()) (bad:=some ([],2)) m.length (fun k=>decide (0<=at' m (k:Int))&&decide (at' m (k:Int)<6)) (fun k=>(k:Int)) (fun k ag hk=>by
  unfold nK yZ
  rw[if_pos (by omega),eP (by omega),wr (by omega) (by omega)]
  by_cases h0:at' m (k:Int)<0
  ·rw[if_pos h0,if_pos rfl,if_neg (by simp;omega)]
  ·rw[if_neg h0]
   by_cases h6:6<=at' m (k:Int)
   ·rw[if_pos (by simpa using h6),if_neg (by simp;omega)]
   ·rw[if_neg (by simpa using h6),if_pos (by simp;omega)];rfl) (fun ag=>by unfold nK;rw[if_neg (by omega)]) F (by omega)
 have e2:bZ (nK F e m) F (0:Int)=_:=e2
 rw[e2]
 show(if VC m=true then _ else _)=_
 cases VC m
 ·rfl
 rw[if_pos rfl,if_pos rfl]
 unfold yW
 have e1:=gK (step:=nJ e m) (K:=some (e.map (KV m),(0:Int))) e.length (fun k=>((k:Int),Oq m e k)) (fun k ag hk=>by
  have ht:=hx.2.2.2.2.2 _ (s_ hk)
  unfold nJ yY tU
  dsimp only
  rw[if_pos (by omega),eP (by rw[FM m (by omega)];omega),RF m hk,wr (by omega) (by omega),Int.toNat_natCast]
  by_cases h5:(at' e (k:Int)).1=5
  ·have hix:=Ea ht (.inl h5)
   rw[if_pos h5,if_pos rfl,eP hix,eP (by rw[FM m (by omega)];omega),FN m hk _ (by unfold KV;rw[if_pos (.inl h5)])]
   rfl
  ·rw[if_neg h5]
   by_cases h12:(at' e (k:Int)).1=12
   ·have hix:=Ea ht (.inr h12)
    rw[if_pos (by simpa using h12),eP hix,eP (by rw[FM m (by omega)];omega),FN m hk _ (by unfold KV;rw[if_pos (.inr h12)])]
    rfl
   ·rw[if_neg (by simpa using h12),LK m hk (by unfold KV;rw[if_neg (by omega)])]
    rfl) (fun ag=>by
  unfold nJ yX
  dsimp only
  rw[if_neg (by omega)]
  unfold Oq
  simp) F (by omega)
 rw[eP (by omega),eP (by simp)]
 exact e1
theorem Xa (F:Nat) (e:List TM) (m:cU) (hl:e.length<=900) (hm:m.length<=20) (hF:1000<=F):tH F e m=some (Dc m e):=by
 unfold tH Dc
 rw[bU (VO F e _ hl hF)]
 cases hv:He m.length e
 ·rfl
 rw[if_neg (by decide),if_pos rfl]
 obtain⟨x,hx⟩:=CR.1 hv
 have e2:=fE (step:=lV F e m) (K:=wP F e m ()) (bad:=some ([],2)) m.length (fun k=>decide (0<=at' m (k:Int))&&decide (at' m (k:Int)<6)) (fun k=>(k:Int)) (fun k ag hk=>by
  unfold lV wS
  rw[if_pos (by omega),eP (by omega),eP (by omega),wr (by omega) (by omega)]
  by_cases h0:at' m (k:Int)<0
  ·rw[if_pos h0,if_pos rfl,if_neg (by simp;omega)]
  ·rw[if_neg h0]
   by_cases h6:6<=at' m (k:Int)
   ·rw[if_pos (by simpa using h6),if_neg (by simp;omega)]
   ·rw[if_neg (by simpa using h6),if_pos (by simp;omega)];rfl) (fun ag=>by unfold lV;rw[if_neg (by omega)]) F (by omega)
 have e2:bZ (lV F e m) F (0:Int)=_:=e2
 rw[e2]
 show(if VC m=true then _ else _)=_
 cases VC m
 ·rfl
 rw[if_pos rfl,if_pos rfl]
 unfold wP
 have e1:=gK (step:=lU m) (K:=some (e.map (KV m),(0:Int))) e.length (fun k=>((k:Int),Oq m e k)) (fun k ag hk=>by
  have ht:=hx.2.2.2.2.2 _ (s_ hk)
  unfold lU wR rK
  dsimp only
  have hln:=FM m (e:=e) (k:=k) (by omega)
  rw[if_pos (by omega),eP (by omega),RF m hk,wr (by omega) (by omega),Int.toNat_natCast]
  by_cases h5:(at' e (k:Int)).1=5
  ·have hix:=Ea ht (.inl h5)
   rw[if_pos h5,if_pos rfl,eP (by omega),eP hix,eP (by omega),FN m hk _ (by unfold KV;rw[if_pos (.inl h5)])]
   rfl
  ·rw[if_neg h5,eP (by omega)]
   by_cases h12:(at' e (k:Int)).1=12
   ·have hix:=Ea ht (.inr h12)
    rw[if_pos (by simpa using h12),eP (by omega),eP hix,eP (by omega),FN m hk _ (by unfold KV;rw[if_pos (.inr h12)])]
    rfl
   ·rw[if_neg (by simpa using h12),LK m hk (by unfold KV;rw[if_neg (by omega)])]
    rfl) (fun ag=>by
  unfold lU wQ
  dsimp only
  rw[if_neg (by rw[FM m (Nat.le_refl _)];omega)]
  unfold Oq
  simp) F (by omega)
 rw[eP (by simp;omega)]
 exact e1
noncomputable def LM (m:cU) (r:RL):RL:=(r.1,(Dc m r.2.1).1,r.2.2.map fun s=>(at' m s.1,(Dc m s.2).1))
theorem Wr (F:Nat) {r:RL} {n:Nat} (h:MD r n) {m:cU} (hm:m.length=n) (hF:1000<=F):gW F r m=some (LM m r):=by
 have n6:=h.n6
 have n':=h.n'
 have lg:=h.lg
 unfold gW
 rw[bU (Xs F _ m (by omega) (by omega) hF)]
 have e0:=gK (step:=mV F r m (Dc m r.2.1)) (K:=some (LM m r)) r.2.2.length (fun k=>((k:Int),(r.2.2.take k).map fun s=>(at' m s.1,(Dc m s.2).1))) (fun k ag hk=>by
  have hv:=h.var k hk
  have hl:=h.lv _ (s_ hk)
  unfold mV
  dsimp only
  rw[if_pos (by omega),eP (by omega),bU (Xs F _ m (by omega) (by omega) hF),eP (by omega),eP (by simp;omega),wr (by omega) (by omega),uR hk]
  simp) (fun ag=>by
  unfold mV qU
  dsimp only
  rw[if_neg (by omega),List.take_length];rfl) F (by omega)
 exact e0
theorem XK (F:Nat) {r:RL} {n:Nat} (h:MD r n) {m:cU} (hm:m.length=n) (hF:1000<=F):iV F r m=some (LM m r):=by
 have n6:=h.n6
 have n':=h.n'
 have lg:=h.lg
 unfold iV
 rw[bU (Xa F _ m (by omega) (by omega) hF)]
 have e0:=gK (step:=mF F r m (Dc m r.2.1)) (K:=some (LM m r)) r.2.2.length (fun k=>((k:Int),(r.2.2.take k).map fun s=>(at' m s.1,(Dc m s.2).1))) (fun k ag hk=>by
  have hv:=h.var k hk
  have hl:=h.lv _ (s_ hk)
  unfold mF
  dsimp only
  rw[if_pos (by omega),eP (by omega),bU (Xa F _ m (by omega) (by omega) hF),eP (by omega),eP (by omega),eP (by simp;omega),wr (by omega) (by omega),uR hk]
  simp) (fun ag=>by
  unfold mF pM
  dsimp only
  rw[if_neg (by omega),List.take_length];rfl) F (by omega)
 exact e0
theorem AD.rule {p:PG} (hp:AD p) (hv:VP p) {k:Nat} (hk:k<p.2.2.length):MD (at' p.2.2 (k:Int)) p.2.1.length:=
 ⟨hv.rl k hk,hv.v6,(hp.g _ (s_ hk)).1,(hp.g _ (s_ hk)).2.2⟩
def AI:PG:=(ByteArray.mk #[],[],[])
end
end Go.Proofs.YthnplbmmlbnelaaGreat
end
section
namespace Go.Proofs.YthnplbmmlbnelaaGreat
open Go.Sx
section
def sR (U:Nat) (p0:gN):Option EI:=
 ck ((List.length ([]:gN):Int)+(List.length p0:Int)<=1099511627) (some (([]:gN)++p0))
theorem Qv:bO Tryz.prog 32:=Tryz.call32
theorem BC (U:Nat) {p0:gN} (v0:Value) (r:De) (h:sR U p0=some r):
  bQ Tryz.prog 32 #[v0] [Sl aF v0 p0] (fun x:Value=>x) (fun x l=>Ar aH x r::l) (fun _ l=>l):=by
 refine bQ.of Tryz.func32 rfl Tryz.ntmps32 rfl fun c=>?_
 unfold sR at h
 refine aZ<|aK rfl<|aU<|aP<|aZ<|aE rfl<|OQ (dN rfl) (fun hn1 hx2=>?_) (fun hn1=>?_)
 ·replace h:(some ([]:gN))=some r:=by simpa [ck,hx2]using h
  refine aJ (NK rfl (dN rfl) hn1 rfl) rfl<|aU<|NI rfl<|aZ<|aK rfl<|aU<|bE<|aR<|cJ (d_ aH) ?_
  cases h
  exact uD (fX) rfl rfl (RV.tmp rfl) (bH.refl _) aV.nil
 refine aJ (NK rfl (dN rfl) hn1 rfl) rfl<|aU<|NH rfl<|cC<|aZ<|aT (dJ (e:=aH) ([]:gN) [] rfl rfl rfl rfl ((fun i h=>by simp at h;subst h;rfl)) rfl rfl rfl) rfl fun u3=>aE rfl<|fJ h fun j5 h=>aT (dP 0 aQ rfl rfl rfl (dN rfl) rfl rfl rfl rfl j5 rfl) rfl fun u4=>aK rfl<|aU<|bE ?_
 cases h
 exact uD (u4) rfl rfl (RV.tmp rfl) (bH.refl _) aV.nil
end
section
def uF (U:Nat) (p0:Br) (p1:ByteArray):Option (Bool):=
 some ((eR p0.1 p1))
theorem UP:bO Tryz.prog 57:=Tryz.call57
theorem Gy (U:Nat) {p0:Br} {p1:ByteArray} (bx0:Nat) (r:Bool) (h:uF U p0 p1=some r):
  bQ Tryz.prog 57 #[Value.agg #[vS (p0.1),vI (p0.2.1),vI (p0.2.2.1),vI (p0.2.2.2.1),vI (p0.2.2.2.2.1),vI (p0.2.2.2.2.2)],vP bx0] [bJ bx0 [vS (p1)] 9] (fun x:Unit=>vB (r)) (fun x l=>l) (fun _ l=>l):=by
 refine bQ.of Tryz.func57 rfl Tryz.ntmps57 rfl fun c=>?_
 unfold uF at h
 refine aZ<|aT (aW.box (cs:=[vS (p0.1),vI (p0.2.1),vI (p0.2.2.1),vI (p0.2.2.2.1),vI (p0.2.2.2.2.1),vI (p0.2.2.2.2.2)]) rfl rfl) rfl fun b1=>aK rfl<|aU<|aZ<|bP rfl<|dC 0 rfl<|aJ (Dn rfl (dN rfl) rfl rfl rfl) rfl<|aJ (eF rfl rfl) rfl<|aK rfl<|aU<|bE ?_
 cases h
 exact yR rfl
end
section
def oC  (a4:Int):Option (Int):=
 some (a4)
def wK  (a6:Unit):Option (Int):=
 oC  (-1:Int)
def wL (U:Nat) (p0:cH) (p1:ByteArray) (a10:Int) (ag9:(Int)->Option (Int)):Option (Int):=
 if a10<(List.length p0.2.1:Int)then(ck (0<=a10∧a10<(List.length p0.2.1:Int)) (Option.bind (uF U ((((at' p0.2.1 a10).1),((at' p0.2.1 a10).2.1),((at' p0.2.1 a10).2.2.1),((at' p0.2.1 a10).2.2.2.1),((at' p0.2.1 a10).2.2.2.2.1),((at' p0.2.1 a10).2.2.2.2.2))) p1) fun r15=>(if r15=true then(oC  (a10))else(ag9 (wI .i64 (a10+(1:Int)))))))else(wK  (()))
def iO (U:Nat) (p0:cH) (p1:ByteArray):Option (Int):=
 bZ (wL U p0 p1) U (0:Int)
theorem J_:bO Tryz.prog 33:=Tryz.call33
theorem yS (U:Nat) {p0:cH} {p1:ByteArray} (v0:Value)  (v1:Value) (r:Int) (h:iO U p0 p1=some r):
  bQ Tryz.prog 33 #[Value.agg #[vS (p0.1),v0,v1],vS (p1)] [Sl aF v0 p0.2.1,Sl aD v1 p0.2.2] (fun x:Unit=>vI (r)) (fun x l=>l) (fun _ l=>l):=by
 refine bQ.of Tryz.func33 rfl Tryz.ntmps33 rfl fun c=>?_
 unfold iO at h
 refine aZ<|aT (aW.box (cs:=[vS (p0.1),v0,v1]) rfl rfl) rfl fun b1=>aT (aW.box (cs:=[vS (p1)]) rfl rfl) rfl fun b2=>aK rfl<|aU<|aZ<|bP rfl<|dC 1 rfl<|aJ (Ba (cs:=[.tmp 3]) (vs:=[vP b2]) rfl) rfl<|xD (A:=Int) (B:=Unit) (vs:=[v0,Value.func (.func 57) #[] #[vP b2]]) (fun a4=>oC  a4=some r) (fun a4 b5=>vI (a4)) (fun a4 b5=>[]) (fun a4 b5=>[Sl aF v0 p0.2.1,Sl aD v1 p0.2.2]) (xR.fn (show bO Tryz.prog 56 from Tryz.call56) rfl) Tryz.func56 rfl Tryz.ntmps56 rfl rfl ?_ ?_
 ·refine aZ<|aK rfl<|aU<|aP<|dD (fun a6=>wK  a6=some r) (fun a6 b7=>[]) (fun a6 b7=>[]) ?_ ?_
  ·refine aZ<|aE rfl<|eC (dN rfl) rfl<|aE rfl<|aU<|aY<|fW (wL U p0 p1) (fun a10 b11=>[(0,v0),(1,Value.func (.func 57) #[] #[vP b2]),(7,vI (List.length p0.2.1:Int)),(8,vI (a10))]) (fun a10 b11=>[bJ b2 [vS (p1)] 9]) (0:Int) () h SF (bH.ix [0] rfl rfl) ?_
   intro k12 a10 b11 h
   refine aZ<|dL rfl<|aU<|aP ?_
   refine gT h rfl (fun h=>?_) fun h=>?_
   ·refine cC<|aP<|aY<|aZ<|aE rfl<|aK rfl<|aU<|aZ<|aE rfl<|aE rfl<|aE rfl<|fJ h fun j14 h=>aJ (a_ rfl rfl (dN rfl) rfl rfl j14) rfl<|aJ (gI (cs:=[vS ((at' p0.2.1 a10).1),vI ((at' p0.2.1 a10).2.1),vI ((at' p0.2.1 a10).2.2.1),vI ((at' p0.2.1 a10).2.2.2.1),vI ((at' p0.2.1 a10).2.2.2.2.1),vI ((at' p0.2.1 a10).2.2.2.2.2)]) rfl (dN rfl) aQ rfl rfl rfl rfl j14) rfl<|fO h fun r15 w16 h=>aT (xH (vs:=[Value.agg #[vS ((at' p0.2.1 a10).1),vI ((at' p0.2.1 a10).2.1),vI ((at' p0.2.1 a10).2.2.1),vI ((at' p0.2.1 a10).2.2.2.1),vI ((at' p0.2.1 a10).2.2.2.2.1),vI ((at' p0.2.1 a10).2.2.2.2.2)]]) (cs:=[vP b2]) UP rfl (Gy U b2 r15 w16) rfl (aV.cons (aM.res 0 rfl) .nil) (fun _ _=>rfl)) rfl fun x17=>aU ?_
    refine gP h rfl (fun _ h=>?_) fun _ h=>?_
    ·refine aZ<|aE rfl<|aK rfl<|aU<|bE<|cG<|aR<|aR<|cG<|aR ?_
     exact pR (a10) () h (.inl rfl) (G_.r1 rfl (RV.tmp rfl)) rfl .nil (aV.refl _ _)
    refine eJ<|lP<|aS<|dM rfl<|aE rfl<|aU ?_
    exact BR (wI .i64 (a10+(1:Int))) () h SF rfl
   refine eQ ?_
   exact cK () (()) h SF .nil (aV.refl _ _)
  intro a6 b7 h
  unfold wK at h
  refine aZ<|aK rfl<|aU<|bE ?_
  exact pR (-1:Int) () h (.inl rfl) (G_.r1 rfl (RV.tmp rfl)) rfl (bH.refl _) (aV.refl _ _)
 intro a4 b5 h
 unfold oC at h
 refine aK rfl<|aU<|bE ?_
 cases h
 exact kF rfl
end
section
def zL (U:Nat) (p0:Int×cS) (p1:cU) (p2:cH):Option (Bool):=
 ck (0<=p0.1∧p0.1<(List.length p1:Int)) (some (decide ((at' p1 p0.1)<(List.length p2.2.1:Int))))
theorem UK:bO Tryz.prog 35:=Tryz.call35
theorem Gw (U:Nat) {p0:Int×cS} {p1:cU} {p2:cH} (v0:Value)  (bx1:Nat)  (v2:Value)  (bx3:Nat)  (v4:Value)  (v5:Value) (r:Bool) (h:zL U p0 p1 p2=some r):
  bQ Tryz.prog 35 #[Value.agg #[vI (p0.1),v0],vP bx1,vP bx3] [Sl bF v0 p0.2,bJ bx1 [v2] 47,Sl gS v2 p1,bJ bx3 [vS (p2.1),v4,v5] 25,Sl aF v4 p2.2.1,Sl aD v5 p2.2.2] (fun x:Unit=>vB (r)) (fun x l=>l) (fun _ l=>l):=by
 refine bQ.of Tryz.func35 rfl Tryz.ntmps35 rfl fun c=>?_
 refine aZ<|aT (aW.box (cs:=[vI (p0.1),v0]) rfl rfl) rfl fun b1=>aK rfl<|aU<|aP ?_
 refine CC [0,0,2,7,15,0,32,96,255,511] 8 mixedOrders ?_
 refine dK rfl .nil (jY 1 rfl) (Dn rfl (dN rfl) rfl rfl rfl) bG.z<|eD rfl<|gM 0 rfl<|fJ h fun j2 h=>dK rfl .nil (jY 2 rfl) (a_ rfl rfl (dN rfl) rfl rfl j2) bG.z<|dK rfl .nil (jY 2 rfl) (iN rfl (dN rfl) rfl rfl rfl mT j2) bG.z<|eD rfl<|dK rfl .nil (jY 3 rfl) (Dn rfl (dN rfl) rfl rfl rfl) bG.z<|dK rfl .nil (jY 4 rfl) (dR rfl (dN rfl) rfl) bG.z<|cX 8 rfl rfl<|dL rfl<|aK rfl<|aU<|bE ?_
 cases h
 exact yR rfl
end
section
def mJ (U:Nat) (p0:qZ) (p1:qZ):Option (Bool):=
 some ((eR p1.1 p0.1))
theorem UR:bO Tryz.prog 61:=Tryz.call61
theorem CN (U:Nat) {p0:qZ} {p1:qZ} (v0:Value)  (v1:Value)  (bx2:Nat)  (v3:Value)  (v4:Value) (r:Bool) (h:mJ U p0 p1=some r):
  bQ Tryz.prog 61 #[Value.agg #[vS (p0.1),v0,v1],vP bx2] [Sl bF v0 p0.2.1,Sl aX v1 p0.2.2,bJ bx2 [vS (p1.1),v3,v4] 42,Sl bF v3 p1.2.1,Sl aX v4 p1.2.2] (fun x:Unit=>vB (r)) (fun x l=>l) (fun _ l=>l):=by
 refine bQ.of Tryz.func61 rfl Tryz.ntmps61 rfl fun c=>?_
 unfold mJ at h
 refine aZ<|aT (aW.box (cs:=[vS (p0.1),v0,v1]) rfl rfl) rfl fun b1=>aK rfl<|aU<|aZ<|bP rfl<|aJ (Dn rfl (rA rfl) rfl rfl rfl) rfl<|bP rfl<|dC 0 rfl<|aJ (eF rfl rfl) rfl<|aK rfl<|aU<|bE ?_
 cases h
 exact yR rfl
end
section
def kH  (a3:Bool):Option (Bool):=
 some (a3)
def iK  (a6:Int):Option (Bool):=
 kH  (decide ((0:Int)<=a6))
def nT  (a8:Unit):Option (Bool):=
 iK  (-1:Int)
def iL (U:Nat) (p0:qZ) (p1:cH) (a12:Int) (ag11:(Int)->Option (Bool)):Option (Bool):=
 if a12<(List.length p1.2.2:Int)then(ck (0<=a12∧a12<(List.length p1.2.2:Int)) (Option.bind (mJ U ((((at' p1.2.2 a12).1),((at' p1.2.2 a12).2.1),((at' p1.2.2 a12).2.2))) ((p0.1,p0.2.1,p0.2.2))) fun r18=>(if r18=true then(iK  (a12))else(ag11 (wI .i64 (a12+(1:Int)))))))else(nT  (()))
def lJ (U:Nat) (p0:qZ) (p1:cH):Option (Bool):=
 bZ (iL U p0 p1) U (0:Int)
theorem UQ:bO Tryz.prog 60:=Tryz.call60
theorem DF (U:Nat) {p0:qZ} {p1:cH} (v0:Value)  (v1:Value)  (bx2:Nat)  (v3:Value)  (v4:Value) (r:Bool) (h:lJ U p0 p1=some r):
  bQ Tryz.prog 60 #[Value.agg #[vS (p0.1),v0,v1],vP bx2] [Sl bF v0 p0.2.1,Sl aX v1 p0.2.2,bJ bx2 [vS (p1.1),v3,v4] 25,Sl aF v3 p1.2.1,Sl aD v4 p1.2.2] (fun x:Unit=>vB (r)) (fun x l=>l) (fun _ l=>l):=by
 refine bQ.of Tryz.func60 rfl Tryz.ntmps60 rfl fun c=>?_
 unfold lJ at h
 refine aZ<|aT (aW.box (cs:=[vS (p0.1),v0,v1]) rfl rfl) rfl fun b1=>aK rfl<|aU<|aZ<|bP rfl<|aJ (Dn rfl (rA rfl) rfl rfl rfl) rfl<|aJ (Ba (cs:=[.tmp 2]) (vs:=[vP b1]) rfl) rfl<|xD (A:=Bool) (B:=Unit) (vs:=[v4,Value.func (.func 61) #[] #[vP b1]]) (fun a3=>kH  a3=some r) (fun a3 b4=>vB (a3)) (fun a3 b4=>[]) (fun a3 b4=>[Sl bF v0 p0.2.1,Sl aX v1 p0.2.2,bJ bx2 [vS (p1.1),v3,v4] 25,Sl aF v3 p1.2.1,Sl aD v4 p1.2.2]) (xR.fn (show bO Tryz.prog 59 from Tryz.call59) rfl) Tryz.func59 rfl Tryz.ntmps59 rfl rfl ?_ ?_
 ·refine aZ<|aK rfl<|aU<|aZ<|aE rfl<|aE rfl<|xD (A:=Int) (B:=Unit) (vs:=[v4,Value.func (.func 61) #[] #[vP b1]]) (fun a6=>iK  a6=some r) (fun a6 b7=>vI (a6)) (fun a6 b7=>[]) (fun a6 b7=>[Sl bF v0 p0.2.1,Sl aX v1 p0.2.2,bJ bx2 [vS (p1.1),v3,v4] 25,Sl aF v3 p1.2.1,Sl aD v4 p1.2.2]) (xR.fn (show bO Tryz.prog 85 from Tryz.call85) rfl) Tryz.func85 rfl Tryz.ntmps85 rfl rfl ?_ ?_
  ·refine aZ<|aK rfl<|aU<|aP<|dD (fun a8=>nT  a8=some r) (fun a8 b9=>[]) (fun a8 b9=>[]) ?_ ?_
   ·refine aZ<|aE rfl<|eC (KS rfl) rfl<|aE rfl<|aU<|aY<|fW (iL U p0 p1) (fun a12 b13=>[(0,v4),(1,Value.func (.func 61) #[] #[vP b1]),(7,vI (List.length p1.2.2:Int)),(8,vI (a12))]) (fun a12 b13=>[bJ b1 [vS (p0.1),v0,v1] 42]) (0:Int) () h SF (bH.refl _) ?_
    intro k14 a12 b13 h
    refine aZ<|dL rfl<|aU<|aP ?_
    refine gT h rfl (fun h=>?_) fun h=>?_
    ·refine cC<|aP<|aY<|aZ<|aE rfl<|aK rfl<|aU<|aZ<|aE rfl<|aE rfl<|aE rfl<|fJ h fun j16 h=>aJ (a_ rfl rfl (KS rfl) rfl rfl j16) rfl<|mS (v:=v4) (ds:=p1.2.2) aO (KS rfl) fun us17=>?_
     refine cJ (bD ((e_ (bT (f:=aC) (fP rfl) j16.1 (by first|exact j16.2|simpa using j16.2))):aM _ _ (Sl bF ((at' us17 a12).1) ((at' p1.2.2 a12).2.1)))) ?_
     refine cJ (bD ((fA (bT (f:=aC) (rA rfl) j16.1 (by first|exact j16.2|simpa using j16.2))):aM _ _ (Sl aX ((at' us17 a12).2) ((at' p1.2.2 a12).2.2)))) ?_
     refine aJ (dY (cs:=[vS ((at' p1.2.2 a12).1),(at' us17 a12).1,(at' us17 a12).2]) rfl (rA rfl) rfl rfl rfl rfl ⟨j16.1,by first|exact j16.2|simpa using j16.2⟩) rfl<|fO h fun r18 w19 h=>aT (xH (vs:=[Value.agg #[vS ((at' p1.2.2 a12).1),(at' us17 a12).1,(at' us17 a12).2]]) (cs:=[vP b1]) UR rfl (CN U ((at' us17 a12).1) ((at' us17 a12).2) b1 v0 v1 r18 w19) rfl (aV.cons (fP rfl) (aV.cons (dN rfl) (aV.cons (aM.res 0 rfl) (gO [4,5] rfl)))) (fun _ _=>rfl)) rfl fun x20=>aU ?_
     refine gP h rfl (fun _ h=>?_) fun _ h=>?_
     ·refine aZ<|aE rfl<|aK rfl<|aU<|bE<|cG<|aR<|aR<|cG<|aR ?_
      exact pR (a12) () h (.inl rfl) (G_.r1 rfl (RV.tmp rfl)) rfl .nil (gO [4,5,6,7,8] rfl)
     refine eJ<|lP<|aS<|dM rfl<|aE rfl<|aU ?_
     exact dZ (wI .i64 (a12+(1:Int))) () h SF (bH.refl _) (gO [4,5,6,7,8] rfl)
    refine eQ ?_
    exact cK () (()) h SF .nil (aV.refl _ _)
   intro a8 b9 h
   unfold nT at h
   refine aZ<|aK rfl<|aU<|bE ?_
   exact pR (-1:Int) () h (.inl rfl) (G_.r1 rfl (RV.tmp rfl)) rfl (bH.refl _) (aV.refl _ _)
  intro a6 b7 h
  unfold iK at h
  refine aJ (jM rfl rfl) rfl<|aK rfl<|aU<|bE ?_
  exact pR (decide ((0:Int)<=a6)) () h (.inl rfl) (G_.r1 rfl (RV.tmp rfl)) rfl (bH.refl _) (aV.refl _ _)
 intro a3 b4 h
 unfold kH at h
 refine aK rfl<|aU<|bE ?_
 cases h
 exact kF rfl
end
section
def l_  (a4:Bool):Option (Bool):=
 some (a4)
def jU  (a7:Int):Option (Bool):=
 l_  (decide ((0:Int)<=a7))
def pJ  (a9:Unit):Option (Bool):=
 jU  (-1:Int)
def jV (U:Nat) (p0:cH) (p1:cH) (a13:Int) (ag12:(Int)->Option (Bool)):Option (Bool):=
 if a13<(List.length p0.2.2:Int)then(ck (0<=a13∧a13<(List.length p0.2.2:Int)) (Option.bind (lJ U ((((at' p0.2.2 a13).1),((at' p0.2.2 a13).2.1),((at' p0.2.2 a13).2.2))) ((p1.1,p1.2.1,p1.2.2))) fun r19=>(if r19=true then(jU  (a13))else(ag12 (wI .i64 (a13+(1:Int)))))))else(pJ  (()))
def kK (U:Nat) (p0:cH) (p1:cH):Option (Bool):=
 bZ (jV U p0 p1) U (0:Int)
theorem Qw:bO Tryz.prog 36:=Tryz.call36
theorem Bo (U:Nat) {p0:cH} {p1:cH} (v0:Value)  (v1:Value)  (v2:Value)  (v3:Value) (r:Bool) (h:kK U p0 p1=some r):
  bQ Tryz.prog 36 #[Value.agg #[vS (p0.1),v0,v1],Value.agg #[vS (p1.1),v2,v3]] [Sl aF v0 p0.2.1,Sl aD v1 p0.2.2,Sl aF v2 p1.2.1,Sl aD v3 p1.2.2] (fun x:Unit=>vB (r)) (fun x l=>l) (fun _ l=>l):=by
 refine bQ.of Tryz.func36 rfl Tryz.ntmps36 rfl fun c=>?_
 unfold kK at h
 refine aZ<|aT (aW.box (cs:=[vS (p0.1),v0,v1]) rfl rfl) rfl fun b1=>aT (aW.box (cs:=[vS (p1.1),v2,v3]) rfl rfl) rfl fun b2=>aK rfl<|aU<|aZ<|bP rfl<|dC 1 rfl<|aJ (Ba (cs:=[.tmp 3]) (vs:=[vP b2]) rfl) rfl<|xD (A:=Bool) (B:=Unit) (vs:=[v1,Value.func (.func 60) #[] #[vP b2]]) (fun a4=>l_  a4=some r) (fun a4 b5=>vB (a4)) (fun a4 b5=>[]) (fun a4 b5=>[Sl aF v0 p0.2.1,Sl aD v1 p0.2.2,Sl aF v2 p1.2.1,Sl aD v3 p1.2.2]) (xR.fn (show bO Tryz.prog 59 from Tryz.call59) rfl) Tryz.func59 rfl Tryz.ntmps59 rfl rfl ?_ ?_
 ·refine aZ<|aK rfl<|aU<|aZ<|aE rfl<|aE rfl<|xD (A:=Int) (B:=Unit) (vs:=[v1,Value.func (.func 60) #[] #[vP b2]]) (fun a7=>jU  a7=some r) (fun a7 b8=>vI (a7)) (fun a7 b8=>[]) (fun a7 b8=>[Sl aF v0 p0.2.1,Sl aD v1 p0.2.2,Sl aF v2 p1.2.1,Sl aD v3 p1.2.2]) (xR.fn (show bO Tryz.prog 85 from Tryz.call85) rfl) Tryz.func85 rfl Tryz.ntmps85 rfl rfl ?_ ?_
  ·refine aZ<|aK rfl<|aU<|aP<|dD (fun a9=>pJ  a9=some r) (fun a9 b10=>[]) (fun a9 b10=>[]) ?_ ?_
   ·refine aZ<|aE rfl<|eC (fP rfl) rfl<|aE rfl<|aU<|aY<|fW (jV U p0 p1) (fun a13 b14=>[(0,v1),(1,Value.func (.func 60) #[] #[vP b2]),(7,vI (List.length p0.2.2:Int)),(8,vI (a13))]) (fun a13 b14=>[bJ b2 [vS (p1.1),v2,v3] 25]) (0:Int) () h SF (bH.ix [0] rfl rfl) ?_
    intro k15 a13 b14 h
    refine aZ<|dL rfl<|aU<|aP ?_
    refine gT h rfl (fun h=>?_) fun h=>?_
    ·refine cC<|aP<|aY<|aZ<|aE rfl<|aK rfl<|aU<|aZ<|aE rfl<|aE rfl<|aE rfl<|fJ h fun j17 h=>aJ (a_ rfl rfl (fP rfl) rfl rfl j17) rfl<|mS (v:=v1) (ds:=p0.2.2) aO (fP rfl) fun us18=>?_
     refine cJ (bD ((e_ (bT (f:=aC) (fP rfl) j17.1 (by first|exact j17.2|simpa using j17.2))):aM _ _ (Sl bF ((at' us18 a13).1) ((at' p0.2.2 a13).2.1)))) ?_
     refine cJ (bD ((fA (bT (f:=aC) (rA rfl) j17.1 (by first|exact j17.2|simpa using j17.2))):aM _ _ (Sl aX ((at' us18 a13).2) ((at' p0.2.2 a13).2.2)))) ?_
     refine aJ (dY (cs:=[vS ((at' p0.2.2 a13).1),(at' us18 a13).1,(at' us18 a13).2]) rfl (rA rfl) rfl rfl rfl rfl ⟨j17.1,by first|exact j17.2|simpa using j17.2⟩) rfl<|fO h fun r19 w20 h=>aT (xH (vs:=[Value.agg #[vS ((at' p0.2.2 a13).1),(at' us18 a13).1,(at' us18 a13).2]]) (cs:=[vP b2]) UQ rfl (DF U ((at' us18 a13).1) ((at' us18 a13).2) b2 v2 v3 r19 w20) rfl (aV.cons (fP rfl) (aV.cons (dN rfl) (aV.cons (aM.res 0 rfl) (gO [6,7] rfl)))) (fun _ _=>rfl)) rfl fun x21=>aU ?_
     refine gP h rfl (fun _ h=>?_) fun _ h=>?_
     ·refine aZ<|aE rfl<|aK rfl<|aU<|bE<|cG<|aR<|aR<|cG<|aR ?_
      exact pR (a13) () h (.inl rfl) (G_.r1 rfl (RV.tmp rfl)) rfl .nil (gO [4,5,6,7] rfl)
     refine eJ<|lP<|aS<|dM rfl<|aE rfl<|aU ?_
     exact dZ (wI .i64 (a13+(1:Int))) () h SF (bH.refl _) (gO [4,5,6,7] rfl)
    refine eQ ?_
    exact cK () (()) h SF .nil (aV.refl _ _)
   intro a9 b10 h
   unfold pJ at h
   refine aZ<|aK rfl<|aU<|bE ?_
   exact pR (-1:Int) () h (.inl rfl) (G_.r1 rfl (RV.tmp rfl)) rfl (bH.refl _) (aV.refl _ _)
  intro a7 b8 h
  unfold jU at h
  refine aJ (jM rfl rfl) rfl<|aK rfl<|aU<|bE ?_
  exact pR (decide ((0:Int)<=a7)) () h (.inl rfl) (G_.r1 rfl (RV.tmp rfl)) rfl (bH.refl _) (aV.refl _ _)
 intro a4 b5 h
 unfold l_ at h
 refine aK rfl<|aU<|bE ?_
 cases h
 exact kF rfl
end
section
def qV  (a5:cU):Option cU:=
 some (a5)
def mW (p0:cH) (p1:Int) (a10:Int×cU) (ag9:(Int×cU)->Option cU):Option cU:=
 if a10.1<(List.length (List.replicate (Int.toNat (List.length p0.2.1:Int)) (0:Int)):Int)then(ck (0<=a10.1∧a10.1<(List.length a10.2:Int)) (ag9 ((wI .i64 (a10.1+(1:Int))),(List.set a10.2 (Int.toNat a10.1) (wI .i64 (p1+a10.1))))))else(qV  (a10.2))
def iF (U:Nat) (p0:cH) (p1:Int):Option cU:=
 ck (0<=(List.length p0.2.1:Int)∧(List.length p0.2.1:Int)<=1099511627) (bZ (mW p0 p1) U ((0:Int),(List.replicate (Int.toNat (List.length p0.2.1:Int)) (0:Int))))
theorem MK:bO Tryz.prog 37:=Tryz.call37
theorem yT (U:Nat) {p0:cH} {p1:Int} (v0:Value)  (v1:Value) (r:cU) (h:iF U p0 p1=some r):
  bQ Tryz.prog 37 #[Value.agg #[vS (p0.1),v0,v1],vI (p1)] [Sl aF v0 p0.2.1,Sl aD v1 p0.2.2] (fun x:Value=>x) (fun x l=>Ar gZ x r::l) (fun _ l=>l):=by
 refine bQ.of Tryz.func37 rfl Tryz.ntmps37 rfl fun c=>?_
 refine aZ<|aT (aW.box (cs:=[vS (p0.1),v0,v1]) rfl rfl) rfl fun b1=>aK rfl<|aU<|aZ<|bP rfl<|dC 0 rfl<|eC (dN rfl) rfl<|fJ h fun j2 h=>aT (Cq (e:=gZ) (0:Int) rfl rfl rfl rfl j2 rfl rfl rfl) rfl fun u3=>aK rfl<|aU<|aP<|dD (fun a5=>qV  a5=some r) (fun a5 b6=>[(5,u3)]) (fun a5 b6=>[Ar gZ u3 a5]) ?_ ?_
 ·refine aZ<|aE rfl<|aJ (dR rfl (aM.ar (aM.res 0 rfl) jF) rfl) rfl<|aE rfl<|aU<|aY<|fW (mW p0 p1) (fun a10 b11=>[(1,vI (p1)),(5,u3),(12,vI (List.length (List.replicate (Int.toNat (List.length p0.2.1:Int)) (0:Int)):Int)),(13,vI (a10.1))]) (fun a10 b11=>[Ar gZ u3 a10.2]) ((0:Int),(List.replicate (Int.toNat (List.length p0.2.1:Int)) (0:Int))) () h SF (bH.ix [0] rfl rfl) ?_
  intro k12 a10 b11 h
  refine aZ<|dL rfl<|aU<|aP ?_
  refine gT h rfl (fun h=>?_) fun h=>?_
  ·refine cC<|aP<|aY<|aZ<|aE rfl<|aK rfl<|aU<|aS<|aE rfl<|aE rfl<|aE rfl<|aE rfl<|dM rfl<|fJ h fun j14 h=>aJ (a_ rfl rfl (aM.ar (aM.res 0 rfl) jF) rfl rfl j14) rfl<|Dg 0 (wI .i64 (p1+a10.1)) j14 rfl rfl rfl rfl rfl rfl rfl<|fQ<|lP<|aS<|dM rfl<|aE rfl<|aU ?_
   exact BR ((wI .i64 (a10.1+(1:Int))),(List.set a10.2 (Int.toNat a10.1) (wI .i64 (p1+a10.1)))) () h SF rfl
  refine eQ ?_
  exact cZ (a10.2) () h SF rfl
 intro a5 b6 h
 unfold qV at h
 refine aZ<|aE rfl<|aK rfl<|aU<|bE ?_
 cases h
 exact uD (u3) rfl rfl (RV.tmp rfl) (bH.refl _) aV.nil
end
end Go.Proofs.YthnplbmmlbnelaaGreat
end
