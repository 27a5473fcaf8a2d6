/- Models and proofs. Conditions: none. -/
import Derived.Test.YthnplbmmlbnelaaGreatZCLy3
import Derived.Test.YthnplbmmlbnelaaGreatZCLy2
set_option linter.unusedVariables false
set_option linter.unusedSimpArgs false
set_option maxHeartbeats 4000000
set_option maxRecDepth 20000
section
namespace Go.Proofs.YthnplbmmlbnelaaGreat
open Go.Sx
section
def qB  (a17:Unit):Option (Int):=
 some (0:Int)
def mO (U:Nat) (p0:dZ) (r14:bV) (a21:Int) (ag20:(Int)->Option (Int)):Option (Int):=
 if a21<(List.length p0.2.2:Int)then(ck (0<=a21∧a21<(List.length p0.2.2:Int)) (Option.bind (wJ U ((((at' p0.2.2 a21).1),((at' p0.2.2 a21).2.1),((at' p0.2.2 a21).2.2))) r14) fun r30=>(if(!r30)=true then(some (6:Int))else(ag20 (wI .i64 (a21+(1:Int)))))))else(qB  (()))
def vA (U:Nat) (p0:dZ) (a12:Unit):Option (Int):=
 Option.bind (wG U ((p0.1,p0.2.1,p0.2.2))) fun r14=>(bH (mO U p0 r14) U (0:Int))
def mP (U:Nat) (p0:dZ) (a36:Int) (ag35:(Int)->Option (Int)):Option (Int):=
 if a36<(List.length p0.2.2:Int)then(ck (0<=a36∧a36<(List.length p0.2.2:Int)) (Option.bind (uH U ((((at' p0.2.2 a36).1),((at' p0.2.2 a36).2.1),((at' p0.2.2 a36).2.2))) (List.length p0.2.1:Int)) fun r45=>(if(!r45)=true then(some (7:Int))else(ag35 (wI .i64 (a36+(1:Int)))))))else(vA U p0 (()))
def qA (U:Nat) (p0:dZ) (a10:Unit):Option (Int):=
 bH (mP U p0) U (0:Int)
def mQ (U:Nat) (p0:dZ) (a51:Int) (ag50:(Int)->Option (Int)):Option (Int):=
 if a51<(List.length p0.2.1:Int)then(ck (0<=a51∧a51<(List.length p0.2.1:Int)) (Option.bind (sQ U ((((at' p0.2.1 a51).1),((at' p0.2.1 a51).2.1),((at' p0.2.1 a51).2.2.1),((at' p0.2.1 a51).2.2.2.1),((at' p0.2.1 a51).2.2.2.2.1),((at' p0.2.1 a51).2.2.2.2.2)))) fun r57=>(if(!r57)=true then(some (2:Int))else(ag50 (wI .i64 (a51+(1:Int)))))))else(qA U p0 (()))
def p_ (U:Nat) (p0:dZ) (a3:Bool):Option (Int):=
 if a3=true then(some (3:Int))else(Option.bind (wH U ((p0.1,p0.2.1,p0.2.2))) fun r6=>(if(!r6)=true then(some (5:Int))else(bH (mQ U p0) U (0:Int))))
def wF (U:Nat) (p0:dZ):Option (Int):=
 if(List.length p0.2.1:Int)=(0:Int)then(p_ U p0 (true))else(if(6:Int)<(List.length p0.2.1:Int)then(p_ U p0 (true))else(p_ U p0 (decide ((12:Int)<(List.length p0.2.2:Int)))))
theorem SZ:bE Tryz.prog 50:=Tryz.call50
theorem GA (U:Nat) {p0:dZ} (v0:Value)  (v1:Value) (r:Int) (h:wF U p0=some r):
  aZ Tryz.prog 50 #[Value.agg #[vS (p0.1),v0,v1]] [Sl aQ v0 p0.2.1,Sl aK v1 p0.2.2] (fun x:Unit=>vI (r)) (fun x l=>l) (fun _ l=>l):=by
 refine aZ.of Tryz.func50 rfl Tryz.ntmps50 rfl fun c=>?_
 refine aT<|aN (aR.box (cs:=[vS (p0.1),v0,v1]) rfl rfl) rfl fun b1=>aB rfl<|aL<|aI<|aI<|cF (fun a3=>p_ U p0 a3=some r) (fun a3 b4=>[(1,vP b1),(25,vB (a3))]) (fun a3 b4=>[dD b1 [vS (p0.1),v0,v1] 25]) ?_ ?_
 ·refine aH<|bQ rfl<|cM 0 rfl<|cY (dB rfl) rfl<|cH rfl<|aA rfl ?_
  refine mW h rfl (fun _ h=>?_) fun _ h=>?_
  ·refine aC rfl<|aC rfl<|aC rfl<|aC rfl<|bO rfl<|aA rfl<|aC rfl<|aC rfl<|aC rfl<|aC rfl<|bO rfl<|aL ?_
   exact b_ (true) () h SF rfl
  refine aF rfl (bW rfl rfl rfl rfl rfl) rfl<|aF rfl (cI 0 rfl rfl rfl rfl rfl) rfl<|aF rfl (eX rfl (dB rfl) rfl) rfl<|aF rfl (pF rfl rfl) rfl<|bR rfl<|aA rfl ?_
  refine mW h rfl (fun _ h=>?_) fun _ h=>?_
  ·refine aC rfl<|aC rfl<|aC rfl<|aC rfl<|bO rfl<|aL ?_
   exact b_ (true) () h SF rfl
  refine aF rfl (bW rfl rfl rfl rfl rfl) rfl<|aF rfl (cI 0 rfl rfl rfl rfl rfl) rfl<|aF rfl (eX rfl (eZ rfl) rfl) rfl<|aF rfl (pF rfl rfl) rfl<|bR rfl<|aL ?_
  exact b_ (decide ((12:Int)<(List.length p0.2.2:Int))) () h SF rfl
 intro a3 b4 h
 refine eY h rfl (fun _ h=>?_) fun _ h=>?_
 ·refine aT<|aB rfl<|aL<|aS<|aG ?_
  cases h
  exact vF rfl
 refine bJ<|aI<|aT<|l_ 0 rfl<|eM h fun r6 w7 h=>aN (aR.callQ Td (GC U v0 v1 r6 w7) rfl (hI [0,1] rfl)) rfl fun x8=>aD (eC rfl) rfl<|aL ?_
 refine eY h rfl (fun _ h=>?_) fun _ h=>?_
 ·refine aT<|aB rfl<|aL<|aS<|aG ?_
  cases h
  exact vF rfl
 refine bJ<|aI<|cF (fun a10=>qA U p0 a10=some r) (fun a10 b11=>[(1,vP b1)]) (fun a10 b11=>[dD b1 [vS (p0.1),v0,v1] 25]) ?_ ?_
 ·refine aT<|bQ rfl<|cM 0 rfl<|cY (dB rfl) rfl<|aA rfl<|aL<|aP<|eH (mQ U p0) (fun a51 b52=>[(1,vP b1),(30,v0),(31,vI (List.length p0.2.1:Int)),(32,vI (a51))]) (fun a51 b52=>[dD b1 [vS (p0.1),v0,v1] 25]) (0:Int) () h SF (bK.refl _) ?_
  intro k53 a51 b52 h
  refine aT<|cZ rfl<|aL<|aI ?_
  refine fG h rfl (fun h=>?_) fun h=>?_
  ·refine bJ<|aI<|aP<|aT<|eO h fun j55 h=>aD (aU rfl rfl (dB rfl) rfl rfl j55) rfl<|aD (fO (cs:=[vS ((at' p0.2.1 a51).1),vI ((at' p0.2.1 a51).2.1),vI ((at' p0.2.1 a51).2.2.1),vI ((at' p0.2.1 a51).2.2.2.1),vI ((at' p0.2.1 a51).2.2.2.2.1),vI ((at' p0.2.1 a51).2.2.2.2.2)]) rfl (dB rfl) bU rfl rfl rfl rfl j55) rfl<|aN (aR.alloc (cs:=Wi) rfl rfl) rfl fun b56=>cC 0 (vs:=[vS ((at' p0.2.1 a51).1),vI ((at' p0.2.1 a51).2.1),vI ((at' p0.2.1 a51).2.2.1),vI ((at' p0.2.1 a51).2.2.2.1),vI ((at' p0.2.1 a51).2.2.2.2.1),vI ((at' p0.2.1 a51).2.2.2.2.2)]) rfl rfl rfl rfl rfl rfl<|aL<|aT<|l_ 0 rfl<|eM h fun r57 w58 h=>aN (aR.callQ Te (EA U  r57 w58) rfl .nil) rfl fun x59=>aD (eC rfl) rfl<|aL ?_
   refine eY h rfl (fun _ h=>?_) fun _ h=>?_
   ·refine aT<|aB rfl<|aL<|aS<|bP<|aG<|aG<|bP<|aG ?_
    cases h
    exact vF rfl
   refine cS<|kB<|aH<|cU rfl<|aA rfl<|aL ?_
   exact eK (wI .i64 (a51+(1:Int))) () h SF (bK.ix [1] rfl rfl) (aO.refl _ _)
  refine dY ?_
  exact b_ () (()) h SF rfl
 intro a10 b11 h
 unfold qA at h
 refine aI<|cF (fun a12=>vA U p0 a12=some r) (fun a12 b13=>[(1,vP b1)]) (fun a12 b13=>[dD b1 [vS (p0.1),v0,v1] 25]) ?_ ?_
 ·refine aT<|bQ rfl<|cM 0 rfl<|cY (eZ rfl) rfl<|aA rfl<|aL<|aP<|eH (mP U p0) (fun a36 b37=>[(1,vP b1),(41,v1),(42,vI (List.length p0.2.2:Int)),(43,vI (a36))]) (fun a36 b37=>[dD b1 [vS (p0.1),v0,v1] 25]) (0:Int) () h SF (bK.refl _) ?_
  intro k38 a36 b37 h
  refine aT<|cZ rfl<|aL<|aI ?_
  refine fG h rfl (fun h=>?_) fun h=>?_
  ·refine bJ<|aI<|aP<|aT<|eO h fun j40 h=>aD (aU rfl rfl (eZ rfl) rfl rfl j40) rfl<|oJ (v:=v1) (ds:=p0.2.2) aX (eZ rfl) fun us41=>?_
   refine c_ (bZ ((iY (bY (f:=aJ) (eZ rfl) j40.1 (by first|exact j40.2|simpa using j40.2))):aM _ _ (Sl aY ((at' us41 a36).1) ((at' p0.2.2 a36).2.1)))) ?_
   refine c_ (bZ ((iC (bY (f:=aJ) (Ck rfl) j40.1 (by first|exact j40.2|simpa using j40.2))):aM _ _ (Sl bA ((at' us41 a36).2) ((at' p0.2.2 a36).2.2)))) ?_
   refine aD (eP (cs:=[vS ((at' p0.2.2 a36).1),(at' us41 a36).1,(at' us41 a36).2]) rfl (Ck rfl) rfl rfl rfl rfl ⟨j40.1,by first|exact j40.2|simpa using j40.2⟩) rfl<|aN (aR.alloc (cs:=xJ) rfl rfl) rfl fun b42=>dG (Know.one ((eZ rfl))) fun ho43=>dG (Know.one ((dB rfl))) fun ho44=>cC 0 (vs:=[vS ((at' p0.2.2 a36).1),(at' us41 a36).1,(at' us41 a36).2]) rfl rfl (fE rfl (fE ho43 (fE ho44 rfl))) rfl rfl rfl<|aL<|aT<|l_ 0 rfl<|bQ rfl<|cM 1 rfl<|cY (dA 4 rfl) rfl<|eM h fun r45 w46 h=>aN (aR.callQ Tf (Ga U ((at' us41 a36).1) ((at' us41 a36).2) r45 w46) rfl (hI [1,0] rfl)) rfl fun x47=>aD (eC rfl) rfl<|aL ?_
   refine eY h rfl (fun _ h=>?_) fun _ h=>?_
   ·refine aT<|aB rfl<|aL<|aS<|bP<|aG<|aG<|bP<|aG ?_
    cases h
    exact vF rfl
   refine cS<|kB<|aH<|cU rfl<|aA rfl<|aL ?_
   exact eK (wI .i64 (a36+(1:Int))) () h SF (bK.ix [1] rfl rfl) (hI [4,5] rfl)
  refine dY ?_
  exact b_ () (()) h SF rfl
 intro a12 b13 h
 refine aT<|l_ 0 rfl<|eM h fun r14 w15 h=>aN (aR.callQ Tg (GB U v0 v1 r14 w15) rfl (hI [0,1] rfl)) rfl fun x16=>aB rfl<|aL<|aI<|cF (fun a17=>qB  a17=some r) (fun a17 b18=>[]) (fun a17 b18=>[]) ?_ ?_
 ·refine aT<|bQ rfl<|cM 1 rfl<|cY (eZ rfl) rfl<|aA rfl<|aL<|aP<|eH (mO U p0 r14) (fun a21 b22=>[(7,x16),(57,v1),(58,vI (List.length p0.2.2:Int)),(59,vI (a21))]) (fun a21 b22=>[Ar fK x16 r14]) (0:Int) () h SF (bK.ix [0] rfl rfl) ?_
  intro k23 a21 b22 h
  refine aT<|cZ rfl<|aL<|aI ?_
  refine fG h rfl (fun h=>?_) fun h=>?_
  ·refine bJ<|aI<|aP<|aT<|eO h fun j25 h=>aD (aU rfl rfl (eZ rfl) rfl rfl j25) rfl<|oJ (v:=v1) (ds:=p0.2.2) aX (eZ rfl) fun us26=>?_
   refine c_ (bZ ((iY (bY (f:=aJ) (eZ rfl) j25.1 (by first|exact j25.2|simpa using j25.2))):aM _ _ (Sl aY ((at' us26 a21).1) ((at' p0.2.2 a21).2.1)))) ?_
   refine c_ (bZ ((iC (bY (f:=aJ) (Ck rfl) j25.1 (by first|exact j25.2|simpa using j25.2))):aM _ _ (Sl bA ((at' us26 a21).2) ((at' p0.2.2 a21).2.2)))) ?_
   refine aD (eP (cs:=[vS ((at' p0.2.2 a21).1),(at' us26 a21).1,(at' us26 a21).2]) rfl (Ck rfl) rfl rfl rfl rfl ⟨j25.1,by first|exact j25.2|simpa using j25.2⟩) rfl<|aN (aR.alloc (cs:=xJ) rfl rfl) rfl fun b27=>dG (Know.one ((eZ rfl))) fun ho28=>dG (Know.one ((dB rfl))) fun ho29=>cC 0 (vs:=[vS ((at' p0.2.2 a21).1),(at' us26 a21).1,(at' us26 a21).2]) rfl rfl (fE rfl (fE ho28 (fE ho29 rfl))) rfl rfl rfl<|aL<|aT<|l_ 0 rfl<|aA rfl<|eM h fun r30 w31 h=>aN (aR.callQ Ti (GD U ((at' us26 a21).1) ((at' us26 a21).2) x16 r30 w31) rfl (aO.cons (eZ rfl) (aO.cons (dB rfl) (aO.cons (bT (aM.res 1 rfl) jD) .nil)))) rfl fun x32=>aD (eC rfl) rfl<|aL ?_
   refine eY h rfl (fun _ h=>?_) fun _ h=>?_
   ·refine aT<|aB rfl<|aL<|aS<|bP<|aG<|aG<|bP<|aG ?_
    cases h
    exact vF rfl
   refine cS<|kB<|aH<|cU rfl<|aA rfl<|aL ?_
   exact eK (wI .i64 (a21+(1:Int))) () h SF (bK.ix [1] rfl rfl) (hI [4,5] rfl)
  refine dY ?_
  exact bS () (()) h SF .nil (aO.refl _ _)
 intro a17 b18 h
 unfold qB at h
 refine aT<|aB rfl<|aL<|aS ?_
 cases h
 exact gU rfl
end
section
def rU (U:Nat) (p0:dZ):Option (Bool):=
 Option.bind (wF U ((p0.1,p0.2.1,p0.2.2))) fun r2=>(some (decide (r2=(0:Int))))
theorem Oi:bE Tryz.prog 21:=Tryz.call21
theorem BV (U:Nat) {p0:dZ} (v0:Value)  (v1:Value) (r:Bool) (h:rU U p0=some r):
  aZ Tryz.prog 21 #[Value.agg #[vS (p0.1),v0,v1]] [Sl aQ v0 p0.2.1,Sl aK v1 p0.2.2] (fun x:Unit=>vB (r)) (fun x l=>l) (fun _ l=>l):=by
 refine aZ.of Tryz.func21 rfl Tryz.ntmps21 rfl fun c=>?_
 refine aT<|aN (aR.box (cs:=[vS (p0.1),v0,v1]) rfl rfl) rfl fun b1=>aB rfl<|aL<|aT<|l_ 0 rfl<|eM h fun r2 w3 h=>aN (aR.callQ SZ (GA U v0 v1 r2 w3) rfl (hI [0,1] rfl)) rfl fun x4=>cH rfl<|aB rfl<|aL<|aS ?_
 cases h
 exact vF rfl
end
section
def pV  (a8:Unit):Option (Bool):=
 some (true)
def uQ (U:Nat) (p0:dZ) (a12:Int) (ag11:(Int)->Option (Bool)) (a16:Unit):Option (Bool):=
 ck (0<=a12∧a12<(List.length p0.2.2:Int)) (Option.bind (qP U ((at' p0.2.2 a12).1)) fun r19=>(if(!r19)=true then(some (false))else(ag11 (wI .i64 (a12+(1:Int))))))
def mH (U:Nat) (p0:dZ) (a12:Int) (ag11:(Int)->Option (Bool)) (a25:Int) (ag24:(Int)->Option (Bool)):Option (Bool):=
 if a25<a12 then(ck (0<=a25∧a25<(List.length p0.2.2:Int)) (ck (0<=a12∧a12<(List.length p0.2.2:Int)) (if(dC ((at' p0.2.2 a25).1) ((at' p0.2.2 a12).1))=true then(some (false))else(ag24 (wI .i64 (a25+(1:Int)))))))else(uQ U p0 a12 ag11 (()))
def iW (U:Nat) (p0:dZ) (a12:Int) (ag11:(Int)->Option (Bool)):Option (Bool):=
 if a12<(List.length p0.2.2:Int)then(bH (mH U p0 a12 ag11) U (0:Int))else(pV  (()))
def pU (U:Nat) (p0:dZ) (a6:Unit):Option (Bool):=
 bH (iW U p0) U (0:Int)
def uR (U:Nat) (p0:dZ) (a34:Int) (ag33:(Int)->Option (Bool)) (a38:Unit):Option (Bool):=
 ck (0<=a34∧a34<(List.length p0.2.1:Int)) (Option.bind (qP U ((at' p0.2.1 a34).1)) fun r41=>(if(!r41)=true then(some (false))else(ag33 (wI .i64 (a34+(1:Int))))))
def mI (U:Nat) (p0:dZ) (a34:Int) (ag33:(Int)->Option (Bool)) (a47:Int) (ag46:(Int)->Option (Bool)):Option (Bool):=
 if a47<a34 then(ck (0<=a47∧a47<(List.length p0.2.1:Int)) (ck (0<=a34∧a34<(List.length p0.2.1:Int)) (if(dC ((at' p0.2.1 a47).1) ((at' p0.2.1 a34).1))=true then(some (false))else(ag46 (wI .i64 (a47+(1:Int)))))))else(uR U p0 a34 ag33 (()))
def iX (U:Nat) (p0:dZ) (a34:Int) (ag33:(Int)->Option (Bool)):Option (Bool):=
 if a34<(List.length p0.2.1:Int)then(bH (mI U p0 a34 ag33) U (0:Int))else(pU U p0 (()))
def wD (U:Nat) (p0:dZ):Option (Bool):=
 Option.bind (qP U p0.1) fun r2=>(if(!r2)=true then(some (false))else(bH (iX U p0) U (0:Int)))
theorem Tj:bE Tryz.prog 79:=Tryz.call79
theorem Gw (U:Nat) {p0:dZ} (v0:Value)  (v1:Value) (r:Bool) (h:wD U p0=some r):
  aZ Tryz.prog 79 #[Value.agg #[vS (p0.1),v0,v1]] [Sl aQ v0 p0.2.1,Sl aK v1 p0.2.2] (fun x:Unit=>vB (r)) (fun x l=>l) (fun _ l=>l):=by
 refine aZ.of Tryz.func79 rfl Tryz.ntmps79 rfl fun c=>?_
 refine aT<|aN (aR.box (cs:=[vS (p0.1),v0,v1]) rfl rfl) rfl fun b1=>aB rfl<|aL<|aI<|aT<|bQ rfl<|cM 0 rfl<|eM h fun r2 w3 h=>aN (aR.callQ HJ (Aw U  r2 w3) rfl .nil) rfl fun x4=>aD (eC rfl) rfl<|aL ?_
 refine eY h rfl (fun _ h=>?_) fun _ h=>?_
 ·refine aT<|aB rfl<|aL<|aS<|aG ?_
  cases h
  exact vF rfl
 refine bJ<|aI<|cF (fun a6=>pU U p0 a6=some r) (fun a6 b7=>[(1,vP b1)]) (fun a6 b7=>[dD b1 [vS (p0.1),v0,v1] 25]) ?_ ?_
 ·refine aT<|aB rfl<|aL<|aP<|eH (iX U p0) (fun a34 b35=>[(1,vP b1),(3,vI (a34))]) (fun a34 b35=>[dD b1 [vS (p0.1),v0,v1] 25]) (0:Int) () h SF (bK.refl _) ?_
  intro k36 a34 b35 h
  refine aI<|aT<|aA rfl<|bQ rfl<|cM 0 rfl<|cY (dB rfl) rfl<|cZ rfl<|aL ?_
  refine fG h rfl (fun h=>?_) fun h=>?_
  ·refine bJ<|aI<|aP<|aI<|cF (fun a38=>uR U p0 a34 (bH (iX U p0) k36) a38=some r) (fun a38 b39=>[(1,vP b1),(3,vI (a34))]) (fun a38 b39=>[dD b1 [vS (p0.1),v0,v1] 25]) ?_ ?_
   ·refine aT<|aB rfl<|aL<|aP<|eH (mI U p0 a34 (bH (iX U p0) k36)) (fun a47 b48=>[(1,vP b1),(3,vI (a34)),(4,vI (a47))]) (fun a47 b48=>[dD b1 [vS (p0.1),v0,v1] 25]) (0:Int) () h SF (bK.refl _) ?_
    intro k49 a47 b48 h
    refine aI<|aT<|aA rfl<|aA rfl<|cZ rfl<|aL ?_
    refine fG h rfl (fun h=>?_) fun h=>?_
    ·refine bJ<|aI<|aP<|aI ?_
     refine Gi [0,1,0,7,15,31,0,64,0,448,960,1984,4095] 12 mixedOrders ?_
     refine lV rfl<|tO 0 rfl<|cR rfl<|eO h fun j51 h=>cN rfl .nil (lN 0 rfl) (aU rfl rfl (dB rfl) rfl rfl j51) bD.z<|rH rfl (cB rfl rfl rfl rfl rfl)<|cN rfl .nil (lN 0 rfl) (eQ rfl (dB rfl) rfl rfl rfl oK j51) bD.z<|lV rfl<|tO 0 rfl<|cR rfl<|eO h fun j52 h=>cN rfl .nil (lN 0 rfl) (aU rfl rfl (dB rfl) rfl rfl j52) bD.z<|rH rfl (cB rfl rfl rfl rfl rfl)<|cN rfl .nil (lN 0 rfl) (eQ rfl (dB rfl) rfl rfl rfl oK j52) bD.z<|dM 12 rfl rfl<|aD (cX rfl rfl) rfl<|aL ?_
     refine eY h rfl (fun _ h=>?_) fun _ h=>?_
     ·refine aT<|aB rfl<|aL<|aS<|bP<|aG<|aG<|bP<|aG<|bP<|aG<|aG<|bP<|aG ?_
      cases h
      exact vF rfl
     refine cS<|kB<|aH<|aA rfl<|cU rfl<|aB rfl<|aL ?_
     exact AC (wI .i64 (a47+(1:Int))) () h SF rfl
    refine dY ?_
    exact b_ () (()) h SF rfl
   intro a38 b39 h
   refine aT<|bQ rfl<|cM 0 rfl<|aA rfl<|eO h fun j40 h=>aD (aU rfl rfl (dB rfl) rfl rfl j40) rfl<|aD (cB rfl rfl rfl rfl rfl) rfl<|aD (eQ rfl (dB rfl) rfl rfl rfl oK j40) rfl<|eM h fun r41 w42 h=>aN (aR.callQ HJ (Aw U  r41 w42) rfl .nil) rfl fun x43=>aD (eC rfl) rfl<|aL ?_
   refine eY h rfl (fun _ h=>?_) fun _ h=>?_
   ·refine aT<|aB rfl<|aL<|aS<|bP<|aG<|aG<|bP<|aG ?_
    cases h
    exact vF rfl
   refine cS<|kB<|aH<|aA rfl<|cU rfl<|aB rfl<|aL ?_
   exact AC (wI .i64 (a34+(1:Int))) () h SF rfl
  refine dY ?_
  exact b_ () (()) h SF rfl
 intro a6 b7 h
 unfold pU at h
 refine aI<|cF (fun a8=>pV  a8=some r) (fun a8 b9=>[]) (fun a8 b9=>[]) ?_ ?_
 ·refine aT<|aB rfl<|aL<|aP<|eH (iW U p0) (fun a12 b13=>[(1,vP b1),(5,vI (a12))]) (fun a12 b13=>[dD b1 [vS (p0.1),v0,v1] 25]) (0:Int) () h SF (bK.refl _) ?_
  intro k14 a12 b13 h
  refine aI<|aT<|aA rfl<|bQ rfl<|cM 0 rfl<|cY (eZ rfl) rfl<|cZ rfl<|aL ?_
  refine fG h rfl (fun h=>?_) fun h=>?_
  ·refine bJ<|aI<|aP<|aI<|cF (fun a16=>uQ U p0 a12 (bH (iW U p0) k14) a16=some r) (fun a16 b17=>[(1,vP b1),(5,vI (a12))]) (fun a16 b17=>[dD b1 [vS (p0.1),v0,v1] 25]) ?_ ?_
   ·refine aT<|aB rfl<|aL<|aP<|eH (mH U p0 a12 (bH (iW U p0) k14)) (fun a25 b26=>[(1,vP b1),(5,vI (a12)),(6,vI (a25))]) (fun a25 b26=>[dD b1 [vS (p0.1),v0,v1] 25]) (0:Int) () h SF (bK.refl _) ?_
    intro k27 a25 b26 h
    refine aI<|aT<|aA rfl<|aA rfl<|cZ rfl<|aL ?_
    refine fG h rfl (fun h=>?_) fun h=>?_
    ·refine bJ<|aI<|aP<|aI ?_
     refine Gi [0,1,0,7,15,31,0,64,0,448,960,1984,4095] 12 mixedOrders ?_
     refine lV rfl<|tO 0 rfl<|cR rfl<|eO h fun j29 h=>cN rfl .nil (lN 1 rfl) (aU rfl rfl (dB rfl) rfl rfl j29) bD.z<|rH rfl (cB rfl rfl rfl rfl rfl)<|cN rfl .nil (lN 1 rfl) (eQ rfl (dB rfl) rfl rfl rfl gG j29) bD.z<|lV rfl<|tO 0 rfl<|cR rfl<|eO h fun j30 h=>cN rfl .nil (lN 1 rfl) (aU rfl rfl (dB rfl) rfl rfl j30) bD.z<|rH rfl (cB rfl rfl rfl rfl rfl)<|cN rfl .nil (lN 1 rfl) (eQ rfl (dB rfl) rfl rfl rfl gG j30) bD.z<|dM 12 rfl rfl<|aD (cX rfl rfl) rfl<|aL ?_
     refine eY h rfl (fun _ h=>?_) fun _ h=>?_
     ·refine aT<|aB rfl<|aL<|aS<|bP<|aG<|aG<|bP<|aG<|bP<|aG<|aG<|bP<|aG ?_
      cases h
      exact vF rfl
     refine cS<|kB<|aH<|aA rfl<|cU rfl<|aB rfl<|aL ?_
     exact AC (wI .i64 (a25+(1:Int))) () h SF rfl
    refine dY ?_
    exact b_ () (()) h SF rfl
   intro a16 b17 h
   refine aT<|bQ rfl<|cM 0 rfl<|aA rfl<|eO h fun j18 h=>aD (aU rfl rfl (eZ rfl) rfl rfl j18) rfl<|aD (cB rfl rfl rfl rfl rfl) rfl<|aD (eQ rfl (eZ rfl) rfl rfl rfl gG j18) rfl<|eM h fun r19 w20 h=>aN (aR.callQ HJ (Aw U  r19 w20) rfl .nil) rfl fun x21=>aD (eC rfl) rfl<|aL ?_
   refine eY h rfl (fun _ h=>?_) fun _ h=>?_
   ·refine aT<|aB rfl<|aL<|aS<|bP<|aG<|aG<|bP<|aG ?_
    cases h
    exact vF rfl
   refine cS<|kB<|aH<|aA rfl<|cU rfl<|aB rfl<|aL ?_
   exact AC (wI .i64 (a12+(1:Int))) () h SF rfl
  refine dY ?_
  exact bS () (()) h SF .nil (aO.refl _ _)
 intro a8 b9 h
 unfold pV at h
 refine aT<|aB rfl<|aL<|aS ?_
 cases h
 exact gU rfl
end
section
def nQ  (a6:Unit):Option (Bool):=
 some (true)
def nR (a10:Int) (ag9:(Int)->Option (Bool)) (a14:Unit):Option (Bool):=
 ag9 (wI .i64 (a10+(1:Int)))
def kW (p0:oM) (a10:Int) (ag9:(Int)->Option (Bool)) (a22:Int) (ag21:(Int)->Option (Bool)):Option (Bool):=
 if a22<a10 then(ck (0<=a22∧a22<(List.length p0.2.2:Int)) (ck (0<=a10∧a10<(List.length p0.2.2:Int)) (if((at' p0.2.2 a22).1)=((at' p0.2.2 a10).1)then(some (false))else(ag21 (wI .i64 (a22+(1:Int)))))))else(nR a10 ag9 (()))
def tC (U:Nat) (p0:oM) (a10:Int) (ag9:(Int)->Option (Bool)) (a17:Bool):Option (Bool):=
 if a17=true then(some (false))else(bH (kW p0 a10 ag9) U (0:Int))
def fW (U:Nat) (p0:oM) (p1:Int) (a10:Int) (ag9:(Int)->Option (Bool)):Option (Bool):=
 if a10<(List.length p0.2.2:Int)then(ck (0<=a10∧a10<(List.length p0.2.2:Int)) (Option.bind (kD U ((at' p0.2.2 a10).1) (0:Int) (wI .i64 (p1 - (1:Int)))) fun r30=>(if(!r30)=true then(tC U p0 a10 ag9 (true))else(ck (0<=a10∧a10<(List.length p0.2.2:Int)) (Option.bind (gK U ((at' p0.2.2 a10).2) p1) fun r36=>(tC U p0 a10 ag9 ((!r36))))))))else(nQ  (()))
def tB (U:Nat) (p0:oM) (p1:Int) (a3:Bool):Option (Bool):=
 if a3=true then(some (false))else(bH (fW U p0 p1) U (0:Int))
def uC (U:Nat) (p0:oM) (p1:Int):Option (Bool):=
 Option.bind (kD U (List.length p0.2.2:Int) (1:Int) (6:Int)) fun r39=>(if(!r39)=true then(tB U p0 p1 (true))else(Option.bind (gK U p0.2.1 p1) fun r43=>(tB U p0 p1 ((!r43)))))
theorem Tl:bE Tryz.prog 81:=Tryz.call81
theorem FW (U:Nat) {p0:oM} {p1:Int} (v0:Value)  (v1:Value) (r:Bool) (h:uC U p0 p1=some r):
  aZ Tryz.prog 81 #[Value.agg #[vS (p0.1),v0,v1],vI (p1)] [Sl aY v0 p0.2.1,Sl bA v1 p0.2.2] (fun x:Unit=>vB (r)) (fun x l=>l) (fun _ l=>l):=by
 refine aZ.of Tryz.func81 rfl Tryz.ntmps81 rfl fun c=>?_
 refine aT<|aN (aR.box (cs:=[vS (p0.1),v0,v1]) rfl rfl) rfl fun b1=>aB rfl<|aL<|aI<|aI<|cF (fun a3=>tB U p0 p1 a3=some r) (fun a3 b4=>[(1,vI (p1)),(2,vP b1),(18,vB (a3))]) (fun a3 b4=>[dD b1 [vS (p0.1),v0,v1] 42]) ?_ ?_
 ·refine aH<|bQ rfl<|cM 0 rfl<|cY (eZ rfl) rfl<|eM h fun r39 w40 h=>aN (aR.callQ A_ (pY U  r39 w40) rfl .nil) rfl fun x41=>aD (eC rfl) rfl<|aA rfl ?_
  refine e_ (by exact rfl) (by exact rfl) (fun hp42=>?_) (fun hp42=>?_)
  ·have h:=Ak hp42 h
   refine aC rfl<|aC rfl<|aC rfl<|aC rfl<|aC rfl<|bO rfl<|aL ?_
   exact b_ (true) () h SF rfl
  have h:=rI hp42 h
  refine aF rfl (bW rfl rfl rfl rfl rfl) rfl<|aF rfl (cI 0 rfl rfl rfl rfl rfl) rfl<|bM rfl<|eM h fun r43 w44 h=>fA rfl (aR.callQ HL (wV U v0 r43 w44) rfl (hI [0] rfl)) rfl fun x45=>aF rfl (eC rfl) rfl<|bR rfl<|aL ?_
  exact b_ ((!r43)) () h SF rfl
 intro a3 b4 h
 refine eY h rfl (fun _ h=>?_) fun _ h=>?_
 ·refine aT<|aB rfl<|aL<|aS<|aG ?_
  cases h
  exact vF rfl
 refine bJ<|aI<|cF (fun a6=>nQ  a6=some r) (fun a6 b7=>[]) (fun a6 b7=>[]) ?_ ?_
 ·refine aT<|aB rfl<|aL<|aP<|eH (fW U p0 p1) (fun a10 b11=>[(1,vI (p1)),(2,vP b1),(5,vI (a10))]) (fun a10 b11=>[dD b1 [vS (p0.1),v0,v1] 42]) (0:Int) () h SF (bK.refl _) ?_
  intro k12 a10 b11 h
  refine aI<|aT<|aA rfl<|bQ rfl<|cM 0 rfl<|cY (eZ rfl) rfl<|cZ rfl<|aL ?_
  refine fG h rfl (fun h=>?_) fun h=>?_
  ·refine bJ<|aI<|cF (fun a14=>nR a10 (bH (fW U p0 p1) k12) a14=some r) (fun a14 b15=>[(1,vI (p1)),(2,vP b1),(5,vI (a10))]) (fun a14 b15=>[dD b1 [vS (p0.1),v0,v1] 42]) ?_ ?_
   ·refine aP<|aI<|aI<|cF (fun a17=>tC U p0 a10 (bH (fW U p0 p1) k12) a17=some r) (fun a17 b18=>[(1,vI (p1)),(2,vP b1),(5,vI (a10)),(46,vB (a17))]) (fun a17 b18=>[dD b1 [vS (p0.1),v0,v1] 42]) ?_ ?_
    ·refine aH<|bQ rfl<|cM 0 rfl<|aA rfl<|eO h fun j29 h=>aD (aU rfl rfl (eZ rfl) rfl rfl j29) rfl<|aD (cB rfl rfl rfl rfl rfl) rfl<|aD (eQ rfl (eZ rfl) rfl rfl rfl hJ j29) rfl<|aA rfl<|aD (vL rfl rfl) rfl<|eM h fun r30 w31 h=>aN (aR.callQ A_ (pY U  r30 w31) rfl .nil) rfl fun x32=>aD (eC rfl) rfl<|aA rfl ?_
     refine e_ (by exact rfl) (by exact rfl) (fun hp33=>?_) (fun hp33=>?_)
     ·have h:=Ak hp33 h
      refine aC rfl<|aC rfl<|aC rfl<|aC rfl<|aC rfl<|aC rfl<|aC rfl<|aC rfl<|aC rfl<|bO rfl<|aL ?_
      exact b_ (true) () h SF rfl
     have h:=rI hp33 h
     refine aF rfl (bW rfl rfl rfl rfl rfl) rfl<|aF rfl (cI 0 rfl rfl rfl rfl rfl) rfl<|bM rfl<|eO h fun j34 h=>aF rfl (aU rfl rfl (eZ rfl) rfl rfl j34) rfl<|aF rfl (cB rfl rfl rfl rfl rfl) rfl<|oJ (v:=v1) (ds:=p0.2.2) cL (eZ rfl) fun us35=>?_
     refine c_ (bZ ((bY (f:=cG) (eZ rfl) j34.1 (by first|exact j34.2|simpa using j34.2)):aM _ _ (Sl aY (at' us35 a10) ((at' p0.2.2 a10).2)))) ?_
     refine aF rfl (tR (gv:=fun x=>x) rfl (eZ rfl) rfl rfl rfl jE ⟨j34.1,by first|exact j34.2|simpa using j34.2⟩) rfl<|bM rfl<|eM h fun r36 w37 h=>fA rfl (aR.callQ HL (wV U (at' us35 a10) r36 w37) rfl (hI [0] rfl)) rfl fun x38=>aF rfl (eC rfl) rfl<|bR rfl<|aL ?_
     exact bS ((!r36)) () h SF (bK.refl _) (hI [3,4] rfl)
    intro a17 b18 h
    refine eY h rfl (fun _ h=>?_) fun _ h=>?_
    ·refine aT<|aB rfl<|aL<|aS<|aG<|bP<|aG<|aG<|bP<|aG ?_
     cases h
     exact vF rfl
    refine bJ<|aT<|aB rfl<|aL<|aP<|eH (kW p0 a10 (bH (fW U p0 p1) k12)) (fun a22 b23=>[(1,vI (p1)),(2,vP b1),(5,vI (a10)),(6,vI (a22))]) (fun a22 b23=>[dD b1 [vS (p0.1),v0,v1] 42]) (0:Int) () h SF (bK.refl _) ?_
    intro k24 a22 b23 h
    refine aI<|aT<|aA rfl<|aA rfl<|cZ rfl<|aL ?_
    refine fG h rfl (fun h=>?_) fun h=>?_
    ·refine bJ<|aI<|aP<|aI ?_
     refine Gi [0,1,0,7,15,31,0,64,0,448,960,1984,4095] 12 mixedOrders ?_
     refine lV rfl<|tO 0 rfl<|cR rfl<|eO h fun j26 h=>cN rfl .nil (lN 1 rfl) (aU rfl rfl (dB rfl) rfl rfl j26) bD.z<|rH rfl (cB rfl rfl rfl rfl rfl)<|cN rfl .nil (lN 1 rfl) (eQ rfl (dB rfl) rfl rfl rfl hJ j26) bD.z<|lV rfl<|tO 0 rfl<|cR rfl<|eO h fun j27 h=>cN rfl .nil (lN 1 rfl) (aU rfl rfl (dB rfl) rfl rfl j27) bD.z<|rH rfl (cB rfl rfl rfl rfl rfl)<|cN rfl .nil (lN 1 rfl) (eQ rfl (dB rfl) rfl rfl rfl hJ j27) bD.z<|dM 12 rfl rfl<|cH rfl<|aL ?_
     refine fG h rfl (fun h=>?_) fun h=>?_
     ·refine aT<|aB rfl<|aL<|aS<|bP<|aG<|aG<|bP<|bP<|aG<|aG<|bP<|aG ?_
      cases h
      exact vF rfl
     refine cS<|kB<|aH<|aA rfl<|cU rfl<|aB rfl<|aL ?_
     exact AC (wI .i64 (a22+(1:Int))) () h SF rfl
    refine Dq<|sJ<|sJ<|GL<|kB ?_
    exact b_ () (()) h SF rfl
   intro a14 b15 h
   unfold nR at h
   refine aH<|aA rfl<|cU rfl<|aB rfl<|aL ?_
   exact AC (wI .i64 (a10+(1:Int))) () h SF rfl
  refine dY ?_
  exact bS () (()) h SF .nil (aO.refl _ _)
 intro a6 b7 h
 unfold nQ at h
 refine aT<|aB rfl<|aL<|aS ?_
 cases h
 exact gU rfl
end
section
def uP  (a4:bV):Option bV:=
 some (a4)
def pT (p0:dZ) (a10:bV×Int) (ag9:(bV×Int)->Option bV):Option bV:=
 if a10.2<(List.length p0.2.1:Int)then(ck (0<=a10.2∧a10.2<(List.length p0.2.1:Int)) (ck ((List.length a10.1:Int)+(List.length ([((at' p0.2.1 a10.2).2.1)]):Int)<=1099511627) (ag9 ((a10.1++([((at' p0.2.1 a10.2).2.1)])),(wI .i64 (a10.2+(1:Int)))))))else(uP  (a10.1))
def rP (U:Nat) (p0:dZ):Option bV:=
 bH (pT p0) U (([]:bV),(0:Int))
theorem Tn:bE Tryz.prog 83:=Tryz.call83
theorem Gu (U:Nat) {p0:dZ} (v0:Value)  (v1:Value) (r:bV) (h:rP U p0=some r):
  aZ Tryz.prog 83 #[Value.agg #[vS (p0.1),v0,v1]] [Sl aQ v0 p0.2.1,Sl aK v1 p0.2.2] (fun x:Value=>x) (fun x l=>Ar fK x r::l) (fun _ l=>l):=by
 refine aZ.of Tryz.func83 rfl Tryz.ntmps83 rfl fun c=>?_
 unfold rP at h
 refine aT<|aN (aR.box (cs:=[vS (p0.1),v0,v1]) rfl rfl) rfl fun b1=>aB rfl<|aL<|aT<|aB rfl<|aL<|aI<|CS (B:=Value) (fun a4=>uP  a4=some r) (fun a4 b5=>[(3,b5)]) (fun a4 b5=>[Ar fK b5 a4]) ?_ ?_
 ·refine aT<|aB rfl<|aL<|aP<|c_ (fC fK)<|eH (B:=Value) (pT p0) (fun a10 b11=>[(1,vP b1),(3,b11),(4,vI (a10.2))]) (fun a10 b11=>[dD b1 [vS (p0.1),v0,v1] 25,Ar fK b11 a10.1]) (([]:bV),(0:Int)) (oI) h SF (bK.ix [1,0] rfl rfl) ?_
  intro k12 a10 b11 h
  refine aI<|aT<|aA rfl<|bQ rfl<|cM 0 rfl<|cY (dB rfl) rfl<|cZ rfl<|aL ?_
  refine fG h rfl (fun h=>?_) fun h=>?_
  ·refine bJ<|aI<|aP<|aH<|aA rfl<|bQ rfl<|cM 0 rfl<|aA rfl<|eO h fun j14 h=>aD (aU rfl rfl (dB rfl) rfl rfl j14) rfl<|aD (cB rfl rfl rfl rfl rfl) rfl<|aD (eQ rfl (dB rfl) rfl rfl rfl AH j14) rfl<|aN (iR (e:=fK) ([((at' p0.2.1 a10.2).2.1)]) [(0,vI ((at' p0.2.1 a10.2).2.1))] rfl rfl rfl rfl (xC (vI ((at' p0.2.1 a10.2).2.1)) rfl) rfl rfl rfl) rfl fun u15=>eO h fun j17 h=>aN (jO 2 jD rfl rfl rfl (bT (aM.res 0 rfl) jD) rfl rfl rfl rfl j17 rfl) rfl fun u16=>aB rfl<|fF<|kB<|aH<|aA rfl<|cU rfl<|aB rfl<|aL ?_
   exact eK ((a10.1++([((at' p0.2.1 a10.2).2.1)])),(wI .i64 (a10.2+(1:Int)))) (u16) h SF (bK.ix [1,2] rfl rfl) (aO.refl _ _)
  refine dY ?_
  exact bS (a10.1) (b11) h SF (bK.ix [1] rfl rfl) (aO.refl _ _)
 intro a4 b5 h
 unfold uP at h
 refine aT<|aA rfl<|aB rfl<|aL<|aS ?_
 cases h
 exact xL (b5) rfl rfl (RV.tmp rfl) (bK.refl _) aO.nil
end
section
def pS  (a14:Unit):Option (Int):=
 some (0:Int)
def mD (U:Nat) (p0:dZ) (a18:Int) (ag17:(Int)->Option (Int)):Option (Int):=
 if a18<(List.length p0.2.2:Int)then(ck (0<=a18∧a18<(List.length p0.2.2:Int)) (Option.bind (rP U ((p0.1,p0.2.1,p0.2.2))) fun r24=>(Option.bind (wE U ((((at' p0.2.2 a18).1),((at' p0.2.2 a18).2.1),((at' p0.2.2 a18).2.2))) r24) fun r27=>(if(!r27)=true then(some (6:Int))else(ag17 (wI .i64 (a18+(1:Int))))))))else(pS  (()))
def pR (U:Nat) (p0:dZ) (a12:Unit):Option (Int):=
 bH (mD U p0) U (0:Int)
def mE (U:Nat) (p0:dZ) (a33:Int) (ag32:(Int)->Option (Int)):Option (Int):=
 if a33<(List.length p0.2.2:Int)then(ck (0<=a33∧a33<(List.length p0.2.2:Int)) (Option.bind (uC U ((((at' p0.2.2 a33).1),((at' p0.2.2 a33).2.1),((at' p0.2.2 a33).2.2))) (List.length p0.2.1:Int)) fun r39=>(if(!r39)=true then(some (7:Int))else(ag32 (wI .i64 (a33+(1:Int)))))))else(pR U p0 (()))
def pQ (U:Nat) (p0:dZ) (a10:Unit):Option (Int):=
 bH (mE U p0) U (0:Int)
def mF (U:Nat) (p0:dZ) (a45:Int) (ag44:(Int)->Option (Int)):Option (Int):=
 if a45<(List.length p0.2.1:Int)then(ck (0<=a45∧a45<(List.length p0.2.1:Int)) (Option.bind (sO U ((((at' p0.2.1 a45).1),((at' p0.2.1 a45).2.1),((at' p0.2.1 a45).2.2.1),((at' p0.2.1 a45).2.2.2.1),((at' p0.2.1 a45).2.2.2.2.1),((at' p0.2.1 a45).2.2.2.2.2)))) fun r50=>(if(!r50)=true then(some (2:Int))else(ag44 (wI .i64 (a45+(1:Int)))))))else(pQ U p0 (()))
def uO (U:Nat) (p0:dZ) (a3:Bool):Option (Int):=
 if a3=true then(some (3:Int))else(Option.bind (wD U ((p0.1,p0.2.1,p0.2.2))) fun r6=>(if(!r6)=true then(some (5:Int))else(bH (mF U p0) U (0:Int))))
def wB (U:Nat) (p0:dZ):Option (Int):=
 Option.bind (kD U (List.length p0.2.1:Int) (1:Int) (6:Int)) fun r54=>(if(!r54)=true then(uO U p0 (true))else(uO U p0 (decide ((12:Int)<(List.length p0.2.2:Int)))))
theorem S_:bE Tryz.prog 52:=Tryz.call52
theorem Gt (U:Nat) {p0:dZ} (v0:Value)  (v1:Value) (r:Int) (h:wB U p0=some r):
  aZ Tryz.prog 52 #[Value.agg #[vS (p0.1),v0,v1]] [Sl aQ v0 p0.2.1,Sl aK v1 p0.2.2] (fun x:Unit=>vI (r)) (fun x l=>l) (fun _ l=>l):=by
 refine aZ.of Tryz.func52 rfl Tryz.ntmps52 rfl fun c=>?_
 refine aT<|aN (aR.box (cs:=[vS (p0.1),v0,v1]) rfl rfl) rfl fun b1=>aB rfl<|aL<|aI<|aI<|cF (fun a3=>uO U p0 a3=some r) (fun a3 b4=>[(1,vP b1),(16,vB (a3))]) (fun a3 b4=>[dD b1 [vS (p0.1),v0,v1] 25]) ?_ ?_
 ·refine aH<|bQ rfl<|cM 0 rfl<|cY (dB rfl) rfl<|eM h fun r54 w55 h=>aN (aR.callQ A_ (pY U  r54 w55) rfl .nil) rfl fun x56=>aD (eC rfl) rfl<|aA rfl ?_
  refine e_ (by exact rfl) (by exact rfl) (fun hp57=>?_) (fun hp57=>?_)
  ·have h:=Ak hp57 h
   refine aC rfl<|aC rfl<|aC rfl<|aC rfl<|bO rfl<|aL ?_
   exact b_ (true) () h SF rfl
  have h:=rI hp57 h
  refine aF rfl (bW rfl rfl rfl rfl rfl) rfl<|aF rfl (cI 0 rfl rfl rfl rfl rfl) rfl<|aF rfl (eX rfl (eZ rfl) rfl) rfl<|aF rfl (pF rfl rfl) rfl<|bR rfl<|aL ?_
  exact b_ (decide ((12:Int)<(List.length p0.2.2:Int))) () h SF rfl
 intro a3 b4 h
 refine eY h rfl (fun _ h=>?_) fun _ h=>?_
 ·refine aT<|aB rfl<|aL<|aS<|aG ?_
  cases h
  exact vF rfl
 refine bJ<|aI<|aT<|l_ 0 rfl<|eM h fun r6 w7 h=>aN (aR.callQ Tj (Gw U v0 v1 r6 w7) rfl (hI [0,1] rfl)) rfl fun x8=>aD (eC rfl) rfl<|aL ?_
 refine eY h rfl (fun _ h=>?_) fun _ h=>?_
 ·refine aT<|aB rfl<|aL<|aS<|aG ?_
  cases h
  exact vF rfl
 refine bJ<|aI<|cF (fun a10=>pQ U p0 a10=some r) (fun a10 b11=>[(1,vP b1)]) (fun a10 b11=>[dD b1 [vS (p0.1),v0,v1] 25]) ?_ ?_
 ·refine aT<|aB rfl<|aL<|aP<|eH (mF U p0) (fun a45 b46=>[(1,vP b1),(3,vI (a45))]) (fun a45 b46=>[dD b1 [vS (p0.1),v0,v1] 25]) (0:Int) () h SF (bK.refl _) ?_
  intro k47 a45 b46 h
  refine aI<|aT<|aA rfl<|bQ rfl<|cM 0 rfl<|cY (dB rfl) rfl<|cZ rfl<|aL ?_
  refine fG h rfl (fun h=>?_) fun h=>?_
  ·refine bJ<|aI<|aP<|aT<|bQ rfl<|cM 0 rfl<|aA rfl<|eO h fun j49 h=>aD (aU rfl rfl (dB rfl) rfl rfl j49) rfl<|aD (fO (cs:=[vS ((at' p0.2.1 a45).1),vI ((at' p0.2.1 a45).2.1),vI ((at' p0.2.1 a45).2.2.1),vI ((at' p0.2.1 a45).2.2.2.1),vI ((at' p0.2.1 a45).2.2.2.2.1),vI ((at' p0.2.1 a45).2.2.2.2.2)]) rfl (dB rfl) bU rfl rfl rfl rfl j49) rfl<|eM h fun r50 w51 h=>aN (aR.callQ Tk (Ew U  r50 w51) rfl .nil) rfl fun x52=>aD (eC rfl) rfl<|aL ?_
   refine eY h rfl (fun _ h=>?_) fun _ h=>?_
   ·refine aT<|aB rfl<|aL<|aS<|bP<|aG<|aG<|bP<|aG ?_
    cases h
    exact vF rfl
   refine cS<|kB<|aH<|aA rfl<|cU rfl<|aB rfl<|aL ?_
   exact AC (wI .i64 (a45+(1:Int))) () h SF rfl
  refine dY ?_
  exact b_ () (()) h SF rfl
 intro a10 b11 h
 unfold pQ at h
 refine aI<|cF (fun a12=>pR U p0 a12=some r) (fun a12 b13=>[(1,vP b1)]) (fun a12 b13=>[dD b1 [vS (p0.1),v0,v1] 25]) ?_ ?_
 ·refine aT<|aB rfl<|aL<|aP<|eH (mE U p0) (fun a33 b34=>[(1,vP b1),(4,vI (a33))]) (fun a33 b34=>[dD b1 [vS (p0.1),v0,v1] 25]) (0:Int) () h SF (bK.refl _) ?_
  intro k35 a33 b34 h
  refine aI<|aT<|aA rfl<|bQ rfl<|cM 0 rfl<|cY (eZ rfl) rfl<|cZ rfl<|aL ?_
  refine fG h rfl (fun h=>?_) fun h=>?_
  ·refine bJ<|aI<|aP<|aI ?_
   refine Gi [0,1,0,7,15,0,32,96,255,511] 8 mixedOrders ?_
   refine lV rfl<|tO 0 rfl<|cR rfl<|eO h fun j37 h=>cN rfl .nil (lN 1 rfl) (aU rfl rfl (dB rfl) rfl rfl j37) bD.z<|tQ (v:=v1) (ds:=p0.2.2) aX (eZ rfl) fun us38=>?_
   refine JR.stp (bZ ((iY (bY (f:=aJ) (eZ rfl) j37.1 (by first|exact j37.2|simpa using j37.2))):aM _ _ (Sl aY ((at' us38 a33).1) ((at' p0.2.2 a33).2.1)))) ?_
   refine JR.stp (bZ ((iC (bY (f:=aJ) (Ck rfl) j37.1 (by first|exact j37.2|simpa using j37.2))):aM _ _ (Sl bA ((at' us38 a33).2) ((at' p0.2.2 a33).2.2)))) ?_
   refine cN rfl .nil (lN 2 rfl) (eP (cs:=[vS ((at' p0.2.2 a33).1),(at' us38 a33).1,(at' us38 a33).2]) rfl (dB rfl) rfl rfl rfl rfl ⟨j37.1,by first|exact j37.2|simpa using j37.2⟩) bD.z<|lV rfl<|tO 0 rfl<|cN rfl .nil (lN 4 rfl) (eX rfl (dB rfl) rfl) bD.z<|dM 8 rfl rfl<|eM h fun r39 w40 h=>aN (aR.callQ Tl (FW U ((at' us38 a33).1) ((at' us38 a33).2) r39 w40) rfl (hI [1,0] rfl)) rfl fun x41=>aD (eC rfl) rfl<|aL ?_
   refine eY h rfl (fun _ h=>?_) fun _ h=>?_
   ·refine aT<|aB rfl<|aL<|aS<|bP<|aG<|aG<|bP<|aG ?_
    cases h
    exact vF rfl
   refine cS<|kB<|aH<|aA rfl<|cU rfl<|aB rfl<|aL ?_
   exact eK (wI .i64 (a33+(1:Int))) () h SF (bK.refl _) (hI [4,5] rfl)
  refine dY ?_
  exact b_ () (()) h SF rfl
 intro a12 b13 h
 unfold pR at h
 refine aI<|cF (fun a14=>pS  a14=some r) (fun a14 b15=>[]) (fun a14 b15=>[]) ?_ ?_
 ·refine aT<|aB rfl<|aL<|aP<|eH (mD U p0) (fun a18 b19=>[(1,vP b1),(5,vI (a18))]) (fun a18 b19=>[dD b1 [vS (p0.1),v0,v1] 25]) (0:Int) () h SF (bK.refl _) ?_
  intro k20 a18 b19 h
  refine aI<|aT<|aA rfl<|bQ rfl<|cM 0 rfl<|cY (eZ rfl) rfl<|cZ rfl<|aL ?_
  refine fG h rfl (fun h=>?_) fun h=>?_
  ·refine bJ<|aI<|aP<|aI ?_
   refine Gi [0,1,0,7,15,0,32,127,255] 7 mixedOrders ?_
   refine lV rfl<|tO 0 rfl<|cR rfl<|eO h fun j22 h=>cN rfl .nil (lN 1 rfl) (aU rfl rfl (dB rfl) rfl rfl j22) bD.z<|tQ (v:=v1) (ds:=p0.2.2) aX (eZ rfl) fun us23=>?_
   refine JR.stp (bZ ((iY (bY (f:=aJ) (eZ rfl) j22.1 (by first|exact j22.2|simpa using j22.2))):aM _ _ (Sl aY ((at' us23 a18).1) ((at' p0.2.2 a18).2.1)))) ?_
   refine JR.stp (bZ ((iC (bY (f:=aJ) (Ck rfl) j22.1 (by first|exact j22.2|simpa using j22.2))):aM _ _ (Sl bA ((at' us23 a18).2) ((at' p0.2.2 a18).2.2)))) ?_
   refine cN rfl .nil (lN 2 rfl) (eP (cs:=[vS ((at' p0.2.2 a18).1),(at' us23 a18).1,(at' us23 a18).2]) rfl (dB rfl) rfl rfl rfl rfl ⟨j22.1,by first|exact j22.2|simpa using j22.2⟩) bD.z<|OU 0 rfl<|eM h fun r24 w25 h=>JR.loud rfl rfl rfl (aR.callQ Tn (Gu U v0 v1 r24 w25) rfl (hI [4,5] rfl)) rfl (fun x26=>(CJ [([],[2]),([],[5]),([1],[])] rfl)) fun x26=>dM 7 rfl rfl<|eM h fun r27 w28 h=>aN (aR.callQ Tm (Gy U ((at' us23 a18).1) ((at' us23 a18).2) x26 r27 w28) rfl (aO.cons (eZ rfl) (aO.cons (dB rfl) (aO.cons (bT (aM.res 0 rfl) jD) .nil)))) rfl fun x29=>aD (eC rfl) rfl<|aL ?_
   refine eY h rfl (fun _ h=>?_) fun _ h=>?_
   ·refine aT<|aB rfl<|aL<|aS<|bP<|aG<|aG<|bP<|aG ?_
    cases h
    exact vF rfl
   refine cS<|kB<|aH<|aA rfl<|cU rfl<|aB rfl<|aL ?_
   exact eK (wI .i64 (a18+(1:Int))) () h SF (bK.ix [1] rfl rfl) (hI [4,5] rfl)
  refine dY ?_
  exact bS () (()) h SF .nil (aO.refl _ _)
 intro a14 b15 h
 unfold pS at h
 refine aT<|aB rfl<|aL<|aS ?_
 cases h
 exact gU rfl
end
section
def rQ (U:Nat) (p0:dZ):Option (Bool):=
 Option.bind (wB U ((p0.1,p0.2.1,p0.2.2))) fun r2=>(some (decide (r2=(0:Int))))
theorem Oj:bE Tryz.prog 25:=Tryz.call25
theorem BQ (U:Nat) {p0:dZ} (v0:Value)  (v1:Value) (r:Bool) (h:rQ U p0=some r):
  aZ Tryz.prog 25 #[Value.agg #[vS (p0.1),v0,v1]] [Sl aQ v0 p0.2.1,Sl aK v1 p0.2.2] (fun x:Unit=>vB (r)) (fun x l=>l) (fun _ l=>l):=by
 refine aZ.of Tryz.func25 rfl Tryz.ntmps25 rfl fun c=>?_
 refine aT<|aN (aR.box (cs:=[vS (p0.1),v0,v1]) rfl rfl) rfl fun b1=>aB rfl<|aL<|aT<|l_ 0 rfl<|eM h fun r2 w3 h=>aN (aR.callQ S_ (Gt U v0 v1 r2 w3) rfl (hI [0,1] rfl)) rfl fun x4=>cH rfl<|aB rfl<|aL<|aS ?_
 cases h
 exact vF rfl
end
end Go.Proofs.YthnplbmmlbnelaaGreat
end
section
namespace Go.Proofs.YthnplbmmlbnelaaGreat
open Go Go.Sx
section
abbrev ST:=Int×List TM
abbrev RL:=ByteArray×List TM×List ST
abbrev PG:=ByteArray×List VR×List RL
open Classical in
noncomputable def Er (vars:Int) (e:List TM):Bool:=decide (∃x,XV vars e x)
theorem Ay {vars:Int} {e:List TM}:Er vars e=true↔∃x,XV vars e x:=by unfold Er;simp
theorem RG (F:Nat) (e:List TM) (vars:Int) (hl:e.length<=900) (hF:1000<=F):gQ F e vars=some (Er vars e):=by
 obtain⟨b,h1,_,h3⟩:=Cu F e vars hl hF
 rw[h1];congr 1;exact Bool.eq_iff_iff.2 (h3.trans Ay.symm)
theorem Rv (F:Nat) (e:List TM) (vars:Int) (hl:e.length<=900) (hF:1000<=F):gK F e vars=some (Er vars e):=by
 obtain⟨b,_,h1,h3⟩:=Cu F e vars hl hF
 rw[h1];congr 1;exact Bool.eq_iff_iff.2 (h3.trans Ay.symm)
open Classical in
noncomputable def Nv (ks:bV) (e:List TM):Int:=if h:∃x,XV ks.length e x then(Classical.choose h).ty ks false else 0
theorem VJ (F:Nat) {e:List TM} {ks:bV} (h:Er ks.length e=true) (hk:∀k∈ks,KL k=true) (h6:ks.length<=6) (hF:1000<=F):∃c,vQ F e ks false=some (Nv ks e,c):=by
 have h':=Ay.1 h
 have e:Nv ks e=(Classical.choose h').ty ks false:=by unfold Nv;rw[dif_pos h']
 rw[e]
 exact⟨_,tOf F (Classical.choose_spec h') hk h6 false hF⟩
theorem Vm (F:Nat) {e:List TM} {ks:bV} (h:Er ks.length e=true) (hF:1000<=F):eS F e 0 ks false=some (Nv ks e):=by
 have h':=Ay.1 h
 unfold Nv
 rw[dif_pos h']
 exact rKd F (Classical.choose_spec h') false hF
section
variable {κ:Type} [DecidableEq κ]
def LR (l:List κ):List (κ×Bool):=l.foldl (fun m x=>xH x true m) []
theorem Nl (x y:κ) (m:List (κ×Bool)):qT y (xH x true m)=if y=x then some true else qT y m:=by
 induction m with
 |nil=>simp[xH,qT]
 | cons z m ih =>
  simp only[xH]
  by_cases h:x=z.1
  ·rw[if_pos h]
   simp only[qT]
   by_cases h2:y=x
   ·rw[if_pos h2];simp[h2]
   ·rw[if_neg h2,if_neg h2,if_neg (by rw[<-h];exact h2)]
  ·rw[if_neg h]
   simp only[qT,ih]
   by_cases h2:y=z.1
   ·rw[if_pos h2,if_pos h2,if_neg (by rw[h2];exact fun e=>h e.symm)]
   ·rw[if_neg h2,if_neg h2]
theorem An (l:List κ) (x:κ):LR (l++[x])=xH x true (LR l):=by simp[LR]
theorem Ib (y:κ):∀n (l:List κ),l.length=n->(qT y (LR l)).getD false=decide (y∈l):=by
 intro n
 induction n with
 |zero=>intro l h;have:l=[]:=List.eq_nil_of_length_eq_zero h;subst this;simp[LR,qT]
 | succ n ih =>
  intro l h
  rcases List.eq_nil_or_concat l with rfl|⟨l',x,rfl⟩
  ·simp at h
  ·rw[List.concat_eq_append]at h ⊢
   rw[An,Nl]
   have:=ih l' (by simpa using h)
   by_cases hx:y=x
   ·simp[hx]
   ·rw[if_neg hx,this];simp[hx]
end
def KP {κ:Type} [DecidableEq κ] (l:List κ) (k:Nat):Bool:= !decide (∃x,l[k]? = some x∧x∈l.take k)
theorem Ih {κ:Type} [DecidableEq κ] {l:List κ} {k:Nat} {x:κ} (h:l[k]? = some x):KP l k = !decide (x∈l.take k):=by
 unfold KP;congr 1;simp[h]
theorem Ig {κ:Type} [DecidableEq κ] {l:List κ} {k:Nat} {x:κ} (h:l[k]? = some x) (g:Nat->κ) (hg:∀j,j<k->l[j]? = some (g j)):(List.range k).all (fun j=> !decide (g j=x))=KP l k:=by
 rw[Ih h,Bool.eq_iff_iff,List.all_eq_true]
 simp only[List.mem_range,Bool.not_eq_true',decide_eq_false_iff_not]
 constructor
 ·intro hh hm
  obtain⟨j,hj⟩:=List.getElem?_of_mem hm
  have hjk:j<k:=by
   have:=aV hj
   rw[List.length_take]at this;omega
  rw[List.getElem?_take,if_pos hjk,hg j hjk]at hj
  exact hh j hjk (Option.some.inj hj)
 ·intro hn j hj e
  refine hn (List.mem_of_getElem? (i:=j) ?_)
  rw[List.getElem?_take,if_pos hj,hg j hj,e]
theorem vM {α:Type} [Inhabited α] {l:List α} {k:Nat} (h:k<l.length):l[k]? = some (at' l (k:Int)):=lR (xs:=l) (i:=(k:Int)) (by omega) (by omega)
theorem lE {α:Type} [Inhabited α] {l:List α} {k:Nat} (h:k<l.length):l.take (k+1)=l.take k++[at' l (k:Int)]:=by
 rw[List.take_add_one,vM h];rfl
theorem HF (a b:ByteArray):dC a b=decide (a=b):=by
 unfold dC
 rw[Lib.toList_data,Lib.toList_data]
 obtain⟨⟨x⟩⟩:=a
 obtain⟨⟨y⟩⟩:=b
 rw[Bool.eq_iff_iff,decide_eq_true_eq]
 simp
def NG (p:PG):List ByteArray:=p.2.1.map fun v=>v.1
def NF (p:PG):List ByteArray:=p.2.2.map fun r=>r.1
def NK (r:RL):List Int:=r.2.2.map fun s=>s.1
theorem Ie {p:PG} {k:Nat} (h:k<p.2.1.length):(NG p)[k]? = some (at' p.2.1 (k:Int)).1:=by unfold NG;rw[List.getElem?_map,vM h];rfl
theorem Ic {p:PG} {k:Nat} (h:k<p.2.2.length):(NF p)[k]? = some (at' p.2.2 (k:Int)).1:=by unfold NF;rw[List.getElem?_map,vM h];rfl
theorem ID {r:RL} {k:Nat} (h:k<r.2.2.length):(NK r)[k]? = some (at' r.2.2 (k:Int)).1:=by unfold NK;rw[List.getElem?_map,vM h];rfl
def If (p:PG):Bool:=Jq p.1&&(List.range p.2.1.length).all (fun k=>Jq (at' p.2.1 (k:Int)).1&&KP (NG p) k)&&(List.range p.2.2.length).all (fun k=>Jq (at' p.2.2 (k:Int)).1&&KP (NF p) k)
theorem Uo (F:Nat) (p:PG) (hv:p.2.1.length<=20) (hr:p.2.2.length<=20) (hF:1000<=F):wH F p=some (If p):=by
 unfold wH If
 rw[bF (PN F p.1 (by omega))]
 have e1:=dQ (step:=kM F p) (K:=qD F p ()) (bad:=some false) p.2.1.length (fun k=>Jq (at' p.2.1 (k:Int)).1&&KP (NG p) k) (fun k=>((k:Int),LR ((NG p).take k))) (fun k ag hk=>by
  have hx:(NG p)[k]? = some (at' p.2.1 (k:Int)).1:=Ie hk
  unfold kM vE
  dsimp only
  rw[if_pos (by omega),eF (by omega),bF (PN F _ (by omega)),Ib _ _ _ rfl,wr (by omega) (by omega),Ih hx]
  have h2:LR ((NG p).take (k+1))=xH (at' p.2.1 (k:Int)).1 true (LR ((NG p).take k)):=by
   rw[<-An,List.take_add_one,hx];rfl
  rw[h2]
  cases Jq (at' p.2.1 (k:Int)).1<;>by_cases hm:(at' p.2.1 (k:Int)).1∈(NG p).take k<;>simp[hm]) (fun ag=>by unfold kM;rw[if_neg (by simp)]) F (by omega)
 have e2:=dQ (step:=kL F p) (K:=qE ()) (bad:=some false) p.2.2.length (fun k=>Jq (at' p.2.2 (k:Int)).1&&KP (NF p) k) (fun k=>((k:Int),LR ((NF p).take k))) (fun k ag hk=>by
  have hx:(NF p)[k]? = some (at' p.2.2 (k:Int)).1:=Ic hk
  unfold kL vD
  dsimp only
  rw[if_pos (by omega),eF (by omega),bF (PN F _ (by omega)),Ib _ _ _ rfl,wr (by omega) (by omega),Ih hx]
  have h2:LR ((NF p).take (k+1))=xH (at' p.2.2 (k:Int)).1 true (LR ((NF p).take k)):=by
   rw[<-An,List.take_add_one,hx];rfl
  rw[h2]
  cases Jq (at' p.2.2 (k:Int)).1<;>by_cases hm:(at' p.2.2 (k:Int)).1∈(NF p).take k<;>simp[hm]) (fun ag=>by unfold kL;rw[if_neg (by simp)]) F (by omega)
 have e1:bH (kM F p) F ((0:Int),([]:List (ByteArray×Bool)))=_:=e1
 have e2:bH (kL F p) F ((0:Int),([]:List (ByteArray×Bool)))=_:=e2
 rw[e1]
 unfold qD
 rw[e2]
 unfold qE
 cases Jq p.1<;>cases (List.range p.2.1.length).all _<;>cases (List.range p.2.2.length).all _<;>simp
theorem TZ (F:Nat) (p:PG) (hv:p.2.1.length<=20) (hr:p.2.2.length<=20) (hF:1000<=F):wD F p=some (If p):=by
 unfold wD If
 rw[bF (Ps F p.1 (by omega))]
 have e1:=dQ (step:=iX F p) (K:=pU F p ()) (bad:=some false) p.2.1.length (fun k=>Jq (at' p.2.1 (k:Int)).1&&KP (NG p) k) (fun k=>(k:Int)) (fun k ag hk=>by
  have hx:(NG p)[k]? = some (at' p.2.1 (k:Int)).1:=Ie hk
  unfold iX
  rw[if_pos (by omega)]
  have i:=dQ (step:=mI F p (k:Int) ag) (K:=uR F p (k:Int) ag ()) (bad:=some false) k (fun j=> !decide ((at' p.2.1 (j:Int)).1=(at' p.2.1 (k:Int)).1)) (fun j=>(j:Int)) (fun j ag' hj=>by
   unfold mI
   rw[if_pos (by omega),eF (by omega),eF (by omega),HF,wr (by omega) (by omega)]
   by_cases hm:(at' p.2.1 (j:Int)).1=(at' p.2.1 (k:Int)).1<;>simp[hm]) (fun ag'=>by unfold mI;rw[if_neg (by omega)]) F (by omega)
  rw[Ig hx (fun j=>(at' p.2.1 (j:Int)).1) (fun j hj=>Ie (by omega))]at i
  have i:bH (mI F p (k:Int) ag) F (0:Int)=_:=i
  rw[i]
  unfold uR
  rw[eF (by omega),bF (Ps F _ (by omega)),wr (by omega) (by omega)]
  cases KP (NG p) k<;>cases Jq (at' p.2.1 (k:Int)).1<;>simp) (fun ag=>by unfold iX;rw[if_neg (by simp)]) F (by omega)
 have e2:=dQ (step:=iW F p) (K:=pV ()) (bad:=some false) p.2.2.length (fun k=>Jq (at' p.2.2 (k:Int)).1&&KP (NF p) k) (fun k=>(k:Int)) (fun k ag hk=>by
  have hx:(NF p)[k]? = some (at' p.2.2 (k:Int)).1:=Ic hk
  unfold iW
  rw[if_pos (by omega)]
  have i:=dQ (step:=mH F p (k:Int) ag) (K:=uQ F p (k:Int) ag ()) (bad:=some false) k (fun j=> !decide ((at' p.2.2 (j:Int)).1=(at' p.2.2 (k:Int)).1)) (fun j=>(j:Int)) (fun j ag' hj=>by
   unfold mH
   rw[if_pos (by omega),eF (by omega),eF (by omega),HF,wr (by omega) (by omega)]
   by_cases hm:(at' p.2.2 (j:Int)).1=(at' p.2.2 (k:Int)).1<;>simp[hm]) (fun ag'=>by unfold mH;rw[if_neg (by omega)]) F (by omega)
  rw[Ig hx (fun j=>(at' p.2.2 (j:Int)).1) (fun j hj=>Ic (by omega))]at i
  have i:bH (mH F p (k:Int) ag) F (0:Int)=_:=i
  rw[i]
  unfold uQ
  rw[eF (by omega),bF (Ps F _ (by omega)),wr (by omega) (by omega)]
  cases KP (NF p) k<;>cases Jq (at' p.2.2 (k:Int)).1<;>simp) (fun ag=>by unfold iW;rw[if_neg (by simp)]) F (by omega)
 have e1:bH (iX F p) F (0:Int)=_:=e1
 have e2:bH (iW F p) F (0:Int)=_:=e2
 rw[e1]
 unfold pU
 rw[e2]
 unfold pV
 cases Jq p.1<;>cases (List.range p.2.1.length).all _<;>cases (List.range p.2.2.length).all _<;>simp
noncomputable def Kb (r:RL) (vars:Nat):Bool:=decide (1<=r.2.2.length)&&decide (r.2.2.length<=6)&&Er vars r.2.1&&(List.range r.2.2.length).all (fun k=>decide (0<=(at' r.2.2 (k:Int)).1)&&decide ((at' r.2.2 (k:Int)).1<=(vars:Int) - 1)&&KP (NK r) k&&Er vars (at' r.2.2 (k:Int)).2)
theorem lS {α:Type} [Inhabited α] {l:List α} {k:Nat} (h:k<l.length):at' l (k:Int)∈l:=List.mem_of_getElem? (vM h)
theorem RD (F:Nat) (r:RL) (vars:Nat) (hvn:vars<=20) (hs:r.2.2.length<=20) (hg:r.2.1.length<=400) (hx:∀s∈r.2.2,s.2.length<=400) (hF:1000<=F):uH F r (vars:Int)=some (Kb r vars):=by
 unfold uH nU Kb
 by_cases h1:1<=r.2.2.length
 ·by_cases h2:r.2.2.length<=6
  ·rw[if_neg (by omega),if_neg (by omega),bF (RG F _ _ (by omega) hF)]
   have e1:=dQ (step:=jH F r (vars:Int)) (K:=nV ()) (bad:=some false) r.2.2.length (fun k=>decide (0<=(at' r.2.2 (k:Int)).1)&&decide ((at' r.2.2 (k:Int)).1<=(vars:Int) - 1)&&KP (NK r) k&&Er vars (at' r.2.2 (k:Int)).2) (fun k=>((k:Int),LR ((NK r).take k))) (fun k ag hk=>by
    have hx':(NK r)[k]? = some (at' r.2.2 (k:Int)).1:=ID hk
    have hv:=hx _ (lS hk)
    unfold jH nW
    dsimp only
    rw[if_pos (by omega),eF (by omega),wr (x:=(vars:Int) - 1) (by omega) (by omega),bF (Mk F _ _ _),bF (RG F _ _ (by omega) hF),Ib _ _ _ rfl,wr (by omega) (by omega),Ih hx']
    have h2:LR ((NK r).take (k+1))=xH (at' r.2.2 (k:Int)).1 true (LR ((NK r).take k)):=by
     rw[<-An,List.take_add_one,hx'];rfl
    rw[h2]
    cases decide (0<=(at' r.2.2 (k:Int)).1)<;>cases decide ((at' r.2.2 (k:Int)).1<=(vars:Int) - 1)<;>by_cases hm:(at' r.2.2 (k:Int)).1∈(NK r).take k<;>cases Er vars (at' r.2.2 (k:Int)).2<;>simp[hm]) (fun ag=>by unfold jH;rw[if_neg (by simp)]) F (by omega)
   have e1:bH (jH F r (vars:Int)) F ((0:Int),([]:List (Int×Bool)))=_:=e1
   rw[e1]
   unfold nV
   cases Er vars r.2.1<;>cases (List.range r.2.2.length).all _<;>simp[h1,h2]
  ·rw[if_neg (by omega),if_pos (by omega)];simp[h2]
 ·rw[if_pos (by omega)];simp[h1]
theorem Rs (F:Nat) (r:RL) (vars:Nat) (hvn:vars<=20) (hs:r.2.2.length<=20) (hg:r.2.1.length<=400) (hx:∀s∈r.2.2,s.2.length<=400) (hF:1000<=F):uC F r (vars:Int)=some (Kb r vars):=by
 unfold uC tB Kb
 rw[bF (EP F _ _ _),bF (Rv F _ _ (by omega) hF)]
 have e1:=dQ (step:=fW F r (vars:Int)) (K:=nQ ()) (bad:=some false) r.2.2.length (fun k=>decide (0<=(at' r.2.2 (k:Int)).1)&&decide ((at' r.2.2 (k:Int)).1<=(vars:Int) - 1)&&KP (NK r) k&&Er vars (at' r.2.2 (k:Int)).2) (fun k=>(k:Int)) (fun k ag hk=>by
  have hx':(NK r)[k]? = some (at' r.2.2 (k:Int)).1:=ID hk
  have hv:=hx _ (lS hk)
  unfold fW tC
  rw[if_pos (by omega),eF (by omega),wr (x:=(vars:Int) - 1) (by omega) (by omega),bF (EP F _ _ _),eF (by omega),bF (Rv F _ _ (by omega) hF)]
  have i:=dQ (step:=kW r (k:Int) ag) (K:=nR (k:Int) ag ()) (bad:=some false) k (fun j=> !decide ((at' r.2.2 (j:Int)).1=(at' r.2.2 (k:Int)).1)) (fun j=>(j:Int)) (fun j ag' hj=>by
   unfold kW
   rw[if_pos (by omega),eF (by omega),eF (by omega),wr (by omega) (by omega)]
   by_cases h:(at' r.2.2 (j:Int)).1=(at' r.2.2 (k:Int)).1
   ·rw[if_pos h];simp[h]
   ·rw[if_neg h];simp[h]) (fun ag'=>by unfold kW;rw[if_neg (by omega)]) F (by omega)
  rw[Ig hx' (fun j=>(at' r.2.2 (j:Int)).1) (fun j hj=>ID (by omega))]at i
  have i:bH (kW r (k:Int) ag) F (0:Int)=_:=i
  rw[i]
  unfold nR
  rw[wr (by omega) (by omega)]
  cases decide (0<=(at' r.2.2 (k:Int)).1)<;>cases decide ((at' r.2.2 (k:Int)).1<=(vars:Int) - 1)<;>cases KP (NK r) k<;>cases Er vars (at' r.2.2 (k:Int)).2<;>simp) (fun ag=>by unfold fW;rw[if_neg (by simp)]) F (by omega)
 have e1:bH (fW F r (vars:Int)) F (0:Int)=_:=e1
 rw[e1]
 unfold nQ
 by_cases h1:1<=r.2.2.length
 ·by_cases h2:r.2.2.length<=6
  ·cases Er vars r.2.1<;>cases (List.range r.2.2.length).all _<;>simp[h1,h2]<;>omega
  ·simp[h2];omega
 ·simp[h1];omega
end
section
def DI (p:PG):bV:=p.2.1.map fun v=>v.2.1
theorem Am (p:PG):(DI p).length=p.2.1.length:=by simp[DI]
theorem LN {p:PG} {k:Nat} (h:k<p.2.1.length):(DI p)[k]? = some (at' p.2.1 (k:Int)).2.1:=by unfold DI;rw[List.getElem?_map,vM h];rfl
theorem Un (F:Nat) (p:PG) (hv:p.2.1.length<=20) (hF:1000<=F):wG F p=some (DI p):=by
 unfold wG
 rw[eF (by omega)]
 have e:=eN (step:=qC p) (K:=some (DI p)) p.2.1.length (fun k=>((k:Int),(DI p).take k++List.replicate (p.2.1.length - k) (0:Int))) (fun k ag hk=>by
  have hl:((DI p).take k).length=k:=by rw[List.length_take,Am];omega
  unfold qC
  dsimp only
  rw[if_pos (by omega),eF (by omega),eF (by simp[hl];omega),wr (by omega) (by omega),Int.toNat_natCast]
  congr 2
  have hr:List.replicate (p.2.1.length - k) (0:Int)=0::List.replicate (p.2.1.length - (k+1)) 0:=by
   rw[show p.2.1.length - k=p.2.1.length - (k+1)+1 by omega,List.replicate_succ]
  rw[hr,DR _ _ _ _ k hl,List.take_add_one,LN hk]
  simp) (fun ag=>by
  unfold qC vC
  dsimp only
  rw[if_neg (by omega)]
  rw[<-Am p,List.take_length];simp) F (by omega)
 simp only[List.take_zero,List.nil_append,Nat.sub_zero]at e
 rw[Int.toNat_natCast]
 exact e
theorem TX (F:Nat) (p:PG) (hv:p.2.1.length<=20) (hF:1000<=F):rP F p=some (DI p):=by
 unfold rP
 have e:=eN (step:=pT p) (K:=some (DI p)) p.2.1.length (fun k=>((DI p).take k,(k:Int))) (fun k ag hk=>by
  have hl:((DI p).take k).length=k:=by rw[List.length_take,Am];omega
  unfold pT
  dsimp only
  rw[if_pos (by omega),eF (by omega),eF (by simp[hl];omega),wr (by omega) (by omega),List.take_add_one,LN hk]
  rfl) (fun ag=>by
  unfold pT uP
  dsimp only
  rw[if_neg (by omega)]
  rw[<-Am p,List.take_length]) F (by omega)
 simpa using e
noncomputable def Nu (r:RL) (ks:bV):Bool:=decide (Nv ks r.2.1=2)&&(List.range r.2.2.length).all (fun k=>decide (Nv ks (at' r.2.2 (k:Int)).2=at' ks (at' r.2.2 (k:Int)).1))
structure EY (r:RL) (vars:Nat):Prop where
 n1:1<=r.2.2.length
 n6:r.2.2.length<=6
 guard:Er vars r.2.1=true
 var:∀k,k<r.2.2.length->0<=(at' r.2.2 (k:Int)).1∧(at' r.2.2 (k:Int)).1<vars
 val:∀k,k<r.2.2.length->Er vars (at' r.2.2 (k:Int)).2=true
theorem KD {r:RL} {vars:Nat} (h:Kb r vars=true):EY r vars:=by
 unfold Kb at h
 simp only[Bool.and_eq_true,decide_eq_true_eq,List.all_eq_true,List.mem_range]at h
 obtain⟨⟨⟨h1,h2⟩,h3⟩,h4⟩:=h
 exact⟨h1,h2,h3,fun k hk=>⟨(h4 k hk).1.1.1,by have:=(h4 k hk).1.1.2;omega⟩,fun k hk=>(h4 k hk).2⟩
theorem Uq (F:Nat) {r:RL} {ks:bV} (hr:EY r ks.length) (hk:∀k∈ks,KL k=true) (h6:ks.length<=6) (hF:1000<=F):wJ F r ks=some (Nu r ks):=by
 have n6:=hr.n6
 unfold wJ Nu
 obtain⟨c,hc⟩:=VJ F hr.guard hk h6 hF
 rw[bF hc]
 dsimp only
 have e:=dQ (step:=mU F r ks) (K:=qF ()) (bad:=some false) r.2.2.length (fun k=>decide (Nv ks (at' r.2.2 (k:Int)).2=at' ks (at' r.2.2 (k:Int)).1)) (fun k=>(k:Int)) (fun k ag hkk=>by
  obtain⟨c,hc⟩:=VJ F (hr.val k hkk) hk h6 hF
  have hv:=hr.var k hkk
  unfold mU
  rw[if_pos (by omega),eF (by omega),bF hc,eF hv,wr (by omega) (by omega)]
  dsimp only
  by_cases h:Nv ks (at' r.2.2 (k:Int)).2=at' ks (at' r.2.2 (k:Int)).1
  ·rw[if_neg (by simpa using h)];simp[h]
  ·rw[if_pos h];simp[h]) (fun ag=>by unfold mU;rw[if_neg (by omega)]) F (by omega)
 have e:bH (mU F r ks) F (0:Int)=_:=e
 rw[e]
 unfold qF
 by_cases h:Nv ks r.2.1=2
 ·rw[if_neg (by simpa using h)];cases (List.range r.2.2.length).all _<;>simp[h]
 ·rw[if_pos h];simp[h]
theorem Ub (F:Nat) {r:RL} {ks:bV} (hr:EY r ks.length) (hF:1000<=F):wE F r ks=some (Nu r ks):=by
 have n6:=hr.n6
 unfold wE Nu
 rw[bF (Vm F hr.guard hF)]
 have e:=dQ (step:=mJ F r ks) (K:=pW ()) (bad:=some false) r.2.2.length (fun k=>decide (Nv ks (at' r.2.2 (k:Int)).2=at' ks (at' r.2.2 (k:Int)).1)) (fun k=>(k:Int)) (fun k ag hkk=>by
  have hv:=hr.var k hkk
  unfold mJ
  rw[if_pos (by omega),eF (by omega),bF (Vm F (hr.val k hkk) hF),eF (by omega),eF hv,wr (by omega) (by omega)]
  by_cases h:Nv ks (at' r.2.2 (k:Int)).2=at' ks (at' r.2.2 (k:Int)).1
  ·rw[if_neg (by simpa using h)];simp[h]
  ·rw[if_pos h];simp[h]) (fun ag=>by unfold mJ;rw[if_neg (by omega)]) F (by omega)
 have e:bH (mJ F r ks) F (0:Int)=_:=e
 rw[e]
 unfold pW
 by_cases h:Nv ks r.2.1=2
 ·rw[if_neg (by simpa using h)];cases (List.range r.2.2.length).all _<;>simp[h]
 ·rw[if_pos h];simp[h]
structure EF (p:PG):Prop where
 v:p.2.1.length<=20
 r:p.2.2.length<=20
 g:∀q∈p.2.2,q.2.1.length<=400∧q.2.2.length<=20∧∀s∈q.2.2,s.2.length<=400
noncomputable def Uy (p:PG):Int:=
 if p.2.1.length=0∨6<p.2.1.length∨12<p.2.2.length then 3 else if If p=false then 5
 else if(List.range p.2.1.length).all (fun k=>Cm (at' p.2.1 (k:Int)))=false then 2
 else if(List.range p.2.2.length).all (fun k=>Kb (at' p.2.2 (k:Int)) p.2.1.length)=false then 7
 else if(List.range p.2.2.length).all (fun k=>Nu (at' p.2.2 (k:Int)) (DI p))=false then 6 else 0
theorem OY {p:PG} (h:(List.range p.2.1.length).all (fun k=>Cm (at' p.2.1 (k:Int)))=true):∀k∈DI p,KL k=true:=by
 intro k hk
 unfold DI at hk
 obtain⟨v,hv,rfl⟩:=List.mem_map.1 hk
 obtain⟨i,hi⟩:=List.getElem?_of_mem hv
 have hlt:=aV hi
 have:=List.all_eq_true.1 h i (List.mem_range.2 hlt)
 rw[vM hlt]at hi
 rw[Option.some.inj hi]at this
 unfold Cm at this
 by_cases h1:v.2.1=1
 ·simp[KL,h1]
 ·rw[if_pos h1]at this
  simp only[Bool.and_eq_true]at this
  exact this.1.1.1.1
theorem Ul (F:Nat) {p:PG} (hp:EF p) (hF:1000<=F):wF F p=some (Uy p):=by
 have hv:=hp.v
 have hr:=hp.r
 unfold wF p_ Uy
 by_cases h0:p.2.1.length=0
 ·rw[if_pos (by omega),if_pos rfl,if_pos (.inl h0)]
 by_cases h6:6<p.2.1.length
 ·rw[if_neg (by omega),if_pos (by omega),if_pos rfl,if_pos (.inr (.inl h6))]
 by_cases h12:12<p.2.2.length
 ·rw[if_neg (by omega),if_neg (by omega),if_pos (by simp;omega),if_pos (.inr (.inr h12))]
 rw[if_neg (by omega),if_neg (by omega),if_neg (by simp;omega),if_neg (by omega)]
 rw[bF (Uo F p hv hr hF)]
 cases hn:If p
 ·rw[if_pos (by decide),if_pos rfl]
 rw[if_neg (by decide),if_neg (by decide)]
 have e3:=dQ (step:=mQ F p) (K:=qA F p ()) (bad:=some 2) p.2.1.length (fun k=>Cm (at' p.2.1 (k:Int))) (fun k=>(k:Int)) (fun k ag hk=>by
  unfold mQ
  rw[if_pos (by omega),eF (by omega),bF (VI F _),wr (by omega) (by omega)]
  show(if(!Cm (at' p.2.1 (k:Int)))=true then _ else _)=_
  cases Cm (at' p.2.1 (k:Int))<;>simp) (fun ag=>by unfold mQ;rw[if_neg (by omega)]) F (by omega)
 have e3:bH (mQ F p) F (0:Int)=_:=e3
 rw[e3]
 cases hnum:(List.range p.2.1.length).all (fun k=>Cm (at' p.2.1 (k:Int)))
 ·rw[if_neg (by decide),if_pos rfl]
 rw[if_pos rfl,if_neg (by decide)]
 unfold qA
 have e2:=dQ (step:=mP F p) (K:=vA F p ()) (bad:=some 7) p.2.2.length (fun k=>Kb (at' p.2.2 (k:Int)) p.2.1.length) (fun k=>(k:Int)) (fun k ag hk=>by
  obtain⟨g1,g2,g3⟩:=hp.g _ (lS hk)
  unfold mP
  rw[if_pos (by omega),eF (by omega),bF (RD F _ p.2.1.length hv g2 g1 g3 hF),wr (by omega) (by omega)]
  show(if(!Kb (at' p.2.2 (k:Int)) p.2.1.length)=true then _ else _)=_
  cases Kb (at' p.2.2 (k:Int)) p.2.1.length<;>simp) (fun ag=>by unfold mP;rw[if_neg (by omega)]) F (by omega)
 have e2:bH (mP F p) F (0:Int)=_:=e2
 rw[e2]
 cases hfm:(List.range p.2.2.length).all (fun k=>Kb (at' p.2.2 (k:Int)) p.2.1.length)
 ·rw[if_neg (by decide),if_pos rfl]
 rw[if_pos rfl,if_neg (by decide)]
 unfold vA
 rw[bF (Un F p hv hF)]
 have hks:=OY hnum
 have e1:=dQ (step:=mO F p (DI p)) (K:=qB ()) (bad:=some 6) p.2.2.length (fun k=>Nu (at' p.2.2 (k:Int)) (DI p)) (fun k=>(k:Int)) (fun k ag hk=>by
  have hok:=KD (List.all_eq_true.1 hfm k (List.mem_range.2 hk))
  unfold mO
  rw[if_pos (by omega),eF (by omega),bF (Uq F (r:=at' p.2.2 (k:Int)) (ks:=DI p) (by rw[Am];exact hok) hks (by rw[Am];omega) hF),wr (by omega) (by omega)]
  show(if(!Nu (at' p.2.2 (k:Int)) (DI p))=true then _ else _)=_
  cases Nu (at' p.2.2 (k:Int)) (DI p)<;>simp) (fun ag=>by unfold mO;rw[if_neg (by omega)]) F (by omega)
 have e1:bH (mO F p (DI p)) F (0:Int)=_:=e1
 rw[e1]
 unfold qB
 cases (List.range p.2.2.length).all (fun k=>Nu (at' p.2.2 (k:Int)) (DI p))
 ·rw[if_neg (by decide),if_pos rfl]
 ·rw[if_pos rfl,if_neg (by decide)]
theorem TV (F:Nat) {p:PG} (hp:EF p) (hF:1000<=F):wB F p=some (Uy p):=by
 have hv:=hp.v
 have hr:=hp.r
 unfold wB uO Uy
 rw[bF (EP F _ _ _)]
 by_cases h0:p.2.1.length=0
 ·rw[if_pos (by simp[h0]),if_pos rfl,if_pos (.inl h0)]
 by_cases h6:6<p.2.1.length
 ·rw[if_pos (by simp;omega),if_pos rfl,if_pos (.inr (.inl h6))]
 by_cases h12:12<p.2.2.length
 ·rw[if_neg (by simp;omega),if_pos (by simp;omega),if_pos (.inr (.inr h12))]
 rw[if_neg (by simp;omega),if_neg (by simp;omega),if_neg (by omega)]
 rw[bF (TZ F p hv hr hF)]
 cases hn:If p
 ·rw[if_pos (by decide),if_pos rfl]
 rw[if_neg (by decide),if_neg (by decide)]
 have e3:=dQ (step:=mF F p) (K:=pQ F p ()) (bad:=some 2) p.2.1.length (fun k=>Cm (at' p.2.1 (k:Int))) (fun k=>(k:Int)) (fun k ag hk=>by
  unfold mF
  rw[if_pos (by omega),eF (by omega),bF (Vo F _),wr (by omega) (by omega)]
  show(if(!Cm (at' p.2.1 (k:Int)))=true then _ else _)=_
  cases Cm (at' p.2.1 (k:Int))<;>simp) (fun ag=>by unfold mF;rw[if_neg (by omega)]) F (by omega)
 have e3:bH (mF F p) F (0:Int)=_:=e3
 rw[e3]
 cases hnum:(List.range p.2.1.length).all (fun k=>Cm (at' p.2.1 (k:Int)))
 ·rw[if_neg (by decide),if_pos rfl]
 rw[if_pos rfl,if_neg (by decide)]
 unfold pQ
 have e2:=dQ (step:=mE F p) (K:=pR F p ()) (bad:=some 7) p.2.2.length (fun k=>Kb (at' p.2.2 (k:Int)) p.2.1.length) (fun k=>(k:Int)) (fun k ag hk=>by
  obtain⟨g1,g2,g3⟩:=hp.g _ (lS hk)
  unfold mE
  rw[if_pos (by omega),eF (by omega),bF (Rs F _ p.2.1.length hv g2 g1 g3 hF),wr (by omega) (by omega)]
  show(if(!Kb (at' p.2.2 (k:Int)) p.2.1.length)=true then _ else _)=_
  cases Kb (at' p.2.2 (k:Int)) p.2.1.length<;>simp) (fun ag=>by unfold mE;rw[if_neg (by omega)]) F (by omega)
 have e2:bH (mE F p) F (0:Int)=_:=e2
 rw[e2]
 cases hfm:(List.range p.2.2.length).all (fun k=>Kb (at' p.2.2 (k:Int)) p.2.1.length)
 ·rw[if_neg (by decide),if_pos rfl]
 rw[if_pos rfl,if_neg (by decide)]
 unfold pR
 have e1:=dQ (step:=mD F p) (K:=pS ()) (bad:=some 6) p.2.2.length (fun k=>Nu (at' p.2.2 (k:Int)) (DI p)) (fun k=>(k:Int)) (fun k ag hk=>by
  have hok:=KD (List.all_eq_true.1 hfm k (List.mem_range.2 hk))
  unfold mD
  rw[if_pos (by omega),eF (by omega),bF (TX F p hv hF),bF (Ub F (r:=at' p.2.2 (k:Int)) (ks:=DI p) (by rw[Am];exact hok) hF),wr (by omega) (by omega)]
  show(if(!Nu (at' p.2.2 (k:Int)) (DI p))=true then _ else _)=_
  cases Nu (at' p.2.2 (k:Int)) (DI p)<;>simp) (fun ag=>by unfold mD;rw[if_neg (by omega)]) F (by omega)
 have e1:bH (mD F p) F (0:Int)=_:=e1
 rw[e1]
 unfold pS
 cases (List.range p.2.2.length).all (fun k=>Nu (at' p.2.2 (k:Int)) (DI p))
 ·rw[if_neg (by decide),if_pos rfl]
 ·rw[if_pos rfl,if_neg (by decide)]
noncomputable def MC (p:PG):Bool:=decide (Uy p=0)
theorem PQ (F:Nat) {p:PG} (hp:EF p) (hF:1000<=F):rU F p=some (MC p):=by
 unfold rU;rw[bF (Ul F hp hF)];rfl
theorem Px (F:Nat) {p:PG} (hp:EF p) (hF:1000<=F):rQ F p=some (MC p):=by
 unfold rQ;rw[bF (TV F hp hF)];rfl
structure VP (p:PG):Prop where
 v1:1<=p.2.1.length
 v6:p.2.1.length<=6
 r12:p.2.2.length<=12
 nm:If p=true
 rl:∀k,k<p.2.2.length->EY (at' p.2.2 (k:Int)) p.2.1.length
theorem MB {p:PG} (h:MC p=true):VP p:=by
 unfold MC at h
 rw[decide_eq_true_eq]at h
 unfold Uy at h
 split at h
 ·cases h
 rename_i h1
 split at h
 ·cases h
 rename_i h2
 split at h
 ·cases h
 split at h
 ·cases h
 rename_i h4
 exact⟨by omega,by omega,by omega,by cases hn:If p<;>simp_all,fun k hk=>KD (List.all_eq_true.1 (by cases hq:(List.range p.2.2.length).all (fun k=>Kb (at' p.2.2 (k:Int)) p.2.1.length)<;>simp_all) k (List.mem_range.2 hk))⟩
end
end Go.Proofs.YthnplbmmlbnelaaGreat
end
section
namespace Go.Proofs.YthnplbmmlbnelaaGreat
open Go.Sx
section
def sM  (a3:Int):Option (Int):=
 some (a3)
def nH (p0:oM) (a8:lO) (ag7:fZ->Option (Int)):Option (Int):=
 if a8.2<(List.length p0.2.2:Int)then(ck (0<=a8.2∧a8.2<(List.length p0.2.2:Int)) (ck (0<=((at' p0.2.2 a8.2).1)) (ag7 ((AZ .u32 a8.1 (AI .u32 (1:Int) ((at' p0.2.2 a8.2).1))),(wI .i64 (a8.2+(1:Int)))))))else(sM  (a8.1))
def kC (U:Nat) (p0:oM):Option (Int):=
 bH (nH p0) U ((0:Int),(0:Int))
theorem Kw:bE Tryz.prog 23:=Tryz.call23
theorem yM (U:Nat) {p0:oM} (v0:Value)  (v1:Value) (r:Int) (h:kC U p0=some r):
  aZ Tryz.prog 23 #[Value.agg #[vS (p0.1),v0,v1]] [Sl aY v0 p0.2.1,Sl bA v1 p0.2.2] (fun x:Unit=>vU (r)) (fun x l=>l) (fun _ l=>l):=by
 refine aZ.of Tryz.func23 rfl Tryz.ntmps23 rfl fun c=>?_
 unfold kC at h
 refine aT<|aN (aR.box (cs:=[vS (p0.1),v0,v1]) rfl rfl) rfl fun b1=>aB rfl<|aL<|aT<|aB rfl<|aL<|aI<|cF (fun a3=>sM  a3=some r) (fun a3 b4=>[(3,vU (a3))]) (fun a3 b4=>[]) ?_ ?_
 ·refine aT<|bQ rfl<|cM 0 rfl<|cY (eZ rfl) rfl<|aA rfl<|aL<|aP<|eH (nH p0) (fun a8 b9=>[(3,vU (a8.1)),(7,v1),(8,vI (List.length p0.2.2:Int)),(9,vI (a8.2))]) (fun a8 b9=>[]) ((0:Int),(0:Int)) () h SF .nil ?_
  intro k10 a8 b9 h
  refine aT<|cZ rfl<|aL<|aI ?_
  refine fG h rfl (fun h=>?_) fun h=>?_
  ·refine bJ<|aI<|aP<|aT<|eO h fun j12 h=>aD (aU rfl rfl (eZ rfl) rfl rfl j12) rfl<|oJ (v:=v1) (ds:=p0.2.2) cL (eZ rfl) fun us13=>?_
   refine c_ (bZ ((bY (f:=cG) (eZ rfl) j12.1 (by first|exact j12.2|simpa using j12.2)):aM _ _ (Sl aY (at' us13 a8.2) ((at' p0.2.2 a8.2).2)))) ?_
   refine aD (eP (cs:=[vI ((at' p0.2.2 a8.2).1),at' us13 a8.2]) rfl (eZ rfl) rfl rfl rfl rfl ⟨j12.1,by first|exact j12.2|simpa using j12.2⟩) rfl<|aN (aR.alloc (cs:=[vI (0:Int),oI]) rfl rfl) rfl fun b14=>dG (Know.one ((dB rfl))) fun ho15=>cC 0 (vs:=[vI ((at' p0.2.2 a8.2).1),at' us13 a8.2]) rfl rfl (fE rfl (fE ho15 rfl)) rfl rfl rfl<|aL<|aH<|aA rfl<|bQ rfl<|cM 0 rfl<|eO h fun j16 h=>aD (Fe rfl rfl j16) rfl<|aD (CG rfl rfl) rfl<|aB rfl<|fF<|kB<|aH<|cU rfl<|aA rfl<|aL ?_
   exact eK ((AZ .u32 a8.1 (AI .u32 (1:Int) ((at' p0.2.2 a8.2).1))),(wI .i64 (a8.2+(1:Int)))) () h SF .nil (hI [3,4] rfl)
  refine dY ?_
  exact b_ (a8.1) () h SF rfl
 intro a3 b4 h
 unfold sM at h
 refine aT<|aA rfl<|aB rfl<|aL<|aS ?_
 cases h
 exact gU rfl
end
section
def wX  (a7:lO):Option fZ:=
 some (a7.1,a7.2)
def oG (a13:zB) (ag12:(Int×Int×Int)->Option fZ) (a19:lO):Option fZ:=
 ag12 (a19.1,a19.2,(wI .i64 (a13.2.2+(1:Int))))
def lK (p0:cA) (a13:zB) (ag12:(Int×Int×Int)->Option fZ):Option fZ:=
 if a13.2.2<(List.length p0:Int)then(ck (0<=a13.2.2∧a13.2.2<(List.length p0:Int)) (if((at' p0 a13.2.2).1)=(5:Int)then(ck (0<=((at' p0 a13.2.2).2)) (oG a13 ag12 ((AZ .u32 a13.1 (AI .u32 (1:Int) ((at' p0 a13.2.2).2))),a13.2.1)))else(if((at' p0 a13.2.2).1)=(12:Int)then(ck (0<=((at' p0 a13.2.2).2)) (oG a13 ag12 (a13.1,(AZ .u32 a13.2.1 (AI .u32 (1:Int) ((at' p0 a13.2.2).2))))))else(oG a13 ag12 (a13.1,a13.2.1)))))else(wX  (a13.1,a13.2.1))
def uG (U:Nat) (p0:cA):Option fZ:=
 Option.bind (gQ U p0 (6:Int)) fun r1=>(if(!r1)=true then(some ((0:Int),(0:Int)))else(bH (lK p0) U ((0:Int),(0:Int),(0:Int))))
theorem Ot:bE Tryz.prog 55:=Tryz.call55
theorem Di (U:Nat) {p0:cA} (v0:Value) (r:lO) (h:uG U p0=some r):
  aZ Tryz.prog 55 #[v0] [Sl aY v0 p0] (fun x:Unit=>Value.tuple #[vU (r.1),vU (r.2)]) (fun x l=>l) (fun _ l=>l):=by
 refine aZ.of Tryz.func55 rfl Tryz.ntmps55 rfl fun c=>?_
 refine aT<|aB rfl<|aB rfl<|aL<|aI<|aT<|aA rfl<|eM h fun r1 w2 h=>aN (aR.callQ Fg (uU U v0 r1 w2) rfl (hI [0] rfl)) rfl fun x3=>aD (eC rfl) rfl<|aL ?_
 refine eY h rfl (fun _ h=>?_) fun _ h=>?_
 ·refine aT<|aB rfl<|aB rfl<|aL<|aS<|aG ?_
  cases h
  exact eV () rfl rfl (RV.tmp rfl) (RV.tmp rfl) (bK.refl _) aO.nil
 refine bJ<|aI<|cF (fun a7=>wX  a7=some r) (fun a7 b8=>[(2,vU (a7.1)),(3,vU (a7.2))]) (fun a7 b8=>[]) ?_ ?_
 ·refine aT<|aA rfl<|cY (dB rfl) rfl<|aA rfl<|aL<|aP<|eH (lK p0) (fun a13 b14=>[(2,vU (a13.1)),(3,vU (a13.2.1)),(9,v0),(10,vI (List.length p0:Int)),(11,vI (a13.2.2))]) (fun a13 b14=>[]) ((0:Int),(0:Int),(0:Int)) () h SF (bK.refl _) ?_
  intro k15 a13 b14 h
  refine aT<|cZ rfl<|aL<|aI ?_
  refine fG h rfl (fun h=>?_) fun h=>?_
  ·refine bJ<|aI<|cF (fun a19=>oG a13 (bH (lK p0) k15) a19=some r) (fun a19 b20=>[(2,vU (a19.1)),(3,vU (a19.2)),(9,v0),(10,vI (List.length p0:Int)),(11,vI (a13.2.2))]) (fun a19 b20=>[]) ?_ ?_
   ·refine aP<|aT<|eO h fun j21 h=>aD (aU rfl rfl (dB rfl) rfl rfl j21) rfl<|aD (fO (cs:=[vI ((at' p0 a13.2.2).1),vI ((at' p0 a13.2.2).2)]) rfl (dB rfl) dI rfl rfl rfl rfl j21) rfl<|aN (aR.alloc (cs:=[vI (0:Int),vI (0:Int)]) rfl rfl) rfl fun b22=>cC 0 (vs:=[vI ((at' p0 a13.2.2).1),vI ((at' p0 a13.2.2).2)]) rfl rfl rfl rfl rfl rfl<|aL<|aT<|bQ rfl<|cM 0 rfl<|aL<|aP<|aT<|cH rfl<|aB rfl<|aL ?_
    refine fG h rfl (fun h=>?_) fun h=>?_
    ·refine aH<|aA rfl<|bQ rfl<|cM 0 rfl<|eO h fun j24 h=>aD (Fe rfl rfl j24) rfl<|aD (CG rfl rfl) rfl<|aB rfl<|fF<|GK<|kB ?_
     exact bS ((AZ .u32 a13.1 (AI .u32 (1:Int) ((at' p0 a13.2.2).2))),a13.2.1) () h SF .nil (aO.refl _ _)
    refine aT<|cH rfl<|aB rfl<|aL ?_
    refine fG h rfl (fun h=>?_) fun h=>?_
    ·refine aH<|aA rfl<|bQ rfl<|cM 0 rfl<|eO h fun j26 h=>aD (Fe rfl rfl j26) rfl<|aD (CG rfl rfl) rfl<|aB rfl<|fF<|GK<|kB ?_
     exact bS (a13.1,(AZ .u32 a13.2.1 (AI .u32 (1:Int) ((at' p0 a13.2.2).2)))) () h SF .nil (aO.refl _ _)
    refine cS<|GK<|kB ?_
    exact bS (a13.1,a13.2.1) () h SF .nil (aO.refl _ _)
   intro a19 b20 h
   unfold oG at h
   refine aH<|cU rfl<|aA rfl<|aL ?_
   exact AC (a19.1,a19.2,(wI .i64 (a13.2.2+(1:Int)))) () h SF rfl
  refine dY ?_
  exact b_ (a13.1,a13.2.1) () h SF rfl
 intro a7 b8 h
 unfold wX at h
 refine aT<|aA rfl<|aA rfl<|aB rfl<|aB rfl<|aL<|aS ?_
 cases h
 exact eV () rfl rfl (RV.tmp rfl) (RV.tmp rfl) (bK.refl _) aO.nil
end
section
def qL  (a7:lO):Option (Int):=
 some (AZ .u32 a7.1 a7.2)
def lU (U:Nat) (p0:oM) (a13:zB) (ag12:(Int×Int×Int)->Option (Int)):Option (Int):=
 if a13.2.2<(List.length p0.2.2:Int)then(ck (0<=a13.2.2∧a13.2.2<(List.length p0.2.2:Int)) (Option.bind (uG U ((at' p0.2.2 a13.2.2).2)) fun r21=>(ag12 ((AZ .u32 a13.1 r21.1),(AZ .u32 a13.2.1 r21.2),(wI .i64 (a13.2.2+(1:Int)))))))else(qL  (a13.1,a13.2.1))
def sN (U:Nat) (p0:oM):Option (Int):=
 Option.bind (uG U p0.2.1) fun r2=>(bH (lU U p0) U (r2.1,r2.2,(0:Int)))
theorem SV:bE Tryz.prog 29:=Tryz.call29
theorem Ev (U:Nat) {p0:oM} (v0:Value)  (v1:Value) (r:Int) (h:sN U p0=some r):
  aZ Tryz.prog 29 #[Value.agg #[vS (p0.1),v0,v1]] [Sl aY v0 p0.2.1,Sl bA v1 p0.2.2] (fun x:Unit=>vU (r)) (fun x l=>l) (fun _ l=>l):=by
 refine aZ.of Tryz.func29 rfl Tryz.ntmps29 rfl fun c=>?_
 refine aT<|aN (aR.box (cs:=[vS (p0.1),v0,v1]) rfl rfl) rfl fun b1=>aB rfl<|aL<|aT<|bQ rfl<|cM 0 rfl<|eM h fun r2 w3 h=>aN (aR.callQ Ot (Di U v0 r2 w3) rfl (hI [0] rfl)) rfl fun x4=>aA rfl<|gI rfl<|gI rfl<|aB rfl<|aB rfl<|aL<|aI<|cF (fun a7=>qL  a7=some r) (fun a7 b8=>[(3,vU (a7.1)),(4,vU (a7.2))]) (fun a7 b8=>[]) ?_ ?_
 ·refine aT<|bQ rfl<|cM 0 rfl<|cY (eZ rfl) rfl<|aA rfl<|aL<|aP<|eH (lU U p0) (fun a13 b14=>[(3,vU (a13.1)),(4,vU (a13.2.1)),(16,v1),(17,vI (List.length p0.2.2:Int)),(18,vI (a13.2.2))]) (fun a13 b14=>[]) (r2.1,r2.2,(0:Int)) () h SF .nil ?_
  intro k15 a13 b14 h
  refine aT<|cZ rfl<|aL<|aI ?_
  refine fG h rfl (fun h=>?_) fun h=>?_
  ·refine bJ<|aI<|aP<|aT<|eO h fun j17 h=>aD (aU rfl rfl (eZ rfl) rfl rfl j17) rfl<|oJ (v:=v1) (ds:=p0.2.2) cL (eZ rfl) fun us18=>?_
   refine c_ (bZ ((bY (f:=cG) (eZ rfl) j17.1 (by first|exact j17.2|simpa using j17.2)):aM _ _ (Sl aY (at' us18 a13.2.2) ((at' p0.2.2 a13.2.2).2)))) ?_
   refine aD (eP (cs:=[vI ((at' p0.2.2 a13.2.2).1),at' us18 a13.2.2]) rfl (eZ rfl) rfl rfl rfl rfl ⟨j17.1,by first|exact j17.2|simpa using j17.2⟩) rfl<|aN (aR.alloc (cs:=[vI (0:Int),oI]) rfl rfl) rfl fun b19=>dG (Know.one ((dB rfl))) fun ho20=>cC 0 (vs:=[vI ((at' p0.2.2 a13.2.2).1),at' us18 a13.2.2]) rfl rfl (fE rfl (fE ho20 rfl)) rfl rfl rfl<|aL<|aT<|bQ rfl<|cM 0 rfl<|eM h fun r21 w22 h=>aN (aR.callQ Ot (Di U (at' us18 a13.2.2) r21 w22) rfl (hI [0] rfl)) rfl fun x23=>aA rfl<|gI rfl<|gI rfl<|aB rfl<|aB rfl<|aL<|aT<|aA rfl<|aA rfl<|aD (CG rfl rfl) rfl<|aB rfl<|aL<|aH<|aA rfl<|aA rfl<|aD (CG rfl rfl) rfl<|aB rfl<|fF<|kB<|aH<|cU rfl<|aA rfl<|aL ?_
   exact eK ((AZ .u32 a13.1 r21.1),(AZ .u32 a13.2.1 r21.2),(wI .i64 (a13.2.2+(1:Int)))) () h SF .nil (hI [3,4] rfl)
  refine dY ?_
  exact b_ (a13.1,a13.2.1) () h SF rfl
 intro a7 b8 h
 unfold qL at h
 refine aT<|aA rfl<|aA rfl<|aD (CG rfl rfl) rfl<|aB rfl<|aL<|aS ?_
 cases h
 exact gU rfl
end
section
def lT  (a6:Unit):Option (Bool):=
 some (true)
def qK (a10:Int) (ag9:(Int)->Option (Bool)) (a20:Bool):Option (Bool):=
 if a20=true then(some (false))else(ag9 (wI .i64 (a10+(1:Int))))
def iH (U:Nat) (p0:dZ) (p1:Int) (a10:Int) (ag9:(Int)->Option (Bool)):Option (Bool):=
 if a10<(List.length p0.2.2:Int)then(ck (0<=a10∧a10<(List.length p0.2.2:Int)) (Option.bind (kC U ((((at' p0.2.2 a10).1),((at' p0.2.2 a10).2.1),((at' p0.2.2 a10).2.2)))) fun r23=>(if(oY .u32 r23 p1)≠(0:Int)then(Option.bind (kC U ((((at' p0.2.2 a10).1),((at' p0.2.2 a10).2.1),((at' p0.2.2 a10).2.2)))) fun r27=>(Option.bind (sN U ((((at' p0.2.2 a10).1),((at' p0.2.2 a10).2.1),((at' p0.2.2 a10).2.2)))) fun r30=>(qK a10 ag9 (decide ((tT .u32 (AZ .u32 r27 r30) p1)≠(0:Int))))))else(qK a10 ag9 (false)))))else(lT  (()))
def qJ (U:Nat) (p0:dZ) (p1:Int) (a3:Bool):Option (Bool):=
 if a3=true then(some (false))else(bH (iH U p0 p1) U (0:Int))
def nK (U:Nat) (p0:dZ) (p1:Int):Option (Bool):=
 Option.bind (rU U ((p0.1,p0.2.1,p0.2.2))) fun r33=>(if(!r33)=true then(qJ U p0 p1 (true))else(ck (0<=(List.length p0.2.1:Int)) (qJ U p0 p1 (decide ((rC .u32 p1 (List.length p0.2.1:Int))≠(0:Int))))))
theorem Sb:bE Tryz.prog 9:=Tryz.call9
theorem AF (U:Nat) {p0:dZ} {p1:Int} (v0:Value)  (v1:Value) (r:Bool) (h:nK U p0 p1=some r):
  aZ Tryz.prog 9 #[Value.agg #[vS (p0.1),v0,v1],vU (p1)] [Sl aQ v0 p0.2.1,Sl aK v1 p0.2.2] (fun x:Unit=>vB (r)) (fun x l=>l) (fun _ l=>l):=by
 refine aZ.of Tryz.func9 rfl Tryz.ntmps9 rfl fun c=>?_
 refine aT<|aN (aR.box (cs:=[vS (p0.1),v0,v1]) rfl rfl) rfl fun b1=>aB rfl<|aL<|aI<|aI<|cF (fun a3=>qJ U p0 p1 a3=some r) (fun a3 b4=>[(1,vU (p1)),(2,vP b1),(17,vB (a3))]) (fun a3 b4=>[dD b1 [vS (p0.1),v0,v1] 25]) ?_ ?_
 ·refine aH<|l_ 0 rfl<|eM h fun r33 w34 h=>aN (aR.callQ Oi (BV U v0 v1 r33 w34) rfl (hI [0,1] rfl)) rfl fun x35=>aD (eC rfl) rfl<|aA rfl ?_
  refine e_ (by exact rfl) (by exact rfl) (fun hp36=>?_) (fun hp36=>?_)
  ·have h:=Ak hp36 h
   refine aC rfl<|aC rfl<|aC rfl<|aC rfl<|aC rfl<|aC rfl<|bO rfl<|aL ?_
   exact b_ (true) () h SF rfl
  have h:=rI hp36 h
  refine bM rfl<|aF rfl (bW rfl rfl rfl rfl rfl) rfl<|aF rfl (cI 0 rfl rfl rfl rfl rfl) rfl<|aF rfl (eX rfl (dB rfl) rfl) rfl<|eO h fun j37 h=>aF rfl (AW rfl rfl j37) rfl<|aF rfl (xB rfl rfl) rfl<|bR rfl<|aL ?_
  exact b_ (decide ((rC .u32 p1 (List.length p0.2.1:Int))≠(0:Int))) () h SF rfl
 intro a3 b4 h
 refine eY h rfl (fun _ h=>?_) fun _ h=>?_
 ·refine aT<|aB rfl<|aL<|aS<|aG ?_
  cases h
  exact vF rfl
 refine bJ<|aI<|cF (fun a6=>lT  a6=some r) (fun a6 b7=>[]) (fun a6 b7=>[]) ?_ ?_
 ·refine aT<|bQ rfl<|cM 0 rfl<|cY (eZ rfl) rfl<|aA rfl<|aL<|aP<|eH (iH U p0 p1) (fun a10 b11=>[(1,vU (p1)),(19,v1),(20,vI (List.length p0.2.2:Int)),(21,vI (a10))]) (fun a10 b11=>[]) (0:Int) () h SF .nil ?_
  intro k12 a10 b11 h
  refine aT<|cZ rfl<|aL<|aI ?_
  refine fG h rfl (fun h=>?_) fun h=>?_
  ·refine bJ<|aI<|aP<|aT<|eO h fun j14 h=>aD (aU rfl rfl (eZ rfl) rfl rfl j14) rfl<|oJ (v:=v1) (ds:=p0.2.2) aX (eZ rfl) fun us15=>?_
   refine c_ (bZ ((iY (bY (f:=aJ) (eZ rfl) j14.1 (by first|exact j14.2|simpa using j14.2))):aM _ _ (Sl aY ((at' us15 a10).1) ((at' p0.2.2 a10).2.1)))) ?_
   refine c_ (bZ ((iC (bY (f:=aJ) (Ck rfl) j14.1 (by first|exact j14.2|simpa using j14.2))):aM _ _ (Sl bA ((at' us15 a10).2) ((at' p0.2.2 a10).2.2)))) ?_
   refine aD (eP (cs:=[vS ((at' p0.2.2 a10).1),(at' us15 a10).1,(at' us15 a10).2]) rfl (Ck rfl) rfl rfl rfl rfl ⟨j14.1,by first|exact j14.2|simpa using j14.2⟩) rfl<|aN (aR.alloc (cs:=xJ) rfl rfl) rfl fun b16=>dG (Know.one ((eZ rfl))) fun ho17=>dG (Know.one ((dB rfl))) fun ho18=>cC 0 (vs:=[vS ((at' p0.2.2 a10).1),(at' us15 a10).1,(at' us15 a10).2]) rfl rfl (fE rfl (fE ho17 (fE ho18 rfl))) rfl rfl rfl<|aL<|aI<|pB (B:=Unit) (fun a20=>qK a10 (bH (iH U p0 p1) k12) a20=some r) (fun a20 b21=>[(1,vU (p1)),(19,v1),(20,vI (List.length p0.2.2:Int)),(21,vI (a10)),(39,vB (a20))]) (fun a20 b21=>[]) (fun a20 b21=>[Sl bA ((at' us15 a10).2) ((at' p0.2.2 a10).2.2),Sl aY ((at' us15 a10).1) ((at' p0.2.2 a10).2.1),Rz a_ v1 us15 p0.2.2,Pw aJ us15 p0.2.2,Sl aQ v0 p0.2.1,Sl aK v1 p0.2.2]) ?_ ?_
   ·refine Gi [0,1,0,7,15,31,63,127,63,511,1023,63,4095,8191,16383] 12 mixedOrders ?_
    refine OU 0 rfl<|eM h fun r23 w24 h=>JR.loud rfl rfl rfl (aR.callQ Kw (yM U ((at' us15 a10).1) ((at' us15 a10).2) r23 w24) rfl (hI [1,0] rfl)) rfl (fun x25=>(CJ [] rfl)) fun x25=>rH rfl (fY rfl)<|rH rfl (IW rfl rfl)<|rH rfl (xB rfl rfl)<|rH rfl (fY rfl) ?_
    refine Dr (by exact rfl) (by exact rfl) (by exact rfl) (fun hp26=>?_) (fun hp26=>?_)
    ·have h:=Ak hp26 h
     refine gH rfl (bK.cons 0 rfl .nil) .nil (lI 0 rfl rfl rfl rfl) (LD rfl)<|eM h fun r27 w28 h=>zJ rfl rfl rfl rfl (aR.callQ Kw (yM U ((at' us15 a10).1) ((at' us15 a10).2) r27 w28) rfl (hI [1,0] rfl)) rfl (fun x29=>(CJ [] rfl)) fun x29=>gH rfl (bK.cons 0 rfl .nil) .nil (lI 0 rfl rfl rfl rfl) (bD.h (bK.ix [0] rfl rfl) .nil (LD rfl))<|eM h fun r30 w31 h=>zJ rfl rfl rfl rfl (aR.callQ SV (Ev U ((at' us15 a10).1) ((at' us15 a10).2) r30 w31) rfl (hI [1,0] rfl)) rfl (fun x32=>(CJ [] rfl)) fun x32=>gH rfl .nil .nil (CG rfl rfl) (LD rfl)<|gH rfl .nil .nil (fY rfl) UW<|dM 12 rfl rfl<|aF rfl (IX rfl rfl) rfl<|aF rfl (xB rfl rfl) rfl<|bO rfl<|aL ?_
     exact bS (decide ((tT .u32 (AZ .u32 r27 r30) p1)≠(0:Int))) () h SF .nil (aO.refl _ _)
    have h:=TI hp26 h
    refine bG rfl rfl rfl rfl<|bG rfl rfl rfl rfl<|bG rfl rfl rfl rfl<|bG rfl rfl rfl rfl<|bG rfl rfl rfl rfl<|bG rfl rfl rfl rfl<|dM 12 rfl rfl<|aC rfl<|aC rfl<|bR rfl<|aL ?_
    exact bS (false) () h SF .nil (aO.refl _ _)
   intro a20 b21 h
   refine eY h rfl (fun _ h=>?_) fun _ h=>?_
   ·refine aT<|aB rfl<|aL<|aS<|bP<|aG<|aG<|bP<|aG ?_
    cases h
    exact gU rfl
   refine cS<|kB<|aH<|cU rfl<|aA rfl<|aL ?_
   exact eK (wI .i64 (a10+(1:Int))) () h SF (bK.refl _) (hI [4,5] rfl)
  refine dY ?_
  exact b_ () (()) h SF rfl
 intro a6 b7 h
 unfold lT at h
 refine aT<|aB rfl<|aL<|aS ?_
 cases h
 exact gU rfl
end
section
def uL  (a7:lO):Option fZ:=
 some (a7.1,a7.2)
def mC (a13:zB) (ag12:(Int×Int×Int)->Option fZ) (a19:lO):Option fZ:=
 ag12 (a19.1,a19.2,(wI .i64 (a13.2.2+(1:Int))))
def kG (p0:cA) (a13:zB) (ag12:(Int×Int×Int)->Option fZ):Option fZ:=
 if a13.2.2<(List.length p0:Int)then(ck (0<=a13.2.2∧a13.2.2<(List.length p0:Int)) (if((at' p0 a13.2.2).1)=(5:Int)then(ck (0<=a13.2.2∧a13.2.2<(List.length p0:Int)) (ck (0<=(wI .u64 ((at' p0 a13.2.2).2))) (mC a13 ag12 ((AZ .u32 a13.1 (AI .u32 (1:Int) (wI .u64 ((at' p0 a13.2.2).2)))),a13.2.1))))else(if((at' p0 a13.2.2).1)=(12:Int)then(ck (0<=a13.2.2∧a13.2.2<(List.length p0:Int)) (ck (0<=(wI .u64 ((at' p0 a13.2.2).2))) (mC a13 ag12 (a13.1,(AZ .u32 a13.2.1 (AI .u32 (1:Int) (wI .u64 ((at' p0 a13.2.2).2))))))))else(mC a13 ag12 (a13.1,a13.2.1)))))else(uL  (a13.1,a13.2.1))
def rO (U:Nat) (p0:cA):Option fZ:=
 Option.bind (gK U p0 (6:Int)) fun r1=>(if(!r1)=true then(some ((0:Int),(0:Int)))else(bH (kG p0) U ((0:Int),(0:Int),(0:Int))))
theorem Oo:bE Tryz.prog 53:=Tryz.call53
theorem BP (U:Nat) {p0:cA} (v0:Value) (r:lO) (h:rO U p0=some r):
  aZ Tryz.prog 53 #[v0] [Sl aY v0 p0] (fun x:Unit=>Value.tuple #[vU (r.1),vU (r.2)]) (fun x l=>l) (fun _ l=>l):=by
 refine aZ.of Tryz.func53 rfl Tryz.ntmps53 rfl fun c=>?_
 refine aT<|aB rfl<|aB rfl<|aL<|aI<|aT<|aA rfl<|eM h fun r1 w2 h=>aN (aR.callQ HL (wV U v0 r1 w2) rfl (hI [0] rfl)) rfl fun x3=>aD (eC rfl) rfl<|aL ?_
 refine eY h rfl (fun _ h=>?_) fun _ h=>?_
 ·refine aT<|aB rfl<|aB rfl<|aL<|aS<|aG ?_
  cases h
  exact eV () rfl rfl (RV.tmp rfl) (RV.tmp rfl) (bK.refl _) aO.nil
 refine bJ<|aT<|aB rfl<|aB rfl<|aL<|aI<|cF (fun a7=>uL  a7=some r) (fun a7 b8=>[(4,vU (a7.1)),(5,vU (a7.2))]) (fun a7 b8=>[]) ?_ ?_
 ·refine aT<|aB rfl<|aL<|aP<|eH (kG p0) (fun a13 b14=>[(0,v0),(4,vU (a13.1)),(5,vU (a13.2.1)),(6,vI (a13.2.2))]) (fun a13 b14=>[]) ((0:Int),(0:Int),(0:Int)) () h SF (bK.refl _) ?_
  intro k15 a13 b14 h
  refine aI<|aT<|aA rfl<|aA rfl<|cY (dB rfl) rfl<|cZ rfl<|aL ?_
  refine fG h rfl (fun h=>?_) fun h=>?_
  ·refine bJ<|aI<|cF (fun a19=>mC a13 (bH (kG p0) k15) a19=some r) (fun a19 b20=>[(0,v0),(4,vU (a19.1)),(5,vU (a19.2)),(6,vI (a13.2.2))]) (fun a19 b20=>[]) ?_ ?_
   ·refine aP<|aT<|aA rfl<|aA rfl<|eO h fun j21 h=>aD (aU rfl rfl (dB rfl) rfl rfl j21) rfl<|aD (cB rfl rfl rfl rfl rfl) rfl<|aD (eQ rfl (dB rfl) rfl rfl rfl j_ j21) rfl<|aL<|aP<|aT<|cH rfl<|aB rfl<|aL ?_
    refine fG h rfl (fun h=>?_) fun h=>?_
    ·refine aH<|aA rfl<|aA rfl<|aA rfl<|eO h fun j23 h=>aD (aU rfl rfl (dB rfl) rfl rfl j23) rfl<|aD (cB rfl rfl rfl rfl rfl) rfl<|aD (eQ rfl (dB rfl) rfl rfl rfl BZ j23) rfl<|aD (AU rfl rfl rfl) rfl<|eO h fun j24 h=>aD (Fe rfl rfl j24) rfl<|aD (CG rfl rfl) rfl<|aB rfl<|fF<|GK<|kB ?_
     exact b_ ((AZ .u32 a13.1 (AI .u32 (1:Int) (wI .u64 ((at' p0 a13.2.2).2)))),a13.2.1) () h SF rfl
    refine aT<|cH rfl<|aB rfl<|aL ?_
    refine fG h rfl (fun h=>?_) fun h=>?_
    ·refine aH<|aA rfl<|aA rfl<|aA rfl<|eO h fun j26 h=>aD (aU rfl rfl (dB rfl) rfl rfl j26) rfl<|aD (cB rfl rfl rfl rfl rfl) rfl<|aD (eQ rfl (dB rfl) rfl rfl rfl BZ j26) rfl<|aD (AU rfl rfl rfl) rfl<|eO h fun j27 h=>aD (Fe rfl rfl j27) rfl<|aD (CG rfl rfl) rfl<|aB rfl<|fF<|GK<|kB ?_
     exact b_ (a13.1,(AZ .u32 a13.2.1 (AI .u32 (1:Int) (wI .u64 ((at' p0 a13.2.2).2))))) () h SF rfl
    refine cS<|GK<|kB ?_
    exact b_ (a13.1,a13.2.1) () h SF rfl
   intro a19 b20 h
   unfold mC at h
   refine aH<|aA rfl<|cU rfl<|aB rfl<|aL ?_
   exact AC (a19.1,a19.2,(wI .i64 (a13.2.2+(1:Int)))) () h SF rfl
  refine dY ?_
  exact b_ (a13.1,a13.2.1) () h SF rfl
 intro a7 b8 h
 unfold uL at h
 refine aT<|aA rfl<|aA rfl<|aB rfl<|aB rfl<|aL<|aS ?_
 cases h
 exact eV () rfl rfl (RV.tmp rfl) (RV.tmp rfl) (bK.refl _) aO.nil
end
section
def qY  (a7:lO):Option fZ:=
 some (a7.1,a7.2)
def mL (U:Nat) (p0:oM) (a13:zB) (ag12:(Int×Int×Int)->Option fZ):Option fZ:=
 if a13.2.2<(List.length p0.2.2:Int)then(ck (0<=a13.2.2∧a13.2.2<(List.length p0.2.2:Int)) (ck (0<=(wI .u64 ((at' p0.2.2 a13.2.2).1))) (ck (0<=a13.2.2∧a13.2.2<(List.length p0.2.2:Int)) (Option.bind (rO U ((at' p0.2.2 a13.2.2).2)) fun r21=>(ag12 ((AZ .u32 a13.1 (AI .u32 (1:Int) (wI .u64 ((at' p0.2.2 a13.2.2).1)))),(AZ .u32 a13.2.1 (AZ .u32 r21.1 r21.2)),(wI .i64 (a13.2.2+(1:Int)))))))))else(qY  (a13.1,a13.2.1))
def nM (U:Nat) (p0:oM):Option fZ:=
 Option.bind (rO U p0.2.1) fun r2=>(bH (mL U p0) U ((0:Int),(AZ .u32 r2.1 r2.2),(0:Int)))
theorem Ol:bE Tryz.prog 27:=Tryz.call27
theorem AG (U:Nat) {p0:oM} (v0:Value)  (v1:Value) (r:lO) (h:nM U p0=some r):
  aZ Tryz.prog 27 #[Value.agg #[vS (p0.1),v0,v1]] [Sl aY v0 p0.2.1,Sl bA v1 p0.2.2] (fun x:Unit=>Value.tuple #[vU (r.1),vU (r.2)]) (fun x l=>l) (fun _ l=>l):=by
 refine aZ.of Tryz.func27 rfl Tryz.ntmps27 rfl fun c=>?_
 refine aT<|aN (aR.box (cs:=[vS (p0.1),v0,v1]) rfl rfl) rfl fun b1=>aB rfl<|aB rfl<|aL<|aT<|bQ rfl<|cM 0 rfl<|eM h fun r2 w3 h=>aN (aR.callQ Oo (BP U v0 r2 w3) rfl (hI [0] rfl)) rfl fun x4=>aA rfl<|gI rfl<|gI rfl<|aB rfl<|aB rfl<|aL<|aT<|aA rfl<|aA rfl<|aD (CG rfl rfl) rfl<|aB rfl<|aB rfl<|aL<|aI<|cF (fun a7=>qY  a7=some r) (fun a7 b8=>[(6,vU (a7.1)),(7,vU (a7.2))]) (fun a7 b8=>[]) ?_ ?_
 ·refine aT<|aB rfl<|aL<|aP<|eH (mL U p0) (fun a13 b14=>[(1,vP b1),(6,vU (a13.1)),(7,vU (a13.2.1)),(8,vI (a13.2.2))]) (fun a13 b14=>[dD b1 [vS (p0.1),v0,v1] 42]) ((0:Int),(AZ .u32 r2.1 r2.2),(0:Int)) () h SF (bK.refl _) ?_
  intro k15 a13 b14 h
  refine aI<|aT<|aA rfl<|bQ rfl<|cM 0 rfl<|cY (eZ rfl) rfl<|cZ rfl<|aL ?_
  refine fG h rfl (fun h=>?_) fun h=>?_
  ·refine bJ<|aI<|aP<|aT<|aA rfl<|bQ rfl<|cM 0 rfl<|aA rfl<|eO h fun j17 h=>aD (aU rfl rfl (eZ rfl) rfl rfl j17) rfl<|aD (cB rfl rfl rfl rfl rfl) rfl<|aD (eQ rfl (eZ rfl) rfl rfl rfl hJ j17) rfl<|aD (AU rfl rfl rfl) rfl<|eO h fun j18 h=>aD (Fe rfl rfl j18) rfl<|aD (CG rfl rfl) rfl<|aB rfl<|aL<|aT<|bQ rfl<|cM 0 rfl<|aA rfl<|eO h fun j19 h=>aD (aU rfl rfl (eZ rfl) rfl rfl j19) rfl<|aD (cB rfl rfl rfl rfl rfl) rfl<|oJ (v:=v1) (ds:=p0.2.2) cL (eZ rfl) fun us20=>?_
   refine c_ (bZ ((bY (f:=cG) (eZ rfl) j19.1 (by first|exact j19.2|simpa using j19.2)):aM _ _ (Sl aY (at' us20 a13.2.2) ((at' p0.2.2 a13.2.2).2)))) ?_
   refine aD (tR (gv:=fun x=>x) rfl (eZ rfl) rfl rfl rfl jE ⟨j19.1,by first|exact j19.2|simpa using j19.2⟩) rfl<|eM h fun r21 w22 h=>aN (aR.callQ Oo (BP U (at' us20 a13.2.2) r21 w22) rfl (hI [0] rfl)) rfl fun x23=>aA rfl<|gI rfl<|gI rfl<|aB rfl<|aB rfl<|aL<|aH<|aA rfl<|aA rfl<|aA rfl<|aD (CG rfl rfl) rfl<|aD (CG rfl rfl) rfl<|aB rfl<|fF<|kB<|aH<|aA rfl<|cU rfl<|aB rfl<|aL ?_
   exact eK ((AZ .u32 a13.1 (AI .u32 (1:Int) (wI .u64 ((at' p0.2.2 a13.2.2).1)))),(AZ .u32 a13.2.1 (AZ .u32 r21.1 r21.2)),(wI .i64 (a13.2.2+(1:Int)))) () h SF (bK.refl _) (hI [3,4] rfl)
  refine dY ?_
  exact bS (a13.1,a13.2.1) () h SF .nil (aO.refl _ _)
 intro a7 b8 h
 unfold qY at h
 refine aT<|aA rfl<|aA rfl<|aB rfl<|aB rfl<|aL<|aS ?_
 cases h
 exact eV () rfl rfl (RV.tmp rfl) (RV.tmp rfl) (bK.refl _) aO.nil
end
section
def pX  (a6:Unit):Option (Bool):=
 some (true)
def uT (a10:Int) (ag9:(Int)->Option (Bool)) (a20:Bool):Option (Bool):=
 if a20=true then(some (false))else(ag9 (wI .i64 (a10+(1:Int))))
def kH (U:Nat) (p0:dZ) (p1:Int) (a10:Int) (ag9:(Int)->Option (Bool)):Option (Bool):=
 if a10<(List.length p0.2.2:Int)then(ck (0<=a10∧a10<(List.length p0.2.2:Int)) (Option.bind (nM U ((((at' p0.2.2 a10).1),((at' p0.2.2 a10).2.1),((at' p0.2.2 a10).2.2)))) fun r16=>(if(oY .u32 r16.1 p1)≠(0:Int)then(uT a10 ag9 (decide ((tT .u32 (AZ .u32 r16.1 r16.2) p1)≠(0:Int))))else(uT a10 ag9 (false)))))else(pX  (()))
def uS (U:Nat) (p0:dZ) (p1:Int) (a3:Bool):Option (Bool):=
 if a3=true then(some (false))else(bH (kH U p0 p1) U (0:Int))
def rR (U:Nat) (p0:dZ) (p1:Int):Option (Bool):=
 Option.bind (rQ U ((p0.1,p0.2.1,p0.2.2))) fun r24=>(if(!r24)=true then(uS U p0 p1 (true))else(ck (0<=(wI .u64 (List.length p0.2.1:Int))) (uS U p0 p1 (decide ((rC .u32 p1 (wI .u64 (List.length p0.2.1:Int)))≠(0:Int))))))
theorem Oh:bE Tryz.prog 10:=Tryz.call10
theorem BR (U:Nat) {p0:dZ} {p1:Int} (v0:Value)  (v1:Value) (r:Bool) (h:rR U p0 p1=some r):
  aZ Tryz.prog 10 #[Value.agg #[vS (p0.1),v0,v1],vU (p1)] [Sl aQ v0 p0.2.1,Sl aK v1 p0.2.2] (fun x:Unit=>vB (r)) (fun x l=>l) (fun _ l=>l):=by
 refine aZ.of Tryz.func10 rfl Tryz.ntmps10 rfl fun c=>?_
 refine aT<|aN (aR.box (cs:=[vS (p0.1),v0,v1]) rfl rfl) rfl fun b1=>aB rfl<|aL<|aI<|aI<|cF (fun a3=>uS U p0 p1 a3=some r) (fun a3 b4=>[(1,vU (p1)),(2,vP b1),(19,vB (a3))]) (fun a3 b4=>[dD b1 [vS (p0.1),v0,v1] 25]) ?_ ?_
 ·refine aH<|l_ 0 rfl<|eM h fun r24 w25 h=>aN (aR.callQ Oj (BQ U v0 v1 r24 w25) rfl (hI [0,1] rfl)) rfl fun x26=>aD (eC rfl) rfl<|aA rfl ?_
  refine e_ (by exact rfl) (by exact rfl) (fun hp27=>?_) (fun hp27=>?_)
  ·have h:=Ak hp27 h
   refine aC rfl<|aC rfl<|aC rfl<|aC rfl<|aC rfl<|aC rfl<|aC rfl<|bO rfl<|aL ?_
   exact b_ (true) () h SF rfl
  have h:=rI hp27 h
  refine bM rfl<|aF rfl (bW rfl rfl rfl rfl rfl) rfl<|aF rfl (cI 0 rfl rfl rfl rfl rfl) rfl<|aF rfl (eX rfl (dB rfl) rfl) rfl<|aF rfl (AU rfl rfl rfl) rfl<|eO h fun j28 h=>aF rfl (AW rfl rfl j28) rfl<|aF rfl (xB rfl rfl) rfl<|bR rfl<|aL ?_
  exact b_ (decide ((rC .u32 p1 (wI .u64 (List.length p0.2.1:Int)))≠(0:Int))) () h SF rfl
 intro a3 b4 h
 refine eY h rfl (fun _ h=>?_) fun _ h=>?_
 ·refine aT<|aB rfl<|aL<|aS<|aG ?_
  cases h
  exact vF rfl
 refine bJ<|aI<|cF (fun a6=>pX  a6=some r) (fun a6 b7=>[]) (fun a6 b7=>[]) ?_ ?_
 ·refine aT<|aB rfl<|aL<|aP<|eH (kH U p0 p1) (fun a10 b11=>[(1,vU (p1)),(2,vP b1),(5,vI (a10))]) (fun a10 b11=>[dD b1 [vS (p0.1),v0,v1] 25]) (0:Int) () h SF (bK.refl _) ?_
  intro k12 a10 b11 h
  refine aI<|aT<|aA rfl<|bQ rfl<|cM 0 rfl<|cY (eZ rfl) rfl<|cZ rfl<|aL ?_
  refine fG h rfl (fun h=>?_) fun h=>?_
  ·refine bJ<|aI<|aP<|aT<|bQ rfl<|cM 0 rfl<|aA rfl<|eO h fun j14 h=>aD (aU rfl rfl (eZ rfl) rfl rfl j14) rfl<|oJ (v:=v1) (ds:=p0.2.2) aX (eZ rfl) fun us15=>?_
   refine c_ (bZ ((iY (bY (f:=aJ) (eZ rfl) j14.1 (by first|exact j14.2|simpa using j14.2))):aM _ _ (Sl aY ((at' us15 a10).1) ((at' p0.2.2 a10).2.1)))) ?_
   refine c_ (bZ ((iC (bY (f:=aJ) (Ck rfl) j14.1 (by first|exact j14.2|simpa using j14.2))):aM _ _ (Sl bA ((at' us15 a10).2) ((at' p0.2.2 a10).2.2)))) ?_
   refine aD (eP (cs:=[vS ((at' p0.2.2 a10).1),(at' us15 a10).1,(at' us15 a10).2]) rfl (Ck rfl) rfl rfl rfl rfl ⟨j14.1,by first|exact j14.2|simpa using j14.2⟩) rfl<|eM h fun r16 w17 h=>aN (aR.callQ Ol (AG U ((at' us15 a10).1) ((at' us15 a10).2) r16 w17) rfl (hI [1,0] rfl)) rfl fun x18=>aA rfl<|gI rfl<|gI rfl<|aB rfl<|aB rfl<|aL<|aI<|pB (B:=Unit) (fun a20=>uT a10 (bH (kH U p0 p1) k12) a20=some r) (fun a20 b21=>[(1,vU (p1)),(2,vP b1),(5,vI (a10)),(47,vB (a20))]) (fun a20 b21=>[dD b1 [vS (p0.1),v0,v1] 25]) (fun a20 b21=>[Sl bA ((at' us15 a10).2) ((at' p0.2.2 a10).2.2),Sl aY ((at' us15 a10).1) ((at' p0.2.2 a10).2.1),Rz a_ v1 us15 p0.2.2,Pw aJ us15 p0.2.2,Sl aQ v0 p0.2.1,Sl aK v1 p0.2.2]) ?_ ?_
   ·refine aH<|aA rfl<|aA rfl<|Eo rfl<|rV rfl<|aA rfl ?_
    refine mW h rfl (fun _ h=>?_) fun _ h=>?_
    ·refine bM rfl<|bM rfl<|aF rfl (CG rfl rfl) rfl<|bM rfl<|aF rfl (IX rfl rfl) rfl<|aF rfl (xB rfl rfl) rfl<|bO rfl<|aL ?_
     exact b_ (decide ((tT .u32 (AZ .u32 r16.1 r16.2) p1)≠(0:Int))) () h SF rfl
    refine aC rfl<|aC rfl<|aC rfl<|aC rfl<|aC rfl<|aC rfl<|bR rfl<|aL ?_
    exact b_ (false) () h SF rfl
   intro a20 b21 h
   refine eY h rfl (fun _ h=>?_) fun _ h=>?_
   ·refine aT<|aB rfl<|aL<|aS<|bP<|aG<|aG<|bP<|aG ?_
    cases h
    exact vF rfl
   refine cS<|kB<|aH<|aA rfl<|cU rfl<|aB rfl<|aL ?_
   exact eK (wI .i64 (a10+(1:Int))) () h SF (bK.refl _) (hI [4,5] rfl)
  refine dY ?_
  exact bS () (()) h SF .nil (aO.refl _ _)
 intro a6 b7 h
 unfold pX at h
 refine aT<|aB rfl<|aL<|aS ?_
 cases h
 exact gU rfl
end
section
def uX  (a12:cA):Option mY:=
 some (a12,(0:Int))
def pZ (a17:Int×cA) (ag16:(Int×cA)->Option mY) (a22:cA):Option mY:=
 ag16 ((wI .i64 (a17.1+(1:Int))),a22)
def uY (p1:bV) (a17:Int×cA) (ag16:(Int×cA)->Option mY) (a27:Bool):Option mY:=
 if a27=true then(ck (0<=((at' a17.2 a17.1).2)∧((at' a17.2 a17.1).2)<(List.length p1:Int)) (ck (0<=a17.1∧a17.1<(List.length a17.2:Int)) (pZ a17 ag16 (List.set a17.2 (Int.toNat a17.1) (((at' a17.2 a17.1).1),(at' p1 ((at' a17.2 a17.1).2)))))))else(pZ a17 ag16 (a17.2))
def kJ (p0:cA) (p1:bV) (a17:Int×cA) (ag16:(Int×cA)->Option mY):Option mY:=
 if a17.1<(List.length p0:Int)then(ck (0<=a17.1∧a17.1<(List.length a17.2:Int)) (if((at' a17.2 a17.1).1)=(5:Int)then(uY p1 a17 ag16 (true))else(uY p1 a17 ag16 (decide (((at' a17.2 a17.1).1)=(12:Int))))))else(uX  (a17.2))
def uW (U:Nat) (p0:cA) (p1:bV) (a5:Unit):Option mY:=
 ck (0<=(List.length p0:Int)∧(List.length p0:Int)<=1099511627) (ck (List.length (List.replicate (Int.toNat (List.length p0:Int)) ((0:Int),(0:Int)))=List.length p0) (bH (kJ p0 p1) U ((0:Int),p0)))
def uZ (a36:Int) (ag35:(Int)->Option mY) (a42:Bool):Option mY:=
 if a42=true then(some (([]:cA),(2:Int)))else(ag35 (wI .i64 (a36+(1:Int))))
def kK (U:Nat) (p0:cA) (p1:bV) (a36:Int) (ag35:(Int)->Option mY):Option mY:=
 if a36<(List.length p1:Int)then(ck (0<=a36∧a36<(List.length p1:Int)) (if(at' p1 a36)<(0:Int)then(uZ a36 ag35 (true))else(uZ a36 ag35 (decide ((6:Int)<=(at' p1 a36))))))else(uW U p0 p1 (()))
def rS (U:Nat) (p0:cA) (p1:bV):Option mY:=
 Option.bind (gQ U p0 (List.length p1:Int)) fun r1=>(if(!r1)=true then(some (([]:cA),(7:Int)))else(bH (kK U p0 p1) U (0:Int)))
theorem On:bE Tryz.prog 51:=Tryz.call51
theorem BS (U:Nat) {p0:cA} {p1:bV} (v0:Value)  (v1:Value) (r:cA×Int) (h:rS U p0 p1=some r):
  aZ Tryz.prog 51 #[v0,v1] [Sl aY v0 p0,Sl lH v1 p1] (fun x:Value=>Value.tuple #[x,vI (r.2)]) (fun x l=>Ar dR x r.1::l) (fun _ l=>l):=by
 refine aZ.of Tryz.func51 rfl Tryz.ntmps51 rfl fun c=>?_
 refine aT<|aB rfl<|aB rfl<|aL<|aI<|aT<|aA rfl<|aA rfl<|cY (eZ rfl) rfl<|eM h fun r1 w2 h=>aN (aR.callQ Fg (uU U v0 r1 w2) rfl (hI [0] rfl)) rfl fun x3=>aD (eC rfl) rfl<|aL ?_
 refine eY h rfl (fun _ h=>?_) fun _ h=>?_
 ·refine aT<|aB rfl<|aB rfl<|aL<|aS<|aG<|c_ (fC dR) ?_
  cases h
  exact eV (oI) rfl rfl (RV.tmp rfl) (RV.tmp rfl) (bK.refl _) aO.nil
 refine bJ<|aI<|cF (fun a5=>uW U p0 p1 a5=some r) (fun a5 b6=>[(0,v0),(1,v1)]) (fun a5 b6=>[]) ?_ ?_
 ·refine aT<|aA rfl<|cY (eZ rfl) rfl<|aA rfl<|aL<|aP<|eH (kK U p0 p1) (fun a36 b37=>[(0,v0),(1,v1),(16,v1),(17,vI (List.length p1:Int)),(18,vI (a36))]) (fun a36 b37=>[]) (0:Int) () h SF (bK.refl _) ?_
  intro k38 a36 b37 h
  refine aT<|cZ rfl<|aL<|aI ?_
  refine fG h rfl (fun h=>?_) fun h=>?_
  ·refine bJ<|aI<|aP<|aT<|eO h fun j40 h=>aD (aU rfl rfl (eZ rfl) rfl rfl j40) rfl<|aD (fN rfl (eZ rfl) rfl rfl rfl jP j40) rfl<|aB rfl<|aL<|aI<|cF (fun a42=>uZ a36 (bH (kK U p0 p1) k38) a42=some r) (fun a42 b43=>[(0,v0),(1,v1),(16,v1),(17,vI (List.length p1:Int)),(18,vI (a36)),(27,vB (a42))]) (fun a42 b43=>[]) ?_ ?_
   ·refine aH<|aA rfl<|cZ rfl<|aA rfl ?_
    refine mW h rfl (fun _ h=>?_) fun _ h=>?_
    ·refine aC rfl<|aC rfl<|bO rfl<|aL ?_
     exact b_ (true) () h SF rfl
    refine bM rfl<|aF rfl (lL rfl rfl) rfl<|bR rfl<|aL ?_
    exact b_ (decide ((6:Int)<=(at' p1 a36))) () h SF rfl
   intro a42 b43 h
   refine eY h rfl (fun _ h=>?_) fun _ h=>?_
   ·refine aT<|aB rfl<|aB rfl<|aL<|aS<|bP<|aG<|aG<|bP<|aG<|c_ (fC dR) ?_
    cases h
    exact eV (oI) rfl rfl (RV.tmp rfl) (RV.tmp rfl) (bK.refl _) aO.nil
   refine cS<|kB<|aH<|cU rfl<|aA rfl<|aL ?_
   exact AC (wI .i64 (a36+(1:Int))) () h SF rfl
  refine dY ?_
  exact b_ () (()) h SF rfl
 intro a5 b6 h
 refine aT<|aA rfl<|cY (dB rfl) rfl<|eO h fun j7 h=>aN (z_ (e:=dR) (((0:Int),(0:Int))) rfl rfl rfl rfl j7 rfl rfl rfl) rfl fun u8=>aB rfl<|aL<|aT<|aA rfl<|aA rfl<|eO h fun j9 h=>aN (Km 0 dI rfl rfl rfl (dB rfl) rfl rfl rfl j9) rfl fun x10=>aL<|aI<|cF (fun a12=>uX  a12=some r) (fun a12 b13=>[(8,u8)]) (fun a12 b13=>[Ar dR u8 a12]) ?_ ?_
 ·refine aT<|aA rfl<|aD (eX rfl (bT (aM.res 0 rfl) dI) rfl) rfl<|aA rfl<|aL<|aP<|eH (kJ p0 p1) (fun a17 b18=>[(1,v1),(8,u8),(35,u8),(36,vI (List.length p0:Int)),(37,vI (a17.1))]) (fun a17 b18=>[Ar dR u8 a17.2]) ((0:Int),p0) () h SF (bK.refl _) ?_
  intro k19 a17 b18 h
  refine aT<|cZ rfl<|aL<|aI ?_
  refine fG h rfl (fun h=>?_) fun h=>?_
  ·refine bJ<|aI<|cF (fun a22=>pZ a17 (bH (kJ p0 p1) k19) a22=some r) (fun a22 b23=>[(1,v1),(8,u8),(35,u8),(36,vI (List.length p0:Int)),(37,vI (a17.1))]) (fun a22 b23=>[Ar dR u8 a22]) ?_ ?_
   ·refine aP<|aT<|aA rfl<|eO h fun j24 h=>aD (aU rfl rfl (bT (aM.res 0 rfl) dI) rfl rfl j24) rfl<|aD (fO (cs:=[vI ((at' a17.2 a17.1).1),vI ((at' a17.2 a17.1).2)]) rfl (bT (aM.res 0 rfl) dI) dI rfl rfl rfl rfl j24) rfl<|aN (aR.alloc (cs:=[vI (0:Int),vI (0:Int)]) rfl rfl) rfl fun b25=>aB rfl<|cC 0 (vs:=[vI ((at' a17.2 a17.1).1),vI ((at' a17.2 a17.1).2)]) rfl rfl rfl rfl rfl rfl<|aL<|aI<|cF (fun a27=>uY p1 a17 (bH (kJ p0 p1) k19) a27=some r) (fun a27 b28=>[(1,v1),(8,u8),(9,vI (a17.1)),(10,vP b25),(35,u8),(36,vI (List.length p0:Int)),(37,vI (a17.1)),(49,vB (a27))]) (fun a27 b28=>[dD b25 [vI ((at' a17.2 a17.1).1),vI ((at' a17.2 a17.1).2)] 84,Ar dR u8 a17.2]) ?_ ?_
    ·refine aH<|bQ rfl<|cM 0 rfl<|cH rfl<|aA rfl ?_
     refine mW h rfl (fun _ h=>?_) fun _ h=>?_
     ·refine aC rfl<|aC rfl<|aC rfl<|bO rfl<|aL ?_
      exact b_ (true) () h SF rfl
     refine aF rfl (bW rfl rfl rfl rfl rfl) rfl<|aF rfl (cI 0 rfl rfl rfl rfl rfl) rfl<|aF rfl (kP rfl rfl) rfl<|bR rfl<|aL ?_
     exact b_ (decide (((at' a17.2 a17.1).1)=(12:Int))) () h SF rfl
    intro a27 b28 h
    refine eY h rfl (fun _ h=>?_) fun _ h=>?_
    ·refine aH<|aA rfl<|aA rfl<|aA rfl<|bQ rfl<|cM 0 rfl<|eO h fun j30 h=>aD (aU rfl rfl (eZ rfl) rfl rfl j30) rfl<|aD (fN rfl (eZ rfl) rfl rfl rfl jP j30) rfl<|eO h fun j31 h=>aD (aU rfl rfl (bT (aM.res 1 rfl) dI) rfl rfl j31) rfl<|aD (cB rfl rfl rfl rfl rfl) rfl<|Ln (Ea (us:=[vI (at' p1 ((at' a17.2 a17.1).2))]) (o:=1) 1 ((((at' a17.2 a17.1).1),(at' p1 ((at' a17.2 a17.1).2)))) j31 rfl rfl rfl rfl rfl rfl rfl rfl rfl rfl) fun x32=>fF<|kB ?_
     exact bS (List.set a17.2 (Int.toNat a17.1) (((at' a17.2 a17.1).1),(at' p1 ((at' a17.2 a17.1).2)))) () h SF (bK.ix [1] rfl rfl) (aO.refl _ _)
    refine cS<|kB ?_
    exact bS (a17.2) () h SF (bK.ix [1] rfl rfl) (aO.refl _ _)
   intro a22 b23 h
   unfold pZ at h
   refine aH<|cU rfl<|aA rfl<|aL ?_
   exact AC ((wI .i64 (a17.1+(1:Int))),a22) () h SF rfl
  refine dY ?_
  exact b_ (a17.2) () h SF rfl
 intro a12 b13 h
 unfold uX at h
 refine aT<|aA rfl<|aB rfl<|aB rfl<|aL<|aS ?_
 cases h
 exact eV (u8) rfl rfl (RV.tmp rfl) (RV.tmp rfl) (bK.refl _) aO.nil
end
section
def nA (p0:oM) (r4:cA×Int) (a11:(List (Int×cA))):Option JJ:=
 some ((p0.1,r4.1,a11))
def kA (U:Nat) (p0:oM) (p1:bV) (r4:cA×Int) (a20:Int×(List (Int×cA))) (ag19:(Int×(List (Int×cA)))->Option JJ):Option JJ:=
 if a20.1<(List.length p0.2.2:Int)then(ck (0<=a20.1∧a20.1<(List.length p0.2.2:Int)) (Option.bind (rS U ((at' p0.2.2 a20.1).2) p1) fun r28=>(ck (0<=((at' p0.2.2 a20.1).1)∧((at' p0.2.2 a20.1).1)<(List.length p1:Int)) (ck ((List.length a20.2:Int)+(List.length ([((at' p1 ((at' p0.2.2 a20.1).1)),r28.1)]):Int)<=1099511627) (ag19 ((wI .i64 (a20.1+(1:Int))),(a20.2++([((at' p1 ((at' p0.2.2 a20.1).1)),r28.1)]))))))))else(nA p0 r4 (a20.2))
def oT (U:Nat) (p0:oM) (p1:bV):Option JJ:=
 Option.bind (rS U p0.2.1 p1) fun r4=>(bH (kA U p0 p1 r4) U ((0:Int),([]:List (Int×cA))))
theorem SR:bE Tryz.prog 24:=Tryz.call24
theorem Df (U:Nat) {p0:oM} {p1:bV} (v0:Value)  (v1:Value)  (v2:Value) (r:(ByteArray×cA×(List (Int×cA)))) (h:oT U p0 p1=some r):
  aZ Tryz.prog 24 #[Value.agg #[vS (p0.1),v0,v1],v2] [Sl aY v0 p0.2.1,Sl bA v1 p0.2.2,Sl lH v2 p1] (fun x:Value×Value×List (Value)=>Value.agg #[vS (r.1),x.1,x.2.1]) (fun x l=>Ar dR x.1 r.2.1::Ad cW x.2.1 x.2.2 r.2.2::l) (fun x l=>Pw cG x.2.2 r.2.2::l):=by
 refine aZ.of Tryz.func24 rfl Tryz.ntmps24 rfl fun c=>?_
 refine aT<|aN (aR.box (cs:=[vS (p0.1),v0,v1]) rfl rfl) rfl fun b1=>aN (aR.alloc (cs:=xJ) rfl rfl) rfl fun b2=>aL<|aT<|bQ rfl<|cM 1 rfl ?_
 refine aD (HC (r:=Value.agg #[vS (p0.1),oI,oI]) rfl (by intro w;simp[Instr.build,Instr.fill,iD,gC,fL,iF,iG,gE,jW])) rfl ?_
 refine aN (aR.alloc (cs:=xJ) rfl rfl) rfl fun b3=>cC 0 (vs:=[vS (p0.1),oI,oI]) rfl rfl rfl rfl rfl rfl<|aL<|aT<|bQ rfl<|cM 2 rfl<|aA rfl<|eM h fun r4 w5 h=>aN (aR.callQ On (BS U v0 v2 r4 w5) rfl (hI [0,2] rfl)) rfl fun x6=>aA rfl<|gI rfl<|gI rfl<|bQ rfl<|dG (Know.one ((bT (aM.res 0 rfl) dI))) fun ho7=>pC 1 rfl rfl ho7 rfl rfl rfl<|aL<|aI<|pB (B:=Value×List (Value)) (fun a11=>nA p0 r4 a11=some r) (fun a11 b12=>[(4,vP b2),(5,vP b3)]) (fun a11 b12=>[Ar dR x6 r4.1,dD b3 [vS (p0.1),x6,b12.1] 42,dD b2 xJ 42,Ad cW b12.1 b12.2 a11]) (fun a11 b12=>[Sl aY v0 p0.2.1,Sl bA v1 p0.2.2,Sl lH v2 p1,Pw cG b12.2 a11]) ?_ ?_
 ·refine aT<|bQ rfl<|cM 3 rfl<|cY (eZ rfl) rfl<|aA rfl<|aL<|aP<|c_ (Bu cW)<|c_ (bZ (mX:aM _ _ (Pw cG ([]:nT) ([]:List (Int×cA)))))<|yS (B:=Value×List (Value)) (kA U p0 p1 r4) (fun a20 b21=>[(1,v2),(4,vP b2),(5,vP b3),(22,v1),(23,vI (List.length p0.2.2:Int)),(24,vI (a20.1))]) (fun a20 b21=>[Ar dR x6 r4.1,dD b3 [vS (p0.1),x6,b21.1] 42,dD b2 xJ 42,Ad cW b21.1 b21.2 a20.2]) (fun a20 b21=>[Sl aY v0 p0.2.1,Sl bA v1 p0.2.2,Sl lH v2 p1,Pw cG b21.2 a20.2]) ((0:Int),([]:List (Int×cA))) ((oI),([]:nT)) h SF (bK.ix [1,2,3,0] rfl rfl) (hI [1,2,3,0] rfl) ?_
  intro k22 a20 b21 h
  refine aT<|cZ rfl<|aL<|aI ?_
  refine fG h rfl (fun h=>?_) fun h=>?_
  ·refine bJ<|aI<|aP<|aT<|eO h fun j24 h=>aD (aU rfl rfl (eZ rfl) rfl rfl j24) rfl<|oJ (v:=v1) (ds:=p0.2.2) cL (eZ rfl) fun us25=>?_
   refine c_ (bZ ((bY (f:=cG) (eZ rfl) j24.1 (by first|exact j24.2|simpa using j24.2)):aM _ _ (Sl aY (at' us25 a20.1) ((at' p0.2.2 a20.1).2)))) ?_
   refine aD (eP (cs:=[vI ((at' p0.2.2 a20.1).1),at' us25 a20.1]) rfl (eZ rfl) rfl rfl rfl rfl ⟨j24.1,by first|exact j24.2|simpa using j24.2⟩) rfl<|aN (aR.alloc (cs:=[vI (0:Int),oI]) rfl rfl) rfl fun b26=>dG (Know.one ((dB rfl))) fun ho27=>cC 0 (vs:=[vI ((at' p0.2.2 a20.1).1),at' us25 a20.1]) rfl rfl (fE rfl (fE ho27 rfl)) rfl rfl rfl<|aL<|aT<|bQ rfl<|cM 0 rfl<|aA rfl<|eM h fun r28 w29 h=>aN (aR.callQ On (BS U (at' us25 a20.1) v2 r28 w29) rfl (hI [0,5] rfl)) rfl fun x30=>aA rfl<|gI rfl<|gI rfl<|aB rfl<|aB rfl<|aL ?_
   refine Gi [0,1,0,0,8,28,60,0,252,508,1023,2047,4095] 10 mixedOrders ?_
   refine lV rfl<|tO 3 rfl<|cR rfl<|lV rfl<|tO 1 rfl<|eO h fun j31 h=>cN rfl .nil (lN 5 rfl) (aU rfl rfl (dB rfl) rfl rfl j31) bD.z<|cN rfl .nil (lN 5 rfl) (fN rfl (dB rfl) rfl rfl rfl jP j31) bD.z<|cR rfl<|sK (Know.one ((bT (aM.res 0 rfl) dI))) fun ho32=>?_
   refine rH rfl (Kt (r:=Value.agg #[vI (at' p1 ((at' p0.2.2 a20.1).1)),x30]) rfl rfl (by intro w;simp[Instr.build,Instr.fill,iD,gC,fL,iF,iG,gE,jW,yB ho32])) ?_
   refine JR.stp (oD [Ar dR x30 r28.1] [dD b26 [vI ((at' p0.2.2 a20.1).1),at' us25 a20.1] 44,Ar dR x6 r4.1,dD b3 [vS (p0.1),x6,b21.1] 42,dD b2 xJ 42,Ad cW b21.1 b21.2 a20.2] (bK.ix [0,1,2,3,4,5] rfl rfl) (bT (aM.res 0 rfl) dI))<|JR.stp (bZ ((xM (dB rfl) mX):aM _ _ (Pw cG ([x30]) ([((at' p1 ((at' p0.2.2 a20.1).1)),r28.1)]))))<|sK (Know.one ((eZ rfl))) fun ho33=>JR.loud rfl rfl rfl (yT (e:=cW) [x30] [(((at' p1 ((at' p0.2.2 a20.1).1)),r28.1))] [(0,Value.agg #[vI (at' p1 ((at' p0.2.2 a20.1).1)),x30])] rfl rfl rfl rfl (Jf (vI (at' p1 ((at' p0.2.2 a20.1).1))) (x30)) rfl rfl (show List.all [vI (at' p1 ((at' p0.2.2 a20.1).1)),x30] one=true from(fE rfl (fE ho33 rfl))) rfl) rfl (fun u34=>(CJ [([3],[])] rfl)) fun u34=>dM 10 rfl rfl<|eO h fun j35 h=>c_ (bZ ((w_ (dA 8 rfl) (dB rfl)):aM _ _ (Pw cG (b21.2++[x30]) (a20.2++([((at' p1 ((at' p0.2.2 a20.1).1)),r28.1)])))))<|aN (aR.appendD 5 0 rfl rfl rfl rfl rfl rfl rfl rfl j35 rfl) rfl fun u36=>bQ rfl<|dG (Know.one ((sL (i:=5) (j:=0) cL rfl rfl))) fun ho37=>pC 3 rfl rfl ho37 rfl rfl rfl<|fF<|kB<|aH<|cU rfl<|aA rfl<|aL ?_
   exact eK ((wI .i64 (a20.1+(1:Int))),(a20.2++([((at' p1 ((at' p0.2.2 a20.1).1)),r28.1)]))) (u36,(b21.2++[x30])) h SF (bK.ix [2,3,4,5] rfl rfl) (hI [6,7,8,0] rfl)
  refine dY ?_
  exact b_ (a20.2) (b21.1,b21.2) h SF rfl
 intro a11 b12 h
 unfold nA at h
 refine aT<|l_ 1 rfl<|dG (Know.one ((bT (aM.res 0 rfl) dI))) fun ho13=>dG (Know.one ((sL (i:=3) (j:=3) cL rfl rfl))) fun ho14=>cC 2 (vs:=[vS (p0.1),x6,b12.1]) rfl rfl (fE rfl (fE ho13 (fE ho14 rfl))) rfl rfl rfl<|aL<|aS ?_
 cases h
 exact xL (x6,b12.1,b12.2) rfl rfl (RV.cell 2 rfl rfl rfl rfl) (bK.ix [0,3] rfl rfl) (hI [3] rfl)
end
section
def sS  (a10:cA):Option mY:=
 some (a10,(0:Int))
def nN (a15:Int×cA) (ag14:(Int×cA)->Option mY) (a20:cA):Option mY:=
 ag14 ((wI .i64 (a15.1+(1:Int))),a20)
def sT (p1:bV) (a15:Int×cA) (ag14:(Int×cA)->Option mY) (a23:Bool):Option mY:=
 if a23=true then(ck (0<=a15.1∧a15.1<(List.length a15.2:Int)) (ck (0<=((at' a15.2 a15.1).2)∧((at' a15.2 a15.1).2)<(List.length p1:Int)) (ck (0<=a15.1∧a15.1<(List.length a15.2:Int)) (nN a15 ag14 (List.set a15.2 (Int.toNat a15.1) (((at' a15.2 a15.1).1),(at' p1 ((at' a15.2 a15.1).2))))))))else(nN a15 ag14 (a15.2))
def jF (p1:bV) (a15:Int×cA) (ag14:(Int×cA)->Option mY):Option mY:=
 if a15.1<(List.length a15.2:Int)then(ck (0<=a15.1∧a15.1<(List.length a15.2:Int)) (if((at' a15.2 a15.1).1)=(5:Int)then(sT p1 a15 ag14 (true))else(ck (0<=a15.1∧a15.1<(List.length a15.2:Int)) (sT p1 a15 ag14 (decide (((at' a15.2 a15.1).1)=(12:Int)))))))else(sS  (a15.2))
def sR (U:Nat) (p0:cA) (p1:bV) (a5:Unit):Option mY:=
 ck ((List.length ([]:cA):Int)+(List.length p0:Int)<=1099511627) (bH (jF p1) U ((0:Int),(([]:cA)++p0)))
def sU (a35:Int) (ag34:(Int)->Option mY) (a40:Bool):Option mY:=
 if a40=true then(some (([]:cA),(2:Int)))else(ag34 (wI .i64 (a35+(1:Int))))
def jG (U:Nat) (p0:cA) (p1:bV) (a35:Int) (ag34:(Int)->Option mY):Option mY:=
 if a35<(List.length p1:Int)then(ck (0<=a35∧a35<(List.length p1:Int)) (if(at' p1 a35)<(0:Int)then(sU a35 ag34 (true))else(ck (0<=a35∧a35<(List.length p1:Int)) (sU a35 ag34 (decide ((6:Int)<=(at' p1 a35)))))))else(sR U p0 p1 (()))
def pN (U:Nat) (p0:cA) (p1:bV):Option mY:=
 Option.bind (gK U p0 (List.length p1:Int)) fun r1=>(if(!r1)=true then(some (([]:cA),(7:Int)))else(bH (jG U p0 p1) U (0:Int)))
theorem Oq:bE Tryz.prog 54:=Tryz.call54
theorem Bn (U:Nat) {p0:cA} {p1:bV} (v0:Value)  (v1:Value) (r:cA×Int) (h:pN U p0 p1=some r):
  aZ Tryz.prog 54 #[v0,v1] [Sl aY v0 p0,Sl lH v1 p1] (fun x:Value=>Value.tuple #[x,vI (r.2)]) (fun x l=>Ar dR x r.1::l) (fun _ l=>l):=by
 refine aZ.of Tryz.func54 rfl Tryz.ntmps54 rfl fun c=>?_
 refine aT<|aB rfl<|aB rfl<|aL<|aI<|aT<|aA rfl<|aA rfl<|cY (eZ rfl) rfl<|eM h fun r1 w2 h=>aN (aR.callQ HL (wV U v0 r1 w2) rfl (hI [0] rfl)) rfl fun x3=>aD (eC rfl) rfl<|aL ?_
 refine eY h rfl (fun _ h=>?_) fun _ h=>?_
 ·refine aT<|aB rfl<|aB rfl<|aL<|aS<|aG<|c_ (fC dR) ?_
  cases h
  exact eV (oI) rfl rfl (RV.tmp rfl) (RV.tmp rfl) (bK.refl _) aO.nil
 refine bJ<|aI<|cF (fun a5=>sR U p0 p1 a5=some r) (fun a5 b6=>[(0,v0),(1,v1)]) (fun a5 b6=>[]) ?_ ?_
 ·refine aT<|aB rfl<|aL<|aP<|eH (jG U p0 p1) (fun a35 b36=>[(0,v0),(1,v1),(6,vI (a35))]) (fun a35 b36=>[]) (0:Int) () h SF (bK.refl _) ?_
  intro k37 a35 b36 h
  refine aI<|aT<|aA rfl<|aA rfl<|cY (eZ rfl) rfl<|cZ rfl<|aL ?_
  refine fG h rfl (fun h=>?_) fun h=>?_
  ·refine bJ<|aI<|aP<|aI<|cF (fun a40=>sU a35 (bH (jG U p0 p1) k37) a40=some r) (fun a40 b41=>[(0,v0),(1,v1),(6,vI (a35)),(31,vB (a40))]) (fun a40 b41=>[]) ?_ ?_
   ·refine aH<|aA rfl<|aA rfl<|eO h fun j43 h=>aD (aU rfl rfl (eZ rfl) rfl rfl j43) rfl<|aD (fN rfl (eZ rfl) rfl rfl rfl jP j43) rfl<|cZ rfl<|aA rfl ?_
    refine mW h rfl (fun _ h=>?_) fun _ h=>?_
    ·refine aC rfl<|aC rfl<|aC rfl<|aC rfl<|aC rfl<|bO rfl<|aL ?_
     exact b_ (true) () h SF rfl
    refine bM rfl<|bM rfl<|eO h fun j45 h=>aF rfl (aU rfl rfl (eZ rfl) rfl rfl j45) rfl<|aF rfl (fN rfl (eZ rfl) rfl rfl rfl jP j45) rfl<|aF rfl (lL rfl rfl) rfl<|bR rfl<|aL ?_
    exact b_ (decide ((6:Int)<=(at' p1 a35))) () h SF rfl
   intro a40 b41 h
   refine eY h rfl (fun _ h=>?_) fun _ h=>?_
   ·refine aT<|aB rfl<|aB rfl<|aL<|aS<|bP<|aG<|aG<|bP<|aG<|c_ (fC dR) ?_
    cases h
    exact eV (oI) rfl rfl (RV.tmp rfl) (RV.tmp rfl) (bK.refl _) aO.nil
   refine cS<|kB<|aH<|aA rfl<|cU rfl<|aB rfl<|aL ?_
   exact AC (wI .i64 (a35+(1:Int))) () h SF rfl
  refine dY ?_
  exact b_ () (()) h SF rfl
 intro a5 b6 h
 refine aT<|aA rfl<|c_ (fC dR)<|eO h fun j8 h=>aN (jO 0 dI rfl rfl rfl (dB rfl) rfl rfl rfl rfl j8 rfl) rfl fun u7=>aB rfl<|aL<|aI<|cF (fun a10=>sS  a10=some r) (fun a10 b11=>[(7,u7)]) (fun a10 b11=>[Ar dR u7 a10]) ?_ ?_
 ·refine aT<|aB rfl<|aL<|aP<|eH (jF p1) (fun a15 b16=>[(1,v1),(7,u7),(8,vI (a15.1))]) (fun a15 b16=>[Ar dR u7 a15.2]) ((0:Int),(([]:cA)++p0)) () h SF (bK.refl _) ?_
  intro k17 a15 b16 h
  refine aI<|aT<|aA rfl<|aA rfl<|aD (eX rfl (bT (aM.res 0 rfl) dI) rfl) rfl<|cZ rfl<|aL ?_
  refine fG h rfl (fun h=>?_) fun h=>?_
  ·refine bJ<|aI<|cF (fun a20=>nN a15 (bH (jF p1) k17) a20=some r) (fun a20 b21=>[(1,v1),(7,u7),(8,vI (a15.1))]) (fun a20 b21=>[Ar dR u7 a20]) ?_ ?_
   ·refine aP<|aI<|cF (fun a23=>sT p1 a15 (bH (jF p1) k17) a23=some r) (fun a23 b24=>[(1,v1),(7,u7),(8,vI (a15.1)),(53,vB (a23))]) (fun a23 b24=>[Ar dR u7 a15.2]) ?_ ?_
    ·refine aH<|aA rfl<|aA rfl<|eO h fun j30 h=>aD (aU rfl rfl (bT (aM.res 0 rfl) dI) rfl rfl j30) rfl<|aD (cB rfl rfl rfl rfl rfl) rfl<|aD (eQ rfl (bT (aM.res 0 rfl) dI) rfl rfl rfl j_ j30) rfl<|cH rfl<|aA rfl ?_
     refine mW h rfl (fun _ h=>?_) fun _ h=>?_
     ·refine aC rfl<|aC rfl<|aC rfl<|aC rfl<|aC rfl<|aC rfl<|bO rfl<|aL ?_
      exact b_ (true) () h SF rfl
     refine bM rfl<|bM rfl<|eO h fun j32 h=>aF rfl (aU rfl rfl (bT (aM.res 0 rfl) dI) rfl rfl j32) rfl<|aF rfl (cB rfl rfl rfl rfl rfl) rfl<|aF rfl (eQ rfl (bT (aM.res 0 rfl) dI) rfl rfl rfl j_ j32) rfl<|aF rfl (kP rfl rfl) rfl<|bR rfl<|aL ?_
     exact b_ (decide (((at' a15.2 a15.1).1)=(12:Int))) () h SF rfl
    intro a23 b24 h
    refine eY h rfl (fun _ h=>?_) fun _ h=>?_
    ·refine aH<|aA rfl<|aA rfl<|aA rfl<|aA rfl<|aA rfl<|eO h fun j26 h=>aD (aU rfl rfl (bT (aM.res 0 rfl) dI) rfl rfl j26) rfl<|aD (cB rfl rfl rfl rfl rfl) rfl<|aD (eQ rfl (bT (aM.res 0 rfl) dI) rfl rfl rfl BZ j26) rfl<|eO h fun j27 h=>aD (aU rfl rfl (eZ rfl) rfl rfl j27) rfl<|aD (fN rfl (eZ rfl) rfl rfl rfl jP j27) rfl<|eO h fun j28 h=>aD (aU rfl rfl (bT (aM.res 0 rfl) dI) rfl rfl j28) rfl<|aD (cB rfl rfl rfl rfl rfl) rfl<|Ln (Ea (us:=[vI (at' p1 ((at' a15.2 a15.1).2))]) (o:=1) 0 ((((at' a15.2 a15.1).1),(at' p1 ((at' a15.2 a15.1).2)))) j28 rfl rfl rfl rfl rfl rfl rfl rfl rfl rfl) fun x29=>fF<|kB ?_
     exact b_ (List.set a15.2 (Int.toNat a15.1) (((at' a15.2 a15.1).1),(at' p1 ((at' a15.2 a15.1).2)))) () h SF rfl
    refine cS<|kB ?_
    exact b_ (a15.2) () h SF rfl
   intro a20 b21 h
   unfold nN at h
   refine aH<|aA rfl<|cU rfl<|aB rfl<|aL ?_
   exact AC ((wI .i64 (a15.1+(1:Int))),a20) () h SF rfl
  refine dY ?_
  exact b_ (a15.2) () h SF rfl
 intro a10 b11 h
 unfold sS at h
 refine aT<|aA rfl<|aB rfl<|aB rfl<|aL<|aS ?_
 cases h
 exact eV (u7) rfl rfl (RV.tmp rfl) (RV.tmp rfl) (bK.refl _) aO.nil
end
section
def lQ (p0:oM) (r4:cA×Int) (a11:(List (Int×cA))):Option JJ:=
 some ((p0.1,r4.1,a11))
def jM (U:Nat) (p0:oM) (p1:bV) (r4:cA×Int) (a20:Int×(List (Int×cA))) (ag19:(Int×(List (Int×cA)))->Option JJ):Option JJ:=
 if a20.1<(List.length p0.2.2:Int)then(ck (0<=a20.1∧a20.1<(List.length p0.2.2:Int)) (Option.bind (pN U ((at' p0.2.2 a20.1).2) p1) fun r26=>(ck (0<=a20.1∧a20.1<(List.length p0.2.2:Int)) (ck (0<=((at' p0.2.2 a20.1).1)∧((at' p0.2.2 a20.1).1)<(List.length p1:Int)) (ck ((List.length a20.2:Int)+(List.length ([((at' p1 ((at' p0.2.2 a20.1).1)),r26.1)]):Int)<=1099511627) (ag19 ((wI .i64 (a20.1+(1:Int))),(a20.2++([((at' p1 ((at' p0.2.2 a20.1).1)),r26.1)])))))))))else(lQ p0 r4 (a20.2))
def nE (U:Nat) (p0:oM) (p1:bV):Option JJ:=
 Option.bind (pN U p0.2.1 p1) fun r4=>(bH (jM U p0 p1 r4) U ((0:Int),([]:List (Int×cA))))
theorem SU:bE Tryz.prog 28:=Tryz.call28
theorem Cr (U:Nat) {p0:oM} {p1:bV} (v0:Value)  (v1:Value)  (v2:Value) (r:(ByteArray×cA×(List (Int×cA)))) (h:nE U p0 p1=some r):
  aZ Tryz.prog 28 #[Value.agg #[vS (p0.1),v0,v1],v2] [Sl aY v0 p0.2.1,Sl bA v1 p0.2.2,Sl lH v2 p1] (fun x:Value×Value×List (Value)=>Value.agg #[vS (r.1),x.1,x.2.1]) (fun x l=>Ar dR x.1 r.2.1::Ad cW x.2.1 x.2.2 r.2.2::l) (fun x l=>Pw cG x.2.2 r.2.2::l):=by
 refine aZ.of Tryz.func28 rfl Tryz.ntmps28 rfl fun c=>?_
 refine aT<|aN (aR.box (cs:=[vS (p0.1),v0,v1]) rfl rfl) rfl fun b1=>aN (aR.alloc (cs:=xJ) rfl rfl) rfl fun b2=>aL<|aT<|bQ rfl<|cM 1 rfl ?_
 refine aD (HC (r:=Value.agg #[vS (p0.1),oI,oI]) rfl (by intro w;simp[Instr.build,Instr.fill,iD,gC,fL,iF,iG,gE,jW])) rfl ?_
 refine aN (aR.alloc (cs:=xJ) rfl rfl) rfl fun b3=>cC 0 (vs:=[vS (p0.1),oI,oI]) rfl rfl rfl rfl rfl rfl<|aL<|aT<|bQ rfl<|cM 2 rfl<|aA rfl<|eM h fun r4 w5 h=>aN (aR.callQ Oq (Bn U v0 v2 r4 w5) rfl (hI [0,2] rfl)) rfl fun x6=>aA rfl<|gI rfl<|gI rfl<|bQ rfl<|dG (Know.one ((bT (aM.res 0 rfl) dI))) fun ho7=>pC 1 rfl rfl ho7 rfl rfl rfl<|aL<|aI<|pB (B:=Value×List (Value)) (fun a11=>lQ p0 r4 a11=some r) (fun a11 b12=>[(4,vP b2),(5,vP b3)]) (fun a11 b12=>[Ar dR x6 r4.1,dD b3 [vS (p0.1),x6,b12.1] 42,dD b2 xJ 42,Ad cW b12.1 b12.2 a11]) (fun a11 b12=>[Sl aY v0 p0.2.1,Sl bA v1 p0.2.2,Sl lH v2 p1,Pw cG b12.2 a11]) ?_ ?_
 ·refine aT<|aB rfl<|aL<|aP<|c_ (Bu cW)<|c_ (bZ (mX:aM _ _ (Pw cG ([]:nT) ([]:List (Int×cA)))))<|yS (B:=Value×List (Value)) (jM U p0 p1 r4) (fun a20 b21=>[(1,v2),(2,vP b1),(4,vP b2),(5,vP b3),(6,vI (a20.1))]) (fun a20 b21=>[Ar dR x6 r4.1,dD b3 [vS (p0.1),x6,b21.1] 42,dD b2 xJ 42,dD b1 [vS (p0.1),v0,v1] 42,Ad cW b21.1 b21.2 a20.2]) (fun a20 b21=>[Sl aY v0 p0.2.1,Sl bA v1 p0.2.2,Sl lH v2 p1,Pw cG b21.2 a20.2]) ((0:Int),([]:List (Int×cA))) ((oI),([]:nT)) h SF (bK.ix [1,2,3,4,0] rfl rfl) (hI [1,2,3,0] rfl) ?_
  intro k22 a20 b21 h
  refine aI<|aT<|aA rfl<|bQ rfl<|cM 3 rfl<|cY (eZ rfl) rfl<|cZ rfl<|aL ?_
  refine fG h rfl (fun h=>?_) fun h=>?_
  ·refine bJ<|aI<|aP<|aT<|bQ rfl<|cM 3 rfl<|aA rfl<|eO h fun j24 h=>aD (aU rfl rfl (eZ rfl) rfl rfl j24) rfl<|aD (cB rfl rfl rfl rfl rfl) rfl<|oJ (v:=v1) (ds:=p0.2.2) cL (eZ rfl) fun us25=>?_
   refine c_ (bZ ((bY (f:=cG) (eZ rfl) j24.1 (by first|exact j24.2|simpa using j24.2)):aM _ _ (Sl aY (at' us25 a20.1) ((at' p0.2.2 a20.1).2)))) ?_
   refine aD (tR (gv:=fun x=>x) rfl (eZ rfl) rfl rfl rfl jE ⟨j24.1,by first|exact j24.2|simpa using j24.2⟩) rfl<|aA rfl<|eM h fun r26 w27 h=>aN (aR.callQ Oq (Bn U (at' us25 a20.1) v2 r26 w27) rfl (hI [0,5] rfl)) rfl fun x28=>aA rfl<|gI rfl<|gI rfl<|aB rfl<|aB rfl<|aL ?_
   refine Gi [0,1,0,0,8,0,56,120,248,508,1020,0,4092,8188,16383,32767,65535] 14 mixedOrders ?_
   refine lV rfl<|tO 2 rfl<|cR rfl<|lV rfl<|tO 4 rfl<|cR rfl<|eO h fun j29 h=>cN rfl .nil (lN 4 rfl) (aU rfl rfl (dB rfl) rfl rfl j29) bD.z<|rH rfl (cB rfl rfl rfl rfl rfl)<|cN rfl .nil (lN 4 rfl) (eQ rfl (dB rfl) rfl rfl rfl hJ j29) bD.z<|eO h fun j30 h=>cN rfl .nil (lN 5 rfl) (aU rfl rfl (dB rfl) rfl rfl j30) bD.z<|cN rfl .nil (lN 5 rfl) (fN rfl (dB rfl) rfl rfl rfl jP j30) bD.z<|cR rfl<|sK (Know.one ((bT (aM.res 0 rfl) dI))) fun ho31=>?_
   refine rH rfl (Kt (r:=Value.agg #[vI (at' p1 ((at' p0.2.2 a20.1).1)),x28]) rfl rfl (by intro w;simp[Instr.build,Instr.fill,iD,gC,fL,iF,iG,gE,jW,yB ho31])) ?_
   refine JR.stp (oD [Ar dR x28 r26.1] [Ar dR x6 r4.1,dD b3 [vS (p0.1),x6,b21.1] 42,dD b2 xJ 42,dD b1 [vS (p0.1),v0,v1] 42,Ad cW b21.1 b21.2 a20.2] (bK.ix [0,1,2,3,4,5] rfl rfl) (bT (aM.res 0 rfl) dI))<|JR.stp (bZ ((xM (dB rfl) mX):aM _ _ (Pw cG ([x28]) ([((at' p1 ((at' p0.2.2 a20.1).1)),r26.1)]))))<|sK (Know.one ((eZ rfl))) fun ho32=>JR.loud rfl rfl rfl (yT (e:=cW) [x28] [(((at' p1 ((at' p0.2.2 a20.1).1)),r26.1))] [(0,Value.agg #[vI (at' p1 ((at' p0.2.2 a20.1).1)),x28])] rfl rfl rfl rfl (Jf (vI (at' p1 ((at' p0.2.2 a20.1).1))) (x28)) rfl rfl (show List.all [vI (at' p1 ((at' p0.2.2 a20.1).1)),x28] one=true from(fE rfl (fE ho32 rfl))) rfl) rfl (fun u33=>(CJ [([2],[])] rfl)) fun u33=>dM 14 rfl rfl<|eO h fun j34 h=>c_ (bZ ((w_ (dA 8 rfl) (dB rfl)):aM _ _ (Pw cG (b21.2++[x28]) (a20.2++([((at' p1 ((at' p0.2.2 a20.1).1)),r26.1)])))))<|aN (aR.appendD 5 0 rfl rfl rfl rfl rfl rfl rfl rfl j34 rfl) rfl fun u35=>bQ rfl<|dG (Know.one ((sL (i:=5) (j:=0) cL rfl rfl))) fun ho36=>pC 2 rfl rfl ho36 rfl rfl rfl<|fF<|kB<|aH<|aA rfl<|cU rfl<|aB rfl<|aL ?_
   exact eK ((wI .i64 (a20.1+(1:Int))),(a20.2++([((at' p1 ((at' p0.2.2 a20.1).1)),r26.1)]))) (u35,(b21.2++[x28])) h SF (bK.ix [1,2,3,4,5] rfl rfl) (hI [6,7,8,0] rfl)
  refine dY ?_
  exact bS (a20.2) (b21.1,b21.2) h SF (bK.ix [0,1,2,4] rfl rfl) (aO.refl _ _)
 intro a11 b12 h
 unfold lQ at h
 refine aT<|l_ 1 rfl<|dG (Know.one ((bT (aM.res 0 rfl) dI))) fun ho13=>dG (Know.one ((sL (i:=3) (j:=3) cL rfl rfl))) fun ho14=>cC 2 (vs:=[vS (p0.1),x6,b12.1]) rfl rfl (fE rfl (fE ho13 (fE ho14 rfl))) rfl rfl rfl<|aL<|aS ?_
 cases h
 exact xL (x6,b12.1,b12.2) rfl rfl (RV.cell 2 rfl rfl rfl rfl) (bK.ix [0,3] rfl rfl) (hI [3] rfl)
end
end Go.Proofs.YthnplbmmlbnelaaGreat
end
section
namespace Go.Proofs.YthnplbmmlbnelaaGreat
open Go Go.Sx
theorem Sv (a:Nat) (h:a<4294967296):IntKind.u32.wrap (a:Int)=a:=by rw[<-JS];exact if_pos ⟨by omega,by omega⟩
theorem Gh {a:Int} (h0:0<=a) (h:a<1000000):wI .u64 a=a:=by
 rw[JS]
 unfold IntKind.wrap
 simp[IntKind.bits,IntKind.signed]
 omega
theorem Sg {a:Nat} (h:a<4294967296):(BitVec.ofInt 32 (a:Int)).toNat=a:=by rw[BitVec.ofInt_natCast,BitVec.toNat_ofNat];exact Nat.mod_eq_of_lt h
theorem NH {a b:Nat} (ha:a<4294967296) (hb:b<4294967296):AZ .u32 (a:Int) (b:Int)=((a ||| b:Nat):Int):=by
 show IntKind.u32.wrap (((BitVec.ofInt 32 (a:Int) ||| BitVec.ofInt 32 (b:Int)).toNat:Nat):Int)=_
 rw[BitVec.toNat_or,Sg ha,Sg hb]
 exact Sv _ (Nat.or_lt_two_pow (n:=32) ha hb)
theorem Ns {k:Nat} (hk:k<32):AI .u32 1 (k:Int)=((2^k:Nat):Int):=by
 show IntKind.u32.wrap (1*2^(min ((k:Int).toNat) 32))=_
 rw[Int.toNat_natCast,Nat.min_eq_left (by omega),Int.one_mul,show(2:Int)^k=((2^k:Nat):Int) by simp]
 exact Sv _ (Nat.pow_lt_pow_right (n:=32) (by omega) hk)
theorem Pk {a b:Nat} (ha:a<64) (hb:b<64):a ||| b<64:=Nat.or_lt_two_pow (n:=6) ha hb
theorem En {k:Nat} (hk:k<6):2^k<64:=Nat.pow_lt_pow_right (n:=6) (by omega) hk
def Gl (o:Int) (a:Nat) (l:List TM):Nat:=l.foldl (fun a t=>if t.1=o then a ||| 2^t.2.toNat else a) a
theorem EQ (o:Int) (l:List TM) (t:TM) (a:Nat):Gl o a (l++[t])=if t.1=o then Gl o a l ||| 2^t.2.toNat else Gl o a l:=by simp[Gl,List.foldl_append]
theorem DL {o:Int} (ho:o=5∨o=12):∀(l:List TM) (a:Nat),a<64->(∀t∈l,yQ 6 t=true)->Gl o a l<64
 | [],a,ha,_=>ha
 | t :: l, a, ha, h => by
  show Gl o (if t.1=o then _ else _) l<64
  refine DL ho l _ ?_ fun t ht=>h t (by simp[ht])
  split
  ·rename_i e
   have:=tS (h t (by simp)) (by rw[e];exact ho)
   exact Pk ha (En (by omega))
  ·exact ha
theorem Lc (F:Nat) {e:List TM} (hl:e.length<=900) (hA:∀t∈e,yQ 6 t=true) (hF:1000<=F):bH (lK e) F ((0:Int),(0:Int),(0:Int))=some ((Gl 5 0 e:Int),(Gl 12 0 e:Int)):=by
 have e0:=eN (step:=lK e) (K:=some ((Gl 5 0 e:Int),(Gl 12 0 e:Int))) e.length (fun k=>(((Gl 5 0 (e.take k):Nat):Int),((Gl 12 0 (e.take k):Nat):Int),(k:Int))) (fun k ag hk=>by
  have ht:=hA _ (lS hk)
  have hts:∀t∈e.take k,yQ 6 t=true:=fun t h=>hA t (List.mem_of_mem_take h)
  have b1:=DL (o:=5) (.inl rfl) (e.take k) 0 (by decide) hts
  have b2:=DL (o:=12) (.inr rfl) (e.take k) 0 (by decide) hts
  unfold lK oG
  dsimp only
  rw[if_pos (by omega),eF (by omega),wr (by omega) (by omega),lE hk,EQ,EQ]
  by_cases h5:(at' e (k:Int)).1=5
  ·have hx:=tS ht (.inl h5)
   obtain⟨m,hm⟩:∃m:Nat,(at' e (k:Int)).2=(m:Int):=⟨(at' e (k:Int)).2.toNat,by omega⟩
   rw[if_pos h5,eF hx.1,if_pos h5,if_neg (by omega),hm,Ns (by omega),NH (by omega) (by have:=En (k:=m) (by omega);omega),Int.toNat_natCast]
   rfl
  ·rw[if_neg h5,if_neg h5]
   by_cases h12:(at' e (k:Int)).1=12
   ·have hx:=tS ht (.inr h12)
    obtain⟨m,hm⟩:∃m:Nat,(at' e (k:Int)).2=(m:Int):=⟨(at' e (k:Int)).2.toNat,by omega⟩
    rw[if_pos h12,eF hx.1,if_pos h12,hm,Ns (by omega),NH (by omega) (by have:=En (k:=m) (by omega);omega),Int.toNat_natCast]
    rfl
   ·rw[if_neg h12,if_neg h12];rfl) (fun ag=>by
  unfold lK wX
  dsimp only
  rw[if_neg (by omega),List.take_length]) F (by omega)
 simpa [Gl]using e0
theorem KV (F:Nat) {e:List TM} (hl:e.length<=900) (hA:∀t∈e,yQ 6 t=true) (hF:1000<=F):bH (kG e) F ((0:Int),(0:Int),(0:Int))=some ((Gl 5 0 e:Int),(Gl 12 0 e:Int)):=by
 have e0:=eN (step:=kG e) (K:=some ((Gl 5 0 e:Int),(Gl 12 0 e:Int))) e.length (fun k=>(((Gl 5 0 (e.take k):Nat):Int),((Gl 12 0 (e.take k):Nat):Int),(k:Int))) (fun k ag hk=>by
  have ht:=hA _ (lS hk)
  have hts:∀t∈e.take k,yQ 6 t=true:=fun t h=>hA t (List.mem_of_mem_take h)
  have b1:=DL (o:=5) (.inl rfl) (e.take k) 0 (by decide) hts
  have b2:=DL (o:=12) (.inr rfl) (e.take k) 0 (by decide) hts
  unfold kG mC
  dsimp only
  rw[if_pos (by omega),eF (by omega),wr (by omega) (by omega),lE hk,EQ,EQ]
  by_cases h5:(at' e (k:Int)).1=5
  ·have hx:=tS ht (.inl h5)
   rw[Gh hx.1 (by omega)]
   obtain⟨m,hm⟩:∃m:Nat,(at' e (k:Int)).2=(m:Int):=⟨(at' e (k:Int)).2.toNat,by omega⟩
   rw[if_pos h5,eF (by omega),eF hx.1,if_pos h5,if_neg (by omega),hm,Ns (by omega),NH (by omega) (by have:=En (k:=m) (by omega);omega),Int.toNat_natCast]
   rfl
  ·rw[if_neg h5,if_neg h5]
   by_cases h12:(at' e (k:Int)).1=12
   ·have hx:=tS ht (.inr h12)
    rw[Gh hx.1 (by omega)]
    obtain⟨m,hm⟩:∃m:Nat,(at' e (k:Int)).2=(m:Int):=⟨(at' e (k:Int)).2.toNat,by omega⟩
    rw[if_pos h12,eF (by omega),eF hx.1,if_pos h12,hm,Ns (by omega),NH (by omega) (by have:=En (k:=m) (by omega);omega),Int.toNat_natCast]
    rfl
   ·rw[if_neg h12,if_neg h12];rfl) (fun ag=>by
  unfold kG uL
  dsimp only
  rw[if_neg (by omega),List.take_length]) F (by omega)
 simpa [Gl]using e0
noncomputable def Jv (o:Int) (e:List TM):Nat:=if Er 6 e=true then Gl o 0 e else 0
theorem Ao {o:Int} (ho:o=5∨o=12) (e:List TM):Jv o e<64:=by
 unfold Jv
 split
 ·rename_i h
  obtain⟨x,hx⟩:=Ay.1 h
  exact DL ho e 0 (by decide) hx.2.2.2.2.2
 ·decide
theorem PP (F:Nat) (e:List TM) (hl:e.length<=900) (hF:1000<=F):uG F e=some ((Jv 5 e:Int),(Jv 12 e:Int)):=by
 unfold uG Jv
 rw[bF (RG F e 6 hl hF)]
 cases h:Er 6 e
 ·rfl
 ·obtain⟨x,hx⟩:=Ay.1 h
  rw[if_neg (by decide),Lc F hl hx.2.2.2.2.2 hF];rfl
theorem Pu (F:Nat) (e:List TM) (hl:e.length<=900) (hF:1000<=F):rO F e=some ((Jv 5 e:Int),(Jv 12 e:Int)):=by
 unfold rO Jv
 rw[bF (Rv F e 6 hl hF)]
 cases h:Er 6 e
 ·rfl
 ·obtain⟨x,hx⟩:=Ay.1 h
  rw[if_neg (by decide),KV F hl hx.2.2.2.2.2 hF];rfl
def Eu (a:Nat) (l:List ST):Nat:=l.foldl (fun a s=>a ||| 2^s.1.toNat) a
noncomputable def NJ (o:Int) (a:Nat) (l:List ST):Nat:=l.foldl (fun a s=>a ||| Jv o s.2) a
theorem Mi (a:Nat) (l:List ST) (s:ST):Eu a (l++[s])=Eu a l ||| 2^s.1.toNat:=by simp[Eu,List.foldl_append]
theorem EU (o:Int) (a:Nat) (l:List ST) (s:ST):NJ o a (l++[s])=NJ o a l ||| Jv o s.2:=by simp[NJ,List.foldl_append]
theorem La:∀(l:List ST) (a:Nat),a<64->(∀s∈l,0<=s.1∧s.1<6)->Eu a l<64
 | [],a,ha,_=>ha
 |s::l,a,ha,h=>La l _ (Pk ha (En (by have:=h s (by simp);omega))) fun s hs=>h s (by simp[hs])
theorem Co {o:Int} (ho:o=5∨o=12):∀(l:List ST) (a:Nat),a<64->NJ o a l<64
 | [],a,ha=>ha
 |s::l,a,ha=>Co ho l _ (Pk ha (Ao ho _))
structure AT (r:RL) (n:Nat):Prop extends EY r n where
 n':n<=6
 lg:r.2.1.length<=400
 lv:∀s∈r.2.2,s.2.length<=400
theorem AT.vars {r:RL} {n:Nat} (h:AT r n):∀s∈r.2.2,0<=s.1∧s.1<6:=fun s hs=>by
 obtain⟨k,hk⟩:=List.getElem?_of_mem hs
 have hlt:=aV hk
 have:=h.var k hlt
 rw[vM hlt]at hk
 rw[Option.some.inj hk]at this
 have:=h.n'
 omega
noncomputable def Rt (r:RL):Nat:=NJ 5 (Jv 5 r.2.1) r.2.2 ||| NJ 12 (Jv 12 r.2.1) r.2.2
theorem Sm (F:Nat) {r:RL} {n:Nat} (h:AT r n) (hF:1000<=F):kC F r=some ((Eu 0 r.2.2:Nat):Int):=by
 have n6:=h.n6
 unfold kC
 have e0:=eN (step:=nH r) (K:=some ((Eu 0 r.2.2:Nat):Int)) r.2.2.length (fun k=>(((Eu 0 (r.2.2.take k):Nat):Int),(k:Int))) (fun k ag hk=>by
  have hv:=h.vars _ (lS hk)
  have b:=La (r.2.2.take k) 0 (by decide) (fun s hs=>h.vars s (List.mem_of_mem_take hs))
  obtain⟨m,hm⟩:∃m:Nat,(at' r.2.2 (k:Int)).1=(m:Int):=⟨(at' r.2.2 (k:Int)).1.toNat,by omega⟩
  unfold nH
  dsimp only
  rw[if_pos (by omega),eF (by omega),eF hv.1,wr (by omega) (by omega),lE hk,Mi,hm,Ns (by omega),NH (by omega) (by have:=En (k:=m) (by omega);omega),Int.toNat_natCast]
  rfl) (fun ag=>by unfold nH sM;dsimp only;rw[if_neg (by omega),List.take_length]) F (by omega)
 simpa [Eu]using e0
theorem tRr (F:Nat) {r:RL} {n:Nat} (h:AT r n) (hF:1000<=F):sN F r=some ((Rt r:Nat):Int):=by
 have n6:=h.n6
 have g5:=Ao (o:=5) (.inl rfl) r.2.1
 have g12:=Ao (o:=12) (.inr rfl) r.2.1
 unfold sN
 rw[bF (PP F _ (by have:=h.lg;omega) hF)]
 have e0:=eN (step:=lU F r) (K:=some ((Rt r:Nat):Int)) r.2.2.length (fun k=>(((NJ 5 (Jv 5 r.2.1) (r.2.2.take k):Nat):Int),((NJ 12 (Jv 12 r.2.1) (r.2.2.take k):Nat):Int),(k:Int))) (fun k ag hk=>by
  have hv:=h.lv _ (lS hk)
  have b5:=Co (o:=5) (.inl rfl) (r.2.2.take k) _ g5
  have b12:=Co (o:=12) (.inr rfl) (r.2.2.take k) _ g12
  have s5:=Ao (o:=5) (.inl rfl) (at' r.2.2 (k:Int)).2
  have s12:=Ao (o:=12) (.inr rfl) (at' r.2.2 (k:Int)).2
  unfold lU
  dsimp only
  rw[if_pos (by omega),eF (by omega),bF (PP F _ (by omega) hF),wr (by omega) (by omega),lE hk,EU,EU]
  dsimp only
  rw[NH (by omega) (by omega),NH (by omega) (by omega)]
  rfl) (fun ag=>by
  have b5:=Co (o:=5) (.inl rfl) r.2.2 _ g5
  have b12:=Co (o:=12) (.inr rfl) r.2.2 _ g12
  unfold lU qL
  dsimp only
  rw[if_neg (by omega),List.take_length,NH (by omega) (by omega)];rfl) F (by omega)
 simpa [NJ]using e0
theorem or4 (a b c d:Nat):(a ||| b) ||| (c ||| d)=(a ||| c) ||| (b ||| d):=by
 apply Nat.eq_of_testBit_eq
 intro i
 simp only[Nat.testBit_or]
 cases a.testBit i<;>cases b.testBit i<;>cases c.testBit i<;>cases d.testBit i<;>rfl
theorem Pv (F:Nat) {r:RL} {n:Nat} (h:AT r n) (hF:1000<=F):nM F r=some (((Eu 0 r.2.2:Nat):Int),((Rt r:Nat):Int)):=by
 have n6:=h.n6
 have g5:=Ao (o:=5) (.inl rfl) r.2.1
 have g12:=Ao (o:=12) (.inr rfl) r.2.1
 unfold nM
 rw[bF (Pu F _ (by have:=h.lg;omega) hF)]
 have e0:=eN (step:=mL F r) (K:=some (((Eu 0 r.2.2:Nat):Int),((Rt r:Nat):Int))) r.2.2.length (fun k=>(((Eu 0 (r.2.2.take k):Nat):Int),((NJ 5 (Jv 5 r.2.1) (r.2.2.take k) ||| NJ 12 (Jv 12 r.2.1) (r.2.2.take k):Nat):Int),(k:Int))) (fun k ag hk=>by
  have hv:=h.vars _ (lS hk)
  have hl:=h.lv _ (lS hk)
  have b:=La (r.2.2.take k) 0 (by decide) (fun s hs=>h.vars s (List.mem_of_mem_take hs))
  have b5:=Co (o:=5) (.inl rfl) (r.2.2.take k) _ g5
  have b12:=Co (o:=12) (.inr rfl) (r.2.2.take k) _ g12
  have bb:=Pk b5 b12
  have s5:=Ao (o:=5) (.inl rfl) (at' r.2.2 (k:Int)).2
  have s12:=Ao (o:=12) (.inr rfl) (at' r.2.2 (k:Int)).2
  have ss:=Pk s5 s12
  unfold mL
  dsimp only
  rw[Gh hv.1 (by omega)]
  obtain⟨m,hm⟩:∃m:Nat,(at' r.2.2 (k:Int)).1=(m:Int):=⟨(at' r.2.2 (k:Int)).1.toNat,by omega⟩
  rw[if_pos (by omega),eF (by omega),eF hv.1,eF (by omega),bF (Pu F _ (by omega) hF),wr (by omega) (by omega),lE hk,EU,EU,Mi,hm,Ns (by omega),NH (by omega) (by have:=En (k:=m) (by omega);omega),Int.toNat_natCast]
  dsimp only
  rw[NH (a:=Jv 5 _) (by omega) (by omega),NH (by omega) (by omega),or4]
  rfl) (fun ag=>by
  unfold mL qY
  dsimp only
  rw[if_neg (by omega),List.take_length];rfl) F (by omega)
 rw[NH (by omega) (by omega)]
 simpa [NJ,Eu]using e0
end Go.Proofs.YthnplbmmlbnelaaGreat
end
section
namespace Go.Proofs.YthnplbmmlbnelaaGreat
open Go.Sx
def nC (U:Nat) (p0:Int):Option (Int):=
 ck (0<=(24:Int)) (ck (0<=(rC .u32 p0 (24:Int))∧(rC .u32 p0 (24:Int))<(List.length QL:Int)) (ck (0<=(16:Int)) (ck (0<=(oY .u32 (rC .u32 p0 (16:Int)) (255:Int))∧(oY .u32 (rC .u32 p0 (16:Int)) (255:Int))<(List.length QL:Int)) (ck (0<=(8:Int)) (ck (0<=(oY .u32 (rC .u32 p0 (8:Int)) (255:Int))∧(oY .u32 (rC .u32 p0 (8:Int)) (255:Int))<(List.length QL:Int)) (ck (0<=(oY .u32 p0 (255:Int))∧(oY .u32 p0 (255:Int))<(List.length QL:Int)) (some (wI .i64 (wI .u8 ((wI .u8 ((wI .u8 ((at' QL (rC .u32 p0 (24:Int)))+(at' QL (oY .u32 (rC .u32 p0 (16:Int)) (255:Int)))))+(at' QL (oY .u32 (rC .u32 p0 (8:Int)) (255:Int)))))+(at' QL (oY .u32 p0 (255:Int)))))))))))))
theorem SQ:bE Tryz.prog 22:=Tryz.call22
theorem Cp (U:Nat) {p0:Int} (r:Int) (h:nC U p0=some r):
  aZ Tryz.prog 22 #[vU (p0)] [] (fun x:Unit=>vI (r)) (fun x l=>l) (fun _ l=>l):=by
 refine aZ.of Tryz.func22 rfl Tryz.ntmps22 rfl fun c=>?_
 refine aT<|aB rfl<|aL<|aI ?_
 refine Gi [0,1,3,0,8,24,56,127,0,256,768,1792,4095,0,8192,24576,65535,131071,262143] 16 mixedOrders ?_
 refine cR rfl<|eO h fun j1 h=>rH rfl (AW rfl rfl j1)<|eO h fun j2 h=>rH rfl (Ac rfl rfl rfl HP j2)<|cR rfl<|eO h fun j3 h=>rH rfl (AW rfl rfl j3)<|rH rfl (IW rfl rfl)<|eO h fun j4 h=>rH rfl (Ac rfl rfl rfl HP j4)<|rH rfl (Ks rfl rfl)<|cR rfl<|eO h fun j5 h=>rH rfl (AW rfl rfl j5)<|rH rfl (IW rfl rfl)<|eO h fun j6 h=>rH rfl (Ac rfl rfl rfl HP j6)<|rH rfl (Ks rfl rfl)<|cR rfl<|rH rfl (IW rfl rfl)<|eO h fun j7 h=>rH rfl (Ac rfl rfl rfl HP j7)<|dM 16 rfl rfl<|cU rfl<|aD (AU rfl rfl rfl) rfl<|aB rfl<|aL<|aS ?_
 cases h
 exact gU rfl
end Go.Proofs.YthnplbmmlbnelaaGreat
end
