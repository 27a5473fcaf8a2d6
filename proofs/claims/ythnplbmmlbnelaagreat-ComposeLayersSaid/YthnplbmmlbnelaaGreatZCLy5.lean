/- Models and proofs. Conditions: none. -/
import Derived.Test.YthnplbmmlbnelaaGreatZCLy4
import Derived.Test.YthnplbmmlbnelaaGreatZCLy2
import Derived.Lib.Strings
set_option linter.unusedVariables false
set_option linter.unusedSimpArgs false
set_option maxHeartbeats 4000000
set_option maxRecDepth 20000
section
namespace Go.Proofs.YthnplbmmlbnelaaGreat
open Go.Sx
section
def lP (p0:dZ) (a19:JI) (a24:Mq):Option xZ:=
 some (((p0.1,a19.2,a24)),(0:Int))
def gY (a33:Mo) (ag32:Mn->Option xZ) (a40:Mq):Option xZ:=
 ag32 ((wI .i64 (a33.1+(1:Int))),a40)
def g_ (U:Nat) (p0:dZ) (p1:Int) (a19:JI) (a33:Mo) (ag32:Mn->Option xZ):Option xZ:=
 if a33.1<(List.length p0.2.2:Int)then(ck (0<=a33.1∧a33.1<(List.length p0.2.2:Int)) (Option.bind (kC U ((((at' p0.2.2 a33.1).1),((at' p0.2.2 a33.1).2.1),((at' p0.2.2 a33.1).2.2)))) fun r47=>(if(oY .u32 r47 p1)≠(0:Int)then(Option.bind (oT U ((((at' p0.2.2 a33.1).1),((at' p0.2.2 a33.1).2.1),((at' p0.2.2 a33.1).2.2))) a19.1) fun r51=>(ck ((List.length a33.2:Int)+(List.length ([(r51.1,r51.2.1,r51.2.2)]):Int)<=1099511627) (gY a33 ag32 (a33.2++([(r51.1,r51.2.1,r51.2.2)])))))else(gY a33 ag32 (a33.2)))))else(lP p0 a19 (a33.2))
def fP (U:Nat) (p0:dZ) (p1:Int) (a19:JI):Option xZ:=
 bH (g_ U p0 p1 a19) U ((0:Int),([]:EB))
def gZ (a65:Mm) (ag64:Ml->Option xZ) (a72:JI):Option xZ:=
 ag64 ((wI .i64 (a65.1+(1:Int))),a72.1,a72.2)
def fQ (U:Nat) (p0:dZ) (p1:Int) (a65:Mm) (ag64:Ml->Option xZ):Option xZ:=
 if a65.1<(List.length p0.2.1:Int)then(ck (0<=a65.1∧a65.1<(List.length p0.2.1:Int)) (ck (0<=a65.1) (if(oY .u32 (rC .u32 p1 a65.1) (1:Int))=(1:Int)then(ck (0<=a65.1) (Option.bind (nC U (oY .u32 p1 (wI .u32 ((AI .u32 (1:Int) a65.1) - (1:Int))))) fun r79=>(ck (0<=a65.1∧a65.1<(List.length a65.2.1:Int)) (ck ((List.length a65.2.2:Int)+(List.length ([(((at' p0.2.1 a65.1).1),((at' p0.2.1 a65.1).2.1),((at' p0.2.1 a65.1).2.2.1),((at' p0.2.1 a65.1).2.2.2.1),((at' p0.2.1 a65.1).2.2.2.2.1),((at' p0.2.1 a65.1).2.2.2.2.2))]):Int)<=1099511627) (gZ a65 ag64 ((List.set a65.2.1 (Int.toNat a65.1) r79),(a65.2.2++([(((at' p0.2.1 a65.1).1),((at' p0.2.1 a65.1).2.1),((at' p0.2.1 a65.1).2.2.1),((at' p0.2.1 a65.1).2.2.2.1),((at' p0.2.1 a65.1).2.2.2.2.1),((at' p0.2.1 a65.1).2.2.2.2.2))]))))))))else(gZ a65 ag64 (a65.2.1,a65.2.2)))))else(fP U p0 p1 (a65.2.1,a65.2.2))
def jK (U:Nat) (p0:dZ) (p1:Int) (a10:Bool):Option xZ:=
 if a10=true then(some ((((ByteArray.mk #[]),([]:GE),([]:EB))),(7:Int)))else(ck (0<=(List.length p0.2.1:Int)∧(List.length p0.2.1:Int)<=1099511627) (bH (fQ U p0 p1) U ((0:Int),(List.replicate (Int.toNat (List.length p0.2.1:Int)) (0:Int)),([]:GE))))
def nD (U:Nat) (p0:dZ) (p1:Int):Option xZ:=
 Option.bind (rU U ((p0.1,p0.2.1,p0.2.2))) fun r3=>(if(!r3)=true then(some ((((ByteArray.mk #[]),([]:GE),([]:EB))),(8:Int)))else(ck (0<=(List.length p0.2.1:Int)) (if(rC .u32 p1 (List.length p0.2.1:Int))≠(0:Int)then(some ((((ByteArray.mk #[]),([]:GE),([]:EB))),(2:Int)))else(if p1=(0:Int)then(jK U p0 p1 (true))else(Option.bind (nK U ((p0.1,p0.2.1,p0.2.2)) p1) fun r88=>(jK U p0 p1 ((!r88))))))))
theorem UQ:bE Tryz.prog 7:=Tryz.call7
theorem Cq (U:Nat) {p0:dZ} {p1:Int} (v0:Value)  (v1:Value) (r:So) (h:nD U p0 p1=some r):
  aZ Tryz.prog 7 #[Value.agg #[vS (p0.1),v0,v1],vU (p1)] [Sl aQ v0 p0.2.1,Sl aK v1 p0.2.2] (fun x:Value×Value=>Value.tuple #[Value.agg #[vS (r.1.1),x.1,x.2],vI (r.2)]) (fun x l=>Ar aW x.1 r.1.2.1::l) (fun x l=>Sl aK x.2 r.1.2.2::l):=by
 refine aZ.of Tryz.func7 rfl Tryz.ntmps7 rfl fun c=>?_
 refine aT<|aN (aR.box (cs:=[vS (p0.1),v0,v1]) rfl rfl) rfl fun b1=>aN (aR.alloc (cs:=xJ) rfl rfl) rfl fun b2=>aB rfl<|aL<|aI<|aT<|l_ 1 rfl<|eM h fun r3 w4 h=>aN (aR.callQ Oi (BV U v0 v1 r3 w4) rfl (hI [0,1] rfl)) rfl fun x5=>aD (eC rfl) rfl<|aL ?_
 refine eY h rfl (fun _ h=>?_) fun _ h=>?_
 ·refine aT ?_
  refine aD (Du (r:=Value.agg #[vS (ByteArray.mk #[]),oI,oI]) (by intro w;simp[Instr.build,Instr.fill,iD,gC,fL,iF,iG,gE,jW])) rfl ?_
  refine cC 0 (vs:=xJ) rfl rfl rfl rfl rfl rfl<|aB rfl<|aL<|aS<|aG<|c_ (fC aW) ?_
  cases h
  exact eV ((oI),(oI)) rfl rfl (RV.cell 1 rfl rfl rfl rfl) (RV.tmp rfl) (bK.ix [0] rfl rfl) (aO.cons aM.nil aO.nil)
 refine bJ<|aI<|aT<|aA rfl<|bQ rfl<|cM 1 rfl<|cY (dB rfl) rfl<|eO h fun j7 h=>aD (AW rfl rfl j7) rfl<|rV rfl<|aL ?_
 refine fG h rfl (fun h=>?_) fun h=>?_
 ·refine aT ?_
  refine aD (Du (r:=Value.agg #[vS (ByteArray.mk #[]),oI,oI]) (by intro w;simp[Instr.build,Instr.fill,iD,gC,fL,iF,iG,gE,jW])) rfl ?_
  refine cC 0 (vs:=xJ) rfl rfl rfl rfl rfl rfl<|aB rfl<|aL<|aS<|aG<|c_ (fC aW) ?_
  cases h
  exact eV ((oI),(oI)) rfl rfl (RV.cell 1 rfl rfl rfl rfl) (RV.tmp rfl) (bK.ix [0] rfl rfl) (aO.cons aM.nil aO.nil)
 refine bJ<|aI<|aI<|cF (fun a10=>jK U p0 p1 a10=some r) (fun a10 b11=>[(1,vU (p1)),(2,vP b1),(4,vP b2),(30,vB (a10))]) (fun a10 b11=>[dD b2 xJ 25,dD b1 [vS (p0.1),v0,v1] 25]) ?_ ?_
 ·refine aH<|aA rfl<|cH rfl<|aA rfl ?_
  refine mW h rfl (fun _ h=>?_) fun _ h=>?_
  ·refine aC rfl<|aC rfl<|aC rfl<|aC rfl<|bO rfl<|aL ?_
   exact b_ (true) () h SF rfl
  refine aF rfl (lI 1 rfl rfl rfl rfl) rfl<|bM rfl<|eM h fun r88 w89 h=>fA rfl (aR.callQ Sb (AF U v0 v1 r88 w89) rfl (hI [0,1] rfl)) rfl fun x90=>aF rfl (eC rfl) rfl<|bR rfl<|aL ?_
  exact b_ ((!r88)) () h SF rfl
 intro a10 b11 h
 refine eY h rfl (fun _ h=>?_) fun _ h=>?_
 ·refine aT ?_
  refine aD (Du (r:=Value.agg #[vS (ByteArray.mk #[]),oI,oI]) (by intro w;simp[Instr.build,Instr.fill,iD,gC,fL,iF,iG,gE,jW])) rfl ?_
  refine cC 0 (vs:=xJ) rfl rfl rfl rfl rfl rfl<|aB rfl<|aL<|aS<|aG<|c_ (fC aW) ?_
  cases h
  exact eV ((oI),(oI)) rfl rfl (RV.cell 1 rfl rfl rfl rfl) (RV.tmp rfl) (bK.ix [0] rfl rfl) (aO.cons aM.nil aO.nil)
 refine bJ<|aT<|bQ rfl<|cM 1 rfl ?_
 refine aD (HC (r:=Value.agg #[vS (p0.1),oI,oI]) rfl (by intro w;simp[Instr.build,Instr.fill,iD,gC,fL,iF,iG,gE,jW])) rfl ?_
 refine aN (aR.alloc (cs:=xJ) rfl rfl) rfl fun b13=>cC 0 (vs:=[vS (p0.1),oI,oI]) rfl rfl rfl rfl rfl rfl<|aL<|aT<|bQ rfl<|cM 2 rfl<|cY (dB rfl) rfl<|eO h fun j14 h=>aN (z_ (e:=fK) (0:Int) rfl rfl rfl rfl j14 rfl rfl rfl) rfl fun u15=>aB rfl<|aL<|aI<|CS (B:=Value) (fun a19=>fP U p0 p1 a19=some r) (fun a19 b20=>[(1,vU (p1)),(2,vP b1),(4,vP b2),(6,vP b13),(7,u15)]) (fun a19 b20=>[Ar fK u15 a19.1,dD b13 [vS (p0.1),b20,oI] 25,dD b2 xJ 25,dD b1 [vS (p0.1),v0,v1] 25,Ar aW b20 a19.2]) ?_ ?_
 ·refine aT<|bQ rfl<|cM 3 rfl<|cY (dB rfl) rfl<|aA rfl<|aL<|aP<|c_ (fC aW)<|eH (B:=Value) (fQ U p0 p1) (fun a65 b66=>[(1,vU (p1)),(2,vP b1),(4,vP b2),(6,vP b13),(7,u15),(40,v0),(41,vI (List.length p0.2.1:Int)),(42,vI (a65.1))]) (fun a65 b66=>[Ar fK u15 a65.2.1,dD b13 [vS (p0.1),b66,oI] 25,dD b2 xJ 25,dD b1 [vS (p0.1),v0,v1] 25,Ar aW b66 a65.2.2]) ((0:Int),(List.replicate (Int.toNat (List.length p0.2.1:Int)) (0:Int)),([]:GE)) (oI) h SF (bK.ix [1,2,3,4,0] rfl rfl) ?_
  intro k67 a65 b66 h
  refine aT<|cZ rfl<|aL<|aI ?_
  refine fG h rfl (fun h=>?_) fun h=>?_
  ·refine bJ<|aI<|CS (B:=Value) (fun a72=>gZ a65 (bH (fQ U p0 p1) k67) a72=some r) (fun a72 b73=>[(1,vU (p1)),(2,vP b1),(4,vP b2),(6,vP b13),(7,u15),(40,v0),(41,vI (List.length p0.2.1:Int)),(42,vI (a65.1))]) (fun a72 b73=>[Ar fK u15 a72.1,dD b13 [vS (p0.1),b73,oI] 25,dD b2 xJ 25,dD b1 [vS (p0.1),v0,v1] 25,Ar aW b73 a72.2]) ?_ ?_
   ·refine aP<|aT<|aA rfl<|eO h fun j74 h=>aD (aU rfl rfl (dB rfl) rfl rfl j74) rfl<|aD (fO (cs:=[vS ((at' p0.2.1 a65.1).1),vI ((at' p0.2.1 a65.1).2.1),vI ((at' p0.2.1 a65.1).2.2.1),vI ((at' p0.2.1 a65.1).2.2.2.1),vI ((at' p0.2.1 a65.1).2.2.2.2.1),vI ((at' p0.2.1 a65.1).2.2.2.2.2)]) rfl (dB rfl) bU rfl rfl rfl rfl j74) rfl<|aN (aR.alloc (cs:=Wi) rfl rfl) rfl fun b75=>aB rfl<|cC 0 (vs:=[vS ((at' p0.2.1 a65.1).1),vI ((at' p0.2.1 a65.1).2.1),vI ((at' p0.2.1 a65.1).2.2.1),vI ((at' p0.2.1 a65.1).2.2.2.1),vI ((at' p0.2.1 a65.1).2.2.2.2.1),vI ((at' p0.2.1 a65.1).2.2.2.2.2)]) rfl rfl rfl rfl rfl rfl<|aL<|aT<|aA rfl<|aA rfl<|eO h fun j76 h=>aD (AW rfl rfl j76) rfl<|Eo rfl<|cH rfl<|aL ?_
    refine fG h rfl (fun h=>?_) fun h=>?_
    ·refine aT<|aA rfl<|aA rfl<|aA rfl<|aA rfl<|eO h fun j78 h=>aD (Fe rfl rfl j78) rfl<|aD (vL rfl rfl) rfl<|Eo rfl<|eM h fun r79 w80 h=>aN (aR.callQ SQ (Cp U  r79 w80) rfl .nil) rfl fun x81=>eO h fun j82 h=>aD (aU rfl rfl (bT (aM.res 1 rfl) jD) rfl rfl j82) rfl<|AP 1 r79 j82 rfl rfl rfl rfl rfl rfl rfl<|aL<|aH<|bQ rfl<|cM 2 rfl<|l_ 0 rfl<|aN (iR (e:=aW) ([((((at' p0.2.1 a65.1).1),((at' p0.2.1 a65.1).2.1),((at' p0.2.1 a65.1).2.2.1),((at' p0.2.1 a65.1).2.2.2.1),((at' p0.2.1 a65.1).2.2.2.2.1),((at' p0.2.1 a65.1).2.2.2.2.2)))]) [(0,Value.agg #[vS ((at' p0.2.1 a65.1).1),vI ((at' p0.2.1 a65.1).2.1),vI ((at' p0.2.1 a65.1).2.2.1),vI ((at' p0.2.1 a65.1).2.2.2.1),vI ((at' p0.2.1 a65.1).2.2.2.2.1),vI ((at' p0.2.1 a65.1).2.2.2.2.2)])] rfl rfl rfl rfl (Jh (vS ((at' p0.2.1 a65.1).1)) (vI ((at' p0.2.1 a65.1).2.1)) (vI ((at' p0.2.1 a65.1).2.2.1)) (vI ((at' p0.2.1 a65.1).2.2.2.1)) (vI ((at' p0.2.1 a65.1).2.2.2.2.1)) (vI ((at' p0.2.1 a65.1).2.2.2.2.2))) rfl rfl rfl) rfl fun u83=>eO h fun j85 h=>aN (jO 6 bU rfl rfl rfl (bT (aM.res 0 rfl) bU) rfl rfl rfl rfl j85 rfl) rfl fun u84=>bQ rfl<|dG (Know.one ((bT (aM.res 6 rfl) bU))) fun ho86=>pC 3 rfl rfl ho86 rfl rfl rfl<|fF<|kB ?_
     exact bS ((List.set a65.2.1 (Int.toNat a65.1) r79),(a65.2.2++([(((at' p0.2.1 a65.1).1),((at' p0.2.1 a65.1).2.1),((at' p0.2.1 a65.1).2.2.1),((at' p0.2.1 a65.1).2.2.2.1),((at' p0.2.1 a65.1).2.2.2.2.1),((at' p0.2.1 a65.1).2.2.2.2.2))]))) (u84) h SF (bK.ix [2,3,4,5,6] rfl rfl) (aO.refl _ _)
    refine cS<|kB ?_
    exact bS (a65.2.1,a65.2.2) (b66) h SF (bK.ix [1,2,3,4,5] rfl rfl) (aO.refl _ _)
   intro a72 b73 h
   unfold gZ at h
   refine aH<|cU rfl<|aA rfl<|aL ?_
   exact AC ((wI .i64 (a65.1+(1:Int))),a72.1,a72.2) (b73) h SF rfl
  refine dY ?_
  exact b_ (a65.2.1,a65.2.2) (b66) h SF rfl
 intro a19 b20 h
 unfold fP at h
 refine aI<|pB (B:=Hn) (fun a24=>lP p0 a19 a24=some r) (fun a24 b25=>[(4,vP b2),(6,vP b13)]) (fun a24 b25=>[dD b13 [vS (p0.1),b20,b25.1] 25,dD b2 xJ 25,Ar aW b20 a19.2,Ad a_ b25.1 b25.2 a24]) (fun a24 b25=>[Sl lH u15 a19.1,Sl aQ v0 p0.2.1,Sl aK v1 p0.2.2,Pw aJ b25.2 a24]) ?_ ?_
 ·refine aT<|bQ rfl<|cM 3 rfl<|cY (eZ rfl) rfl<|aA rfl<|aL<|aP<|c_ (oD [Ar fK u15 a19.1] [dD b13 [vS (p0.1),b20,oI] 25,dD b2 xJ 25,dD b1 [vS (p0.1),v0,v1] 25,Ar aW b20 a19.2] (bK.ix [0,1,2,3,4] rfl rfl) (bT (aM.res 0 rfl) jD))<|c_ (Bu a_)<|c_ (bZ (mX:aM _ _ (Pw aJ ([]:List (Value×Value)) ([]:EB))))<|yS (B:=Hn) (g_ U p0 p1 a19) (fun a33 b34=>[(1,vU (p1)),(4,vP b2),(6,vP b13),(7,u15),(69,v1),(70,vI (List.length p0.2.2:Int)),(71,vI (a33.1))]) (fun a33 b34=>[dD b13 [vS (p0.1),b20,b34.1] 25,dD b2 xJ 25,Ar aW b20 a19.2,Ad a_ b34.1 b34.2 a33.2]) (fun a33 b34=>[Sl lH u15 a19.1,Sl aQ v0 p0.2.1,Sl aK v1 p0.2.2,Pw aJ b34.2 a33.2]) ((0:Int),([]:EB)) ((oI),([]:List (Value×Value))) h SF (bK.ix [1,2,4,0] rfl rfl) (hI [1,2,3,0] rfl) ?_
  intro k35 a33 b34 h
  refine aT<|cZ rfl<|aL<|aI ?_
  refine fG h rfl (fun h=>?_) fun h=>?_
  ·refine bJ<|aI<|pB (B:=Hn) (fun a40=>gY a33 (bH (g_ U p0 p1 a19) k35) a40=some r) (fun a40 b41=>[(1,vU (p1)),(4,vP b2),(6,vP b13),(7,u15),(69,v1),(70,vI (List.length p0.2.2:Int)),(71,vI (a33.1))]) (fun a40 b41=>[dD b13 [vS (p0.1),b20,b41.1] 25,dD b2 xJ 25,Ar aW b20 a19.2,Ad a_ b41.1 b41.2 a40]) (fun a40 b41=>[Pw aJ b41.2 a40,Sl lH u15 a19.1,Sl aQ v0 p0.2.1,Sl aK v1 p0.2.2,Pw aJ b34.2 a33.2]) ?_ ?_
   ·refine aP<|aT<|eO h fun j42 h=>aD (aU rfl rfl (Ck rfl) rfl rfl j42) rfl<|oJ (v:=v1) (ds:=p0.2.2) aX (Ck rfl) fun us43=>?_
    refine c_ (bZ ((iY (bY (f:=aJ) (eZ rfl) j42.1 (by first|exact j42.2|simpa using j42.2))):aM _ _ (Sl aY ((at' us43 a33.1).1) ((at' p0.2.2 a33.1).2.1)))) ?_
    refine c_ (bZ ((iC (bY (f:=aJ) (Ck rfl) j42.1 (by first|exact j42.2|simpa using j42.2))):aM _ _ (Sl bA ((at' us43 a33.1).2) ((at' p0.2.2 a33.1).2.2)))) ?_
    refine aD (eP (cs:=[vS ((at' p0.2.2 a33.1).1),(at' us43 a33.1).1,(at' us43 a33.1).2]) rfl (Ck rfl) rfl rfl rfl rfl ⟨j42.1,by first|exact j42.2|simpa using j42.2⟩) rfl<|aN (aR.alloc (cs:=xJ) rfl rfl) rfl fun b44=>dG (Know.one ((eZ rfl))) fun ho45=>dG (Know.one ((dB rfl))) fun ho46=>cC 0 (vs:=[vS ((at' p0.2.2 a33.1).1),(at' us43 a33.1).1,(at' us43 a33.1).2]) rfl rfl (fE rfl (fE ho45 (fE ho46 rfl))) rfl rfl rfl<|aL<|aT<|l_ 0 rfl<|eM h fun r47 w48 h=>aN (aR.callQ Kw (yM U ((at' us43 a33.1).1) ((at' us43 a33.1).2) r47 w48) rfl (hI [1,0] rfl)) rfl fun x49=>aA rfl<|Eo rfl<|rV rfl<|aL ?_
    refine fG h rfl (fun h=>?_) fun h=>?_
    ·refine Gi [0,1,0,0,12,28,63,127,255] 6 mixedOrders ?_
     refine lV rfl<|tO 1 rfl<|OU 0 rfl<|cR rfl<|eM h fun r51 w52 h=>JR.loud rfl rfl rfl (aR.call SR (Df U ((at' us43 a33.1).1) ((at' us43 a33.1).2) u15 r51 w52) rfl (tM.cons (List.mem_of_getElem? (i:=1) rfl) (tM.cons (List.mem_of_getElem? (i:=0) rfl) (lN 4 rfl))) (fun _ _=>rfl) (fun _ _=>rfl)) rfl (fun x53=>(CJ [([3],[])] rfl)) fun x53=>JR.stp (oD [Ar dR x53.1 r51.2.1] [Ad cW x53.2.1 x53.2.2 r51.2.2,dD b44 [vS ((at' p0.2.2 a33.1).1),(at' us43 a33.1).1,(at' us43 a33.1).2] 42,dD b13 [vS (p0.1),b20,b34.1] 25,dD b2 xJ 25,Ar aW b20 a19.2,Ad a_ b34.1 b34.2 a33.2] (bK.ix [0,1,2,3,4,5,6] rfl rfl) (bT (aM.res 0 rfl) dI))<|JR.stp (oD [Ad cW x53.2.1 x53.2.2 r51.2.2] [dD b44 [vS ((at' p0.2.2 a33.1).1),(at' us43 a33.1).1,(at' us43 a33.1).2] 42,dD b13 [vS (p0.1),b20,b34.1] 25,dD b2 xJ 25,Ar aW b20 a19.2,Ad a_ b34.1 b34.2 a33.2] (bK.ix [0,1,2,3,4,5] rfl rfl) (sL (i:=0) (j:=1) cL rfl rfl:aM _ _ (Sl bA x53.2.1 r51.2.2)))<|JR.stp (bZ ((xM (aM.and (eZ rfl) (dB rfl)) mX):aM _ _ (Pw aJ ([(x53.1,x53.2.1)]) ([(r51.1,r51.2.1,r51.2.2)]))))<|sK (Know.one ((Ck rfl))) fun ho54=>sK (Know.one ((eZ rfl))) fun ho55=>JR.loud rfl rfl rfl (yT (e:=a_) [(x53.1,x53.2.1)] [((r51.1,r51.2.1,r51.2.2))] [(0,Value.agg #[vS (r51.1),x53.1,x53.2.1])] rfl rfl rfl rfl (Jg (vS (r51.1)) (x53.1) (x53.2.1)) rfl rfl (show List.all [vS (r51.1),x53.1,x53.2.1] one=true from(fE rfl (fE ho54 (fE ho55 rfl)))) rfl) rfl (fun u56=>(CJ [([2],[])] rfl)) fun u56=>dM 6 rfl rfl<|eO h fun j57 h=>c_ (bZ ((w_ (dA 11 rfl) (dB rfl)):aM _ _ (Pw aJ (b34.2++([(x53.1,x53.2.1)])) (a33.2++([(r51.1,r51.2.1,r51.2.2)])))))<|aN (aR.appendD 5 0 rfl rfl rfl rfl rfl rfl rfl rfl j57 rfl) rfl fun u58=>bQ rfl<|dG (Know.one ((sL (i:=5) (j:=0) aX rfl rfl))) fun ho59=>pC 2 rfl rfl ho59 rfl rfl rfl<|fF<|kB ?_
     exact bS (a33.2++([(r51.1,r51.2.1,r51.2.2)])) (u58,(b34.2++([(x53.1,x53.2.1)]))) h SF (bK.ix [2,3,4,5] rfl rfl) (hI [0,9,10,11,12] rfl)
    refine cS<|kB ?_
    exact bS (a33.2) (b34.1,b34.2) h SF (bK.ix [1,2,3,4] rfl rfl) (hI [7,4,5,6,7] rfl)
   intro a40 b41 h
   unfold gY at h
   refine aH<|cU rfl<|aA rfl<|aL ?_
   exact eK ((wI .i64 (a33.1+(1:Int))),a40) (b41.1,b41.2) h SF (bK.refl _) (hI [1,2,3,0] rfl)
  refine dY ?_
  exact b_ (a33.2) (b34.1,b34.2) h SF rfl
 intro a24 b25 h
 unfold lP at h
 refine aT<|l_ 0 rfl<|dG (Know.one ((bT (aM.res 2 rfl) bU))) fun ho26=>dG (Know.one ((sL (i:=3) (j:=3) aX rfl rfl))) fun ho27=>cC 1 (vs:=[vS (p0.1),b20,b25.1]) rfl rfl (fE rfl (fE ho26 (fE ho27 rfl))) rfl rfl rfl<|aB rfl<|aL<|aS<|c_ (oD [Ad a_ b25.1 b25.2 a24] [dD b13 [vS (p0.1),b20,b25.1] 25,dD b2 [vS (p0.1),b20,b25.1] 25,Ar aW b20 a19.2] (bK.ix [3,0,1,2] rfl rfl) (sL (i:=0) (j:=3) aX rfl rfl:aM _ _ (Sl aK b25.1 a24))) ?_
 cases h
 exact eV (b20,b25.1) rfl rfl (RV.cell 1 rfl rfl rfl rfl) (RV.tmp rfl) (bK.ix [2] rfl rfl) (hI [0] rfl)
end
section
def wT  (a3:bV):Option bV:=
 some (a3)
def sG (p0:Int) (a9:bV×Int) (ag8:(bV×Int)->Option bV):Option bV:=
 if a9.2<p0 then(ck ((List.length a9.1:Int)+(List.length ([a9.2]):Int)<=1099511627) (ag8 ((a9.1++[a9.2]),(wI .i64 (a9.2+(1:Int))))))else(wT  (a9.1))
def uE (U:Nat) (p0:Int):Option bV:=
 bH (sG p0) U (([]:bV),(0:Int))
theorem SS:bE Tryz.prog 26:=Tryz.call26
theorem Iz (U:Nat) {p0:Int} (r:bV) (h:uE U p0=some r):
  aZ Tryz.prog 26 #[vI (p0)] [] (fun x:Value=>x) (fun x l=>Ar fK x r::l) (fun _ l=>l):=by
 refine aZ.of Tryz.func26 rfl Tryz.ntmps26 rfl fun c=>?_
 unfold uE at h
 refine aT<|aB rfl<|aL<|aT<|aB rfl<|aL<|aI<|CS (B:=Value) (fun a3=>wT  a3=some r) (fun a3 b4=>[(3,b4)]) (fun a3 b4=>[Ar fK b4 a3]) ?_ ?_
 ·refine aT<|aB rfl<|aL<|aP<|c_ (fC fK)<|eH (B:=Value) (sG p0) (fun a9 b10=>[(0,vI (p0)),(3,b10),(4,vI (a9.2))]) (fun a9 b10=>[Ar fK b10 a9.1]) (([]:bV),(0:Int)) (oI) h SF (bK.refl _) ?_
  intro k11 a9 b10 h
  refine aI<|aT<|aA rfl<|aA rfl<|cZ rfl<|aL ?_
  refine fG h rfl (fun h=>?_) fun h=>?_
  ·refine bJ<|aI<|aP<|aH<|aA rfl<|aA rfl<|aN (iR (e:=fK) ([a9.2]) [(0,vI (a9.2))] rfl rfl rfl rfl (xC (vI (a9.2)) rfl) rfl rfl rfl) rfl fun u13=>eO h fun j15 h=>aN (jO 1 jD rfl rfl rfl (bT (aM.res 0 rfl) jD) rfl rfl rfl rfl j15 rfl) rfl fun u14=>aB rfl<|fF<|kB<|aH<|aA rfl<|cU rfl<|aB rfl<|aL ?_
   exact eK ((a9.1++[a9.2]),(wI .i64 (a9.2+(1:Int)))) (u14) h SF (bK.ix [1] rfl rfl) (aO.refl _ _)
  refine dY ?_
  exact b_ (a9.1) (b10) h SF rfl
 intro a3 b4 h
 unfold wT at h
 refine aT<|aA rfl<|aB rfl<|aL<|aS ?_
 cases h
 exact xL (b4) rfl rfl (RV.tmp rfl) (bK.refl _) aO.nil
end
section
def oW (p0:dZ) (a20:JI) (a25:Mq):Option xZ:=
 some (((p0.1,a20.2,a25)),(0:Int))
def i_ (a34:Mo) (ag33:Mn->Option xZ) (a41:Mq):Option xZ:=
 ag33 ((wI .i64 (a34.1+(1:Int))),a41)
def jB (U:Nat) (p0:dZ) (p1:Int) (a20:JI) (a34:Mo) (ag33:Mn->Option xZ):Option xZ:=
 if a34.1<(List.length p0.2.2:Int)then(ck (0<=a34.1∧a34.1<(List.length p0.2.2:Int)) (Option.bind (nM U ((((at' p0.2.2 a34.1).1),((at' p0.2.2 a34.1).2.1),((at' p0.2.2 a34.1).2.2)))) fun r45=>(if(oY .u32 r45.1 p1)≠(0:Int)then(ck (0<=a34.1∧a34.1<(List.length p0.2.2:Int)) (Option.bind (nE U ((((at' p0.2.2 a34.1).1),((at' p0.2.2 a34.1).2.1),((at' p0.2.2 a34.1).2.2))) a20.1) fun r50=>(ck ((List.length a34.2:Int)+(List.length ([(r50.1,r50.2.1,r50.2.2)]):Int)<=1099511627) (i_ a34 ag33 (a34.2++([(r50.1,r50.2.1,r50.2.2)]))))))else(i_ a34 ag33 (a34.2)))))else(oW p0 a20 (a34.2))
def gS (U:Nat) (p0:dZ) (p1:Int) (a20:JI):Option xZ:=
 bH (jB U p0 p1 a20) U ((0:Int),([]:EB))
def jA (a64:Mm) (ag63:Ml->Option xZ) (a71:JI):Option xZ:=
 ag63 ((wI .i64 (a64.1+(1:Int))),a71.1,a71.2)
def gT (U:Nat) (p0:dZ) (p1:Int) (a64:Mm) (ag63:Ml->Option xZ):Option xZ:=
 if a64.1<(List.length p0.2.1:Int)then(ck (0<=a64.1∧a64.1<(List.length a64.2.1:Int)) (ck (0<=(wI .u64 a64.1)) (if(oY .u32 (rC .u32 p1 (wI .u64 a64.1)) (1:Int))=(1:Int)then(ck (0<=a64.1∧a64.1<(List.length (List.set a64.2.1 (Int.toNat a64.1) (0:Int)):Int)) (ck (0<=a64.1∧a64.1<(List.length p0.2.1:Int)) (ck ((List.length a64.2.2:Int)+(List.length ([(((at' p0.2.1 a64.1).1),((at' p0.2.1 a64.1).2.1),((at' p0.2.1 a64.1).2.2.1),((at' p0.2.1 a64.1).2.2.2.1),((at' p0.2.1 a64.1).2.2.2.2.1),((at' p0.2.1 a64.1).2.2.2.2.2))]):Int)<=1099511627) (jA a64 ag63 ((List.set (List.set a64.2.1 (Int.toNat a64.1) (0:Int)) (Int.toNat a64.1) (List.length a64.2.2:Int)),(a64.2.2++([(((at' p0.2.1 a64.1).1),((at' p0.2.1 a64.1).2.1),((at' p0.2.1 a64.1).2.2.1),((at' p0.2.1 a64.1).2.2.2.1),((at' p0.2.1 a64.1).2.2.2.2.1),((at' p0.2.1 a64.1).2.2.2.2.2))])))))))else(jA a64 ag63 ((List.set a64.2.1 (Int.toNat a64.1) (0:Int)),a64.2.2)))))else(gS U p0 p1 (a64.2.1,a64.2.2))
def lD (U:Nat) (p0:dZ) (p1:Int) (a10:Bool):Option xZ:=
 if a10=true then(some ((((ByteArray.mk #[]),([]:GE),([]:EB))),(7:Int)))else(Option.bind (uE U (List.length p0.2.1:Int)) fun r14=>(bH (gT U p0 p1) U ((0:Int),r14,([]:GE))))
def qS (U:Nat) (p0:dZ) (p1:Int):Option xZ:=
 Option.bind (rQ U ((p0.1,p0.2.1,p0.2.2))) fun r3=>(if(!r3)=true then(some ((((ByteArray.mk #[]),([]:GE),([]:EB))),(8:Int)))else(ck (0<=(wI .u64 (List.length p0.2.1:Int))) (if(rC .u32 p1 (wI .u64 (List.length p0.2.1:Int)))≠(0:Int)then(some ((((ByteArray.mk #[]),([]:GE),([]:EB))),(2:Int)))else(if p1=(0:Int)then(lD U p0 p1 (true))else(Option.bind (rR U ((p0.1,p0.2.1,p0.2.2)) p1) fun r83=>(lD U p0 p1 ((!r83))))))))
theorem UR:bE Tryz.prog 8:=Tryz.call8
theorem DX (U:Nat) {p0:dZ} {p1:Int} (v0:Value)  (v1:Value) (r:So) (h:qS U p0 p1=some r):
  aZ Tryz.prog 8 #[Value.agg #[vS (p0.1),v0,v1],vU (p1)] [Sl aQ v0 p0.2.1,Sl aK v1 p0.2.2] (fun x:Value×Value=>Value.tuple #[Value.agg #[vS (r.1.1),x.1,x.2],vI (r.2)]) (fun x l=>Ar aW x.1 r.1.2.1::l) (fun x l=>Sl aK x.2 r.1.2.2::l):=by
 refine aZ.of Tryz.func8 rfl Tryz.ntmps8 rfl fun c=>?_
 refine aT<|aN (aR.box (cs:=[vS (p0.1),v0,v1]) rfl rfl) rfl fun b1=>aN (aR.alloc (cs:=xJ) rfl rfl) rfl fun b2=>aB rfl<|aL<|aI<|aP<|aT<|l_ 1 rfl<|eM h fun r3 w4 h=>aN (aR.callQ Oj (BQ U v0 v1 r3 w4) rfl (hI [0,1] rfl)) rfl fun x5=>aD (eC rfl) rfl<|aB rfl<|aL ?_
 refine eY h rfl (fun _ h=>?_) fun _ h=>?_
 ·refine aT ?_
  refine aD (Du (r:=Value.agg #[vS (ByteArray.mk #[]),oI,oI]) (by intro w;simp[Instr.build,Instr.fill,iD,gC,fL,iF,iG,gE,jW])) rfl ?_
  refine cC 0 (vs:=xJ) rfl rfl rfl rfl rfl rfl<|aB rfl<|aL<|aS<|bP<|aG<|c_ (fC aW) ?_
  cases h
  exact eV ((oI),(oI)) rfl rfl (RV.cell 1 rfl rfl rfl rfl) (RV.tmp rfl) (bK.ix [0] rfl rfl) (aO.cons aM.nil aO.nil)
 refine aT<|aA rfl<|bQ rfl<|cM 1 rfl<|cY (dB rfl) rfl<|aD (AU rfl rfl rfl) rfl<|eO h fun j7 h=>aD (AW rfl rfl j7) rfl<|rV rfl<|aB rfl<|aL ?_
 refine fG h rfl (fun h=>?_) fun h=>?_
 ·refine aT ?_
  refine aD (Du (r:=Value.agg #[vS (ByteArray.mk #[]),oI,oI]) (by intro w;simp[Instr.build,Instr.fill,iD,gC,fL,iF,iG,gE,jW])) rfl ?_
  refine cC 0 (vs:=xJ) rfl rfl rfl rfl rfl rfl<|aB rfl<|aL<|aS<|bP<|aG<|c_ (fC aW) ?_
  cases h
  exact eV ((oI),(oI)) rfl rfl (RV.cell 1 rfl rfl rfl rfl) (RV.tmp rfl) (bK.ix [0] rfl rfl) (aO.cons aM.nil aO.nil)
 refine aI<|cF (fun a10=>lD U p0 p1 a10=some r) (fun a10 b11=>[(1,vU (p1)),(2,vP b1),(4,vP b2),(26,vB (a10))]) (fun a10 b11=>[dD b2 xJ 25,dD b1 [vS (p0.1),v0,v1] 25]) ?_ ?_
 ·refine aH<|aA rfl<|cH rfl<|aA rfl ?_
  refine mW h rfl (fun _ h=>?_) fun _ h=>?_
  ·refine aC rfl<|aC rfl<|aC rfl<|aC rfl<|bO rfl<|aB rfl<|aL ?_
   exact b_ (true) () h SF rfl
  refine aF rfl (lI 1 rfl rfl rfl rfl) rfl<|bM rfl<|eM h fun r83 w84 h=>fA rfl (aR.callQ Oh (BR U v0 v1 r83 w84) rfl (hI [0,1] rfl)) rfl fun x85=>aF rfl (eC rfl) rfl<|bR rfl<|aB rfl<|aL ?_
  exact b_ ((!r83)) () h SF rfl
 intro a10 b11 h
 refine eY h rfl (fun _ h=>?_) fun _ h=>?_
 ·refine aT ?_
  refine aD (Du (r:=Value.agg #[vS (ByteArray.mk #[]),oI,oI]) (by intro w;simp[Instr.build,Instr.fill,iD,gC,fL,iF,iG,gE,jW])) rfl ?_
  refine cC 0 (vs:=xJ) rfl rfl rfl rfl rfl rfl<|aB rfl<|aL<|aS<|bP<|aG<|c_ (fC aW) ?_
  cases h
  exact eV ((oI),(oI)) rfl rfl (RV.cell 1 rfl rfl rfl rfl) (RV.tmp rfl) (bK.ix [0] rfl rfl) (aO.cons aM.nil aO.nil)
 refine cS<|kB<|aT<|bQ rfl<|cM 1 rfl ?_
 refine aD (HC (r:=Value.agg #[vS (p0.1),oI,oI]) rfl (by intro w;simp[Instr.build,Instr.fill,iD,gC,fL,iF,iG,gE,jW])) rfl ?_
 refine aN (aR.alloc (cs:=xJ) rfl rfl) rfl fun b13=>cC 0 (vs:=[vS (p0.1),oI,oI]) rfl rfl rfl rfl rfl rfl<|aL<|aT<|bQ rfl<|cM 2 rfl<|cY (dB rfl) rfl<|eM h fun r14 w15 h=>aN (aR.callQ SS (Iz U  r14 w15) rfl .nil) rfl fun x16=>aB rfl<|aL<|aI<|CS (B:=Value) (fun a20=>gS U p0 p1 a20=some r) (fun a20 b21=>[(1,vU (p1)),(2,vP b1),(4,vP b2),(6,vP b13),(7,x16)]) (fun a20 b21=>[Ar fK x16 a20.1,dD b13 [vS (p0.1),b21,oI] 25,dD b2 xJ 25,dD b1 [vS (p0.1),v0,v1] 25,Ar aW b21 a20.2]) ?_ ?_
 ·refine aT<|aB rfl<|aL<|aP<|c_ (fC aW)<|eH (B:=Value) (gT U p0 p1) (fun a64 b65=>[(1,vU (p1)),(2,vP b1),(4,vP b2),(6,vP b13),(7,x16),(8,vI (a64.1))]) (fun a64 b65=>[Ar fK x16 a64.2.1,dD b13 [vS (p0.1),b65,oI] 25,dD b2 xJ 25,dD b1 [vS (p0.1),v0,v1] 25,Ar aW b65 a64.2.2]) ((0:Int),r14,([]:GE)) (oI) h SF (bK.ix [1,2,3,4,0] rfl rfl) ?_
  intro k66 a64 b65 h
  refine aI<|aT<|aA rfl<|bQ rfl<|cM 3 rfl<|cY (dB rfl) rfl<|cZ rfl<|aL ?_
  refine fG h rfl (fun h=>?_) fun h=>?_
  ·refine bJ<|aI<|CS (B:=Value) (fun a71=>jA a64 (bH (gT U p0 p1) k66) a71=some r) (fun a71 b72=>[(1,vU (p1)),(2,vP b1),(4,vP b2),(6,vP b13),(7,x16),(8,vI (a64.1))]) (fun a71 b72=>[Ar fK x16 a71.1,dD b13 [vS (p0.1),b72,oI] 25,dD b2 xJ 25,dD b1 [vS (p0.1),v0,v1] 25,Ar aW b72 a71.2]) ?_ ?_
   ·refine aP<|aT<|aA rfl<|aA rfl<|eO h fun j73 h=>aD (aU rfl rfl (bT (aM.res 0 rfl) jD) rfl rfl j73) rfl<|AP 0 (0:Int) j73 rfl rfl rfl rfl rfl rfl rfl<|aL<|aT<|aA rfl<|aA rfl<|aD (AU rfl rfl rfl) rfl<|eO h fun j74 h=>aD (AW rfl rfl j74) rfl<|Eo rfl<|cH rfl<|aL ?_
    refine fG h rfl (fun h=>?_) fun h=>?_
    ·refine aT<|aA rfl<|aA rfl<|bQ rfl<|cM 1 rfl<|aD (eX rfl (bT (aM.res 4 rfl) bU) rfl) rfl<|eO h fun j76 h=>aD (aU rfl rfl (bT (aM.res 0 rfl) jD) rfl rfl j76) rfl<|AP 0 (List.length a64.2.2:Int) j76 rfl rfl rfl rfl rfl rfl rfl<|aL ?_
     refine Gi [0,1,0,4,0,28,60,124,255,511,1023] 8 mixedOrders ?_
     refine lV rfl<|tO 1 rfl<|lV rfl<|tO 3 rfl<|cR rfl<|eO h fun j77 h=>cN rfl .nil (lN 0 rfl) (aU rfl rfl (dB rfl) rfl rfl j77) bD.z<|cN rfl .nil (lN 0 rfl) (fO (cs:=[vS ((at' p0.2.1 a64.1).1),vI ((at' p0.2.1 a64.1).2.1),vI ((at' p0.2.1 a64.1).2.2.1),vI ((at' p0.2.1 a64.1).2.2.2.1),vI ((at' p0.2.1 a64.1).2.2.2.2.1),vI ((at' p0.2.1 a64.1).2.2.2.2.2)]) rfl (dB rfl) bU rfl rfl rfl rfl j77) bD.z<|JR.loud rfl rfl rfl (iR (e:=aW) ([((((at' p0.2.1 a64.1).1),((at' p0.2.1 a64.1).2.1),((at' p0.2.1 a64.1).2.2.1),((at' p0.2.1 a64.1).2.2.2.1),((at' p0.2.1 a64.1).2.2.2.2.1),((at' p0.2.1 a64.1).2.2.2.2.2)))]) [(0,Value.agg #[vS ((at' p0.2.1 a64.1).1),vI ((at' p0.2.1 a64.1).2.1),vI ((at' p0.2.1 a64.1).2.2.1),vI ((at' p0.2.1 a64.1).2.2.2.1),vI ((at' p0.2.1 a64.1).2.2.2.2.1),vI ((at' p0.2.1 a64.1).2.2.2.2.2)])] rfl rfl rfl rfl (Jh (vS ((at' p0.2.1 a64.1).1)) (vI ((at' p0.2.1 a64.1).2.1)) (vI ((at' p0.2.1 a64.1).2.2.1)) (vI ((at' p0.2.1 a64.1).2.2.2.1)) (vI ((at' p0.2.1 a64.1).2.2.2.2.1)) (vI ((at' p0.2.1 a64.1).2.2.2.2.2))) rfl rfl rfl) rfl (fun u78=>(CJ [([2],[])] rfl)) fun u78=>dM 8 rfl rfl<|eO h fun j80 h=>aN (jO 5 bU rfl rfl rfl (bT (aM.res 0 rfl) bU) rfl rfl rfl rfl j80 rfl) rfl fun u79=>bQ rfl<|dG (Know.one ((bT (aM.res 5 rfl) bU))) fun ho81=>pC 2 rfl rfl ho81 rfl rfl rfl<|fF<|kB ?_
     exact bS ((List.set (List.set a64.2.1 (Int.toNat a64.1) (0:Int)) (Int.toNat a64.1) (List.length a64.2.2:Int)),(a64.2.2++([(((at' p0.2.1 a64.1).1),((at' p0.2.1 a64.1).2.1),((at' p0.2.1 a64.1).2.2.1),((at' p0.2.1 a64.1).2.2.2.1),((at' p0.2.1 a64.1).2.2.2.2.1),((at' p0.2.1 a64.1).2.2.2.2.2))]))) (u79) h SF (bK.ix [1,2,3,4,5] rfl rfl) (aO.refl _ _)
    refine cS<|kB ?_
    exact b_ ((List.set a64.2.1 (Int.toNat a64.1) (0:Int)),a64.2.2) (b65) h SF rfl
   intro a71 b72 h
   unfold jA at h
   refine aH<|aA rfl<|cU rfl<|aB rfl<|aL ?_
   exact AC ((wI .i64 (a64.1+(1:Int))),a71.1,a71.2) (b72) h SF rfl
  refine dY ?_
  exact b_ (a64.2.1,a64.2.2) (b65) h SF rfl
 intro a20 b21 h
 unfold gS at h
 refine aI<|pB (B:=Hn) (fun a25=>oW p0 a20 a25=some r) (fun a25 b26=>[(4,vP b2),(6,vP b13)]) (fun a25 b26=>[dD b13 [vS (p0.1),b21,b26.1] 25,dD b2 xJ 25,Ar aW b21 a20.2,Ad a_ b26.1 b26.2 a25]) (fun a25 b26=>[Sl lH x16 a20.1,Sl aQ v0 p0.2.1,Sl aK v1 p0.2.2,Pw aJ b26.2 a25]) ?_ ?_
 ·refine aT<|aB rfl<|aL<|aP<|c_ (oD [Ar fK x16 a20.1] [dD b13 [vS (p0.1),b21,oI] 25,dD b2 xJ 25,dD b1 [vS (p0.1),v0,v1] 25,Ar aW b21 a20.2] (bK.ix [0,1,2,3,4] rfl rfl) (bT (aM.res 0 rfl) jD))<|c_ (Bu a_)<|c_ (bZ (mX:aM _ _ (Pw aJ ([]:List (Value×Value)) ([]:EB))))<|yS (B:=Hn) (jB U p0 p1 a20) (fun a34 b35=>[(1,vU (p1)),(2,vP b1),(4,vP b2),(6,vP b13),(7,x16),(9,vI (a34.1))]) (fun a34 b35=>[dD b13 [vS (p0.1),b21,b35.1] 25,dD b2 xJ 25,dD b1 [vS (p0.1),v0,v1] 25,Ar aW b21 a20.2,Ad a_ b35.1 b35.2 a34.2]) (fun a34 b35=>[Sl lH x16 a20.1,Sl aQ v0 p0.2.1,Sl aK v1 p0.2.2,Pw aJ b35.2 a34.2]) ((0:Int),([]:EB)) ((oI),([]:List (Value×Value))) h SF (bK.ix [1,2,3,4,0] rfl rfl) (hI [1,2,3,0] rfl) ?_
  intro k36 a34 b35 h
  refine aI<|aT<|aA rfl<|bQ rfl<|cM 2 rfl<|cY (Ck rfl) rfl<|cZ rfl<|aL ?_
  refine fG h rfl (fun h=>?_) fun h=>?_
  ·refine bJ<|aI<|pB (B:=Hn) (fun a41=>i_ a34 (bH (jB U p0 p1 a20) k36) a41=some r) (fun a41 b42=>[(1,vU (p1)),(2,vP b1),(4,vP b2),(6,vP b13),(7,x16),(9,vI (a34.1))]) (fun a41 b42=>[dD b13 [vS (p0.1),b21,b42.1] 25,dD b2 xJ 25,dD b1 [vS (p0.1),v0,v1] 25,Ar aW b21 a20.2,Ad a_ b42.1 b42.2 a41]) (fun a41 b42=>[Pw aJ b42.2 a41,Sl lH x16 a20.1,Sl aQ v0 p0.2.1,Sl aK v1 p0.2.2,Pw aJ b35.2 a34.2]) ?_ ?_
   ·refine aP<|aT<|bQ rfl<|cM 2 rfl<|aA rfl<|eO h fun j43 h=>aD (aU rfl rfl (Ck rfl) rfl rfl j43) rfl<|oJ (v:=v1) (ds:=p0.2.2) aX (Ck rfl) fun us44=>?_
    refine c_ (bZ ((iY (bY (f:=aJ) (eZ rfl) j43.1 (by first|exact j43.2|simpa using j43.2))):aM _ _ (Sl aY ((at' us44 a34.1).1) ((at' p0.2.2 a34.1).2.1)))) ?_
    refine c_ (bZ ((iC (bY (f:=aJ) (Ck rfl) j43.1 (by first|exact j43.2|simpa using j43.2))):aM _ _ (Sl bA ((at' us44 a34.1).2) ((at' p0.2.2 a34.1).2.2)))) ?_
    refine aD (eP (cs:=[vS ((at' p0.2.2 a34.1).1),(at' us44 a34.1).1,(at' us44 a34.1).2]) rfl (Ck rfl) rfl rfl rfl rfl ⟨j43.1,by first|exact j43.2|simpa using j43.2⟩) rfl<|eM h fun r45 w46 h=>aN (aR.callQ Ol (AG U ((at' us44 a34.1).1) ((at' us44 a34.1).2) r45 w46) rfl (hI [1,0] rfl)) rfl fun x47=>aA rfl<|gI rfl<|gI rfl<|aB rfl<|aB rfl<|aL<|aT<|aA rfl<|aA rfl<|Eo rfl<|rV rfl<|aL ?_
    refine fG h rfl (fun h=>?_) fun h=>?_
    ·refine Gi [0,1,0,4,0,28,60,0,252,508,1023,2047,4095] 10 mixedOrders ?_
     refine lV rfl<|tO 0 rfl<|lV rfl<|tO 2 rfl<|cR rfl<|eO h fun j49 h=>cN rfl .nil (lN 6 rfl) (aU rfl rfl (dB rfl) rfl rfl j49) bD.z<|cN rfl .nil (lN 2 rfl) (eP (cs:=[vS ((at' p0.2.2 a34.1).1),(at' us44 a34.1).1,(at' us44 a34.1).2]) rfl (dB rfl) rfl rfl rfl rfl ⟨j49.1,by first|exact j49.2|simpa using j49.2⟩) bD.z<|cR rfl<|eM h fun r50 w51 h=>JR.loud rfl rfl rfl (aR.call SU (Cr U ((at' us44 a34.1).1) ((at' us44 a34.1).2) x16 r50 w51) rfl (tM.cons (List.mem_of_getElem? (i:=1) rfl) (tM.cons (List.mem_of_getElem? (i:=0) rfl) (lN 4 rfl))) (fun _ _=>rfl) (fun _ _=>rfl)) rfl (fun x52=>(CJ [([2],[])] rfl)) fun x52=>JR.stp (oD [Ar dR x52.1 r50.2.1] [Ad cW x52.2.1 x52.2.2 r50.2.2,dD b13 [vS (p0.1),b21,b35.1] 25,dD b2 xJ 25,dD b1 [vS (p0.1),v0,v1] 25,Ar aW b21 a20.2,Ad a_ b35.1 b35.2 a34.2] (bK.ix [0,1,2,3,4,5,6] rfl rfl) (bT (aM.res 0 rfl) dI))<|JR.stp (oD [Ad cW x52.2.1 x52.2.2 r50.2.2] [dD b13 [vS (p0.1),b21,b35.1] 25,dD b2 xJ 25,dD b1 [vS (p0.1),v0,v1] 25,Ar aW b21 a20.2,Ad a_ b35.1 b35.2 a34.2] (bK.ix [0,1,2,3,4,5] rfl rfl) (sL (i:=0) (j:=1) cL rfl rfl:aM _ _ (Sl bA x52.2.1 r50.2.2)))<|JR.stp (bZ ((xM (aM.and (eZ rfl) (dB rfl)) mX):aM _ _ (Pw aJ ([(x52.1,x52.2.1)]) ([(r50.1,r50.2.1,r50.2.2)]))))<|sK (Know.one ((Ck rfl))) fun ho53=>sK (Know.one ((eZ rfl))) fun ho54=>JR.loud rfl rfl rfl (yT (e:=a_) [(x52.1,x52.2.1)] [((r50.1,r50.2.1,r50.2.2))] [(0,Value.agg #[vS (r50.1),x52.1,x52.2.1])] rfl rfl rfl rfl (Jg (vS (r50.1)) (x52.1) (x52.2.1)) rfl rfl (show List.all [vS (r50.1),x52.1,x52.2.1] one=true from(fE rfl (fE ho53 (fE ho54 rfl)))) rfl) rfl (fun u55=>(CJ [([1],[])] rfl)) fun u55=>dM 10 rfl rfl<|eO h fun j56 h=>c_ (bZ ((w_ (dA 11 rfl) (dB rfl)):aM _ _ (Pw aJ (b35.2++([(x52.1,x52.2.1)])) (a34.2++([(r50.1,r50.2.1,r50.2.2)])))))<|aN (aR.appendD 5 0 rfl rfl rfl rfl rfl rfl rfl rfl j56 rfl) rfl fun u57=>bQ rfl<|dG (Know.one ((sL (i:=5) (j:=0) aX rfl rfl))) fun ho58=>pC 1 rfl rfl ho58 rfl rfl rfl<|fF<|kB ?_
     exact bS (a34.2++([(r50.1,r50.2.1,r50.2.2)])) (u57,(b35.2++([(x52.1,x52.2.1)]))) h SF (bK.ix [1,2,3,4,5] rfl rfl) (hI [0,9,10,11,12] rfl)
    refine cS<|kB ?_
    exact bS (a34.2) (b35.1,b35.2) h SF (bK.refl _) (hI [7,4,5,6,7] rfl)
   intro a41 b42 h
   unfold i_ at h
   refine aH<|aA rfl<|cU rfl<|aB rfl<|aL ?_
   exact eK ((wI .i64 (a34.1+(1:Int))),a41) (b42.1,b42.2) h SF (bK.refl _) (hI [1,2,3,0] rfl)
  refine dY ?_
  exact bS (a34.2) (b35.1,b35.2) h SF (bK.ix [0,1,3,4] rfl rfl) (aO.refl _ _)
 intro a25 b26 h
 unfold oW at h
 refine aT<|l_ 0 rfl<|dG (Know.one ((bT (aM.res 2 rfl) bU))) fun ho27=>dG (Know.one ((sL (i:=3) (j:=3) aX rfl rfl))) fun ho28=>cC 1 (vs:=[vS (p0.1),b21,b26.1]) rfl rfl (fE rfl (fE ho27 (fE ho28 rfl))) rfl rfl rfl<|aB rfl<|aL<|aS<|c_ (oD [Ad a_ b26.1 b26.2 a25] [dD b13 [vS (p0.1),b21,b26.1] 25,dD b2 [vS (p0.1),b21,b26.1] 25,Ar aW b21 a20.2] (bK.ix [3,0,1,2] rfl rfl) (sL (i:=0) (j:=3) aX rfl rfl:aM _ _ (Sl aK b26.1 a25))) ?_
 cases h
 exact eV (b21,b26.1) rfl rfl (RV.cell 1 rfl rfl rfl rfl) (RV.tmp rfl) (bK.ix [2] rfl rfl) (hI [0] rfl)
end
end Go.Proofs.YthnplbmmlbnelaaGreat
end
section
namespace Go.Proofs.YthnplbmmlbnelaaGreat
open Go Go.Sx
section
def NI (m:bV) (t:TM):TM:=if t.1=5∨t.1=12 then(t.1,at' m t.2)else t
def Vd (m:bV):Bool:=(List.range m.length).all fun k=>decide (0<=at' m (k:Int))&&decide (at' m (k:Int)<6)
noncomputable def Et (m:bV) (e:List TM):List TM×Int:=if Er m.length e=true then(if Vd m=true then(e.map (NI m),0)else([],2))else([],7)
theorem HT {e:List TM} {k:Nat} (h:k<e.length):e.drop k=at' e (k:Int)::e.drop (k+1):=by
 rw[List.drop_eq_getElem_cons h]
 congr 1
 have:=vM h
 rw[List.getElem?_eq_getElem h]at this
 exact Option.some.inj this
def Mc (m:bV) (e:List TM) (k:Nat):List TM:=(e.take k).map (NI m)++e.drop k
theorem Py (m:bV) {e:List TM} {k:Nat} (h:k<e.length):at' (Mc m e k) (k:Int)=at' e (k:Int):=by
 unfold Mc
 rw[HT h]
 exact fD _ _ _ _ (by simp;omega)
theorem C_ (m:bV) {e:List TM} {k:Nat} (h:k<=e.length):(Mc m e k).length=e.length:=by unfold Mc;simp;omega
theorem Da (m:bV) {e:List TM} {k:Nat} (h:k<e.length) (y:TM) (hy:NI m (at' e (k:Int))=y):(Mc m e k).set k y=Mc m e (k+1):=by
 unfold Mc
 rw[HT h,DR _ _ _ _ k (by simp;omega),lE h,<-hy];simp
theorem JA (m:bV) {e:List TM} {k:Nat} (h:k<e.length) (hy:NI m (at' e (k:Int))=at' e (k:Int)):Mc m e k=Mc m e (k+1):=by
 rw[<-Da m h _ hy]
 unfold Mc
 rw[HT h,DR _ _ _ _ k (by simp;omega)]
theorem VL (F:Nat) (e:List TM) (m:bV) (hl:e.length<=900) (hm:m.length<=20) (hF:1000<=F):rS F e m=some (Et m e):=by
 unfold rS Et
 rw[bF (RG F e _ hl hF)]
 cases hv:Er m.length e
 ·rfl
 rw[if_neg (by decide),if_pos rfl]
 obtain⟨x,hx⟩:=Ay.1 hv
 have e2:=dQ (step:=kK F e m) (K:=uW F e m ()) (bad:=some ([],2)) m.length (fun k=>decide (0<=at' m (k:Int))&&decide (at' m (k:Int)<6)) (fun k=>(k:Int)) (fun k ag hk=>by
  unfold kK uZ
  rw[if_pos (by omega),eF (by omega),wr (by omega) (by omega)]
  by_cases h0:at' m (k:Int)<0
  ·rw[if_pos h0,if_pos rfl,if_neg (by simp;omega)]
  ·rw[if_neg h0]
   by_cases h6:6<=at' m (k:Int)
   ·rw[if_pos (by simpa using h6),if_neg (by simp;omega)]
   ·rw[if_neg (by simpa using h6),if_pos (by simp;omega)];rfl) (fun ag=>by unfold kK;rw[if_neg (by omega)]) F (by omega)
 have e2:bH (kK F e m) F (0:Int)=_:=e2
 rw[e2]
 show(if Vd m=true then _ else _)=_
 cases Vd m
 ·rfl
 rw[if_pos rfl,if_pos rfl]
 unfold uW
 have e1:=eN (step:=kJ e m) (K:=some (e.map (NI m),(0:Int))) e.length (fun k=>((k:Int),Mc m e k)) (fun k ag hk=>by
  have ht:=hx.2.2.2.2.2 _ (lS hk)
  unfold kJ uY pZ
  dsimp only
  rw[if_pos (by omega),eF (by rw[C_ m (by omega)];omega),Py m hk,wr (by omega) (by omega),Int.toNat_natCast]
  by_cases h5:(at' e (k:Int)).1=5
  ·have hix:=tS ht (.inl h5)
   rw[if_pos h5,if_pos rfl,eF hix,eF (by rw[C_ m (by omega)];omega),Da m hk _ (by unfold NI;rw[if_pos (.inl h5)])]
   rfl
  ·rw[if_neg h5]
   by_cases h12:(at' e (k:Int)).1=12
   ·have hix:=tS ht (.inr h12)
    rw[if_pos (by simpa using h12),eF hix,eF (by rw[C_ m (by omega)];omega),Da m hk _ (by unfold NI;rw[if_pos (.inr h12)])]
    rfl
   ·rw[if_neg (by simpa using h12),JA m hk (by unfold NI;rw[if_neg (by omega)])]
    rfl) (fun ag=>by
  unfold kJ uX
  dsimp only
  rw[if_neg (by omega)]
  unfold Mc
  simp) F (by omega)
 rw[eF (by omega),eF (by simp)]
 exact e1
theorem Vq (F:Nat) (e:List TM) (m:bV) (hl:e.length<=900) (hm:m.length<=20) (hF:1000<=F):pN F e m=some (Et m e):=by
 unfold pN Et
 rw[bF (Rv F e _ hl hF)]
 cases hv:Er m.length e
 ·rfl
 rw[if_neg (by decide),if_pos rfl]
 obtain⟨x,hx⟩:=Ay.1 hv
 have e2:=dQ (step:=jG F e m) (K:=sR F e m ()) (bad:=some ([],2)) m.length (fun k=>decide (0<=at' m (k:Int))&&decide (at' m (k:Int)<6)) (fun k=>(k:Int)) (fun k ag hk=>by
  unfold jG sU
  rw[if_pos (by omega),eF (by omega),eF (by omega),wr (by omega) (by omega)]
  by_cases h0:at' m (k:Int)<0
  ·rw[if_pos h0,if_pos rfl,if_neg (by simp;omega)]
  ·rw[if_neg h0]
   by_cases h6:6<=at' m (k:Int)
   ·rw[if_pos (by simpa using h6),if_neg (by simp;omega)]
   ·rw[if_neg (by simpa using h6),if_pos (by simp;omega)];rfl) (fun ag=>by unfold jG;rw[if_neg (by omega)]) F (by omega)
 have e2:bH (jG F e m) F (0:Int)=_:=e2
 rw[e2]
 show(if Vd m=true then _ else _)=_
 cases Vd m
 ·rfl
 rw[if_pos rfl,if_pos rfl]
 unfold sR
 have e1:=eN (step:=jF m) (K:=some (e.map (NI m),(0:Int))) e.length (fun k=>((k:Int),Mc m e k)) (fun k ag hk=>by
  have ht:=hx.2.2.2.2.2 _ (lS hk)
  unfold jF sT nN
  dsimp only
  have hln:=C_ m (e:=e) (k:=k) (by omega)
  rw[if_pos (by omega),eF (by omega),Py m hk,wr (by omega) (by omega),Int.toNat_natCast]
  by_cases h5:(at' e (k:Int)).1=5
  ·have hix:=tS ht (.inl h5)
   rw[if_pos h5,if_pos rfl,eF (by omega),eF hix,eF (by omega),Da m hk _ (by unfold NI;rw[if_pos (.inl h5)])]
   rfl
  ·rw[if_neg h5,eF (by omega)]
   by_cases h12:(at' e (k:Int)).1=12
   ·have hix:=tS ht (.inr h12)
    rw[if_pos (by simpa using h12),eF (by omega),eF hix,eF (by omega),Da m hk _ (by unfold NI;rw[if_pos (.inr h12)])]
    rfl
   ·rw[if_neg (by simpa using h12),JA m hk (by unfold NI;rw[if_neg (by omega)])]
    rfl) (fun ag=>by
  unfold jF sS
  dsimp only
  rw[if_neg (by rw[C_ m (Nat.le_refl _)];omega)]
  unfold Mc
  simp) F (by omega)
 rw[eF (by simp;omega)]
 exact e1
noncomputable def UE (m:bV) (r:RL):RL:=(r.1,(Et m r.2.1).1,r.2.2.map fun s=>(at' m s.1,(Et m s.2).1))
theorem tRn (F:Nat) {r:RL} {n:Nat} (h:AT r n) {m:bV} (hm:m.length=n) (hF:1000<=F):oT F r m=some (UE m r):=by
 have n6:=h.n6
 have n':=h.n'
 have lg:=h.lg
 unfold oT
 rw[bF (VL F _ m (by omega) (by omega) hF)]
 have e0:=eN (step:=kA F r m (Et m r.2.1)) (K:=some (UE m r)) r.2.2.length (fun k=>((k:Int),(r.2.2.take k).map fun s=>(at' m s.1,(Et m s.2).1))) (fun k ag hk=>by
  have hv:=h.var k hk
  have hl:=h.lv _ (lS hk)
  unfold kA
  dsimp only
  rw[if_pos (by omega),eF (by omega),bF (VL F _ m (by omega) (by omega) hF),eF (by omega),eF (by simp;omega),wr (by omega) (by omega),lE hk]
  simp) (fun ag=>by
  unfold kA nA
  dsimp only
  rw[if_neg (by omega),List.take_length];rfl) F (by omega)
 exact e0
theorem rRn (F:Nat) {r:RL} {n:Nat} (h:AT r n) {m:bV} (hm:m.length=n) (hF:1000<=F):nE F r m=some (UE m r):=by
 have n6:=h.n6
 have n':=h.n'
 have lg:=h.lg
 unfold nE
 rw[bF (Vq F _ m (by omega) (by omega) hF)]
 have e0:=eN (step:=jM F r m (Et m r.2.1)) (K:=some (UE m r)) r.2.2.length (fun k=>((k:Int),(r.2.2.take k).map fun s=>(at' m s.1,(Et m s.2).1))) (fun k ag hk=>by
  have hv:=h.var k hk
  have hl:=h.lv _ (lS hk)
  unfold jM
  dsimp only
  rw[if_pos (by omega),eF (by omega),bF (Vq F _ m (by omega) (by omega) hF),eF (by omega),eF (by omega),eF (by simp;omega),wr (by omega) (by omega),lE hk]
  simp) (fun ag=>by
  unfold jM lQ
  dsimp only
  rw[if_neg (by omega),List.take_length];rfl) F (by omega)
 exact e0
theorem EF.rule {p:PG} (hp:EF p) (hv:VP p) {k:Nat} (hk:k<p.2.2.length):AT (at' p.2.2 (k:Int)) p.2.1.length:=
 ⟨hv.rl k hk,hv.v6,(hp.g _ (lS hk)).1,(hp.g _ (lS hk)).2.2⟩
noncomputable def TR (p:PG) (vars:Int) (k:Nat):Bool:=decide (oY .u32 ((Eu 0 (at' p.2.2 (k:Int)).2.2:Nat):Int) vars=0)||decide (tT .u32 (AZ .u32 ((Eu 0 (at' p.2.2 (k:Int)).2.2:Nat):Int) ((Rt (at' p.2.2 (k:Int)):Nat):Int)) vars=0)
noncomputable def Rk (p:PG) (vars:Int):Bool:=MC p&&decide (rC .u32 vars (p.2.1.length:Int)=0)&&(List.range p.2.2.length).all (TR p vars)
theorem PM (F:Nat) {p:PG} (hp:EF p) (vars:Int) (hF:1000<=F):nK F p vars=some (Rk p vars):=by
 unfold nK qJ Rk
 rw[bF (PQ F (p:=(p.1,p.2.1,p.2.2)) hp hF)]
 show(if(!MC p)=true then _ else _)=_
 cases hv:MC p
 ·rfl
 have hV:=MB hv
 have r12:=hV.r12
 rw[if_neg (by decide),eF (by omega)]
 by_cases hs:rC .u32 vars (p.2.1.length:Int)=0
 ·rw[if_neg (by simpa using hs)]
  have e0:=dQ (step:=iH F p vars) (K:=lT ()) (bad:=some false) p.2.2.length (TR p vars) (fun k=>(k:Int)) (fun k ag hk=>by
   have hR:=hp.rule hV hk
   unfold iH qK TR
   have h1:=Sm F (r:=((at' p.2.2 (k:Int)).1,(at' p.2.2 (k:Int)).2.1,(at' p.2.2 (k:Int)).2.2)) hR hF
   have h2:=tRr F (r:=((at' p.2.2 (k:Int)).1,(at' p.2.2 (k:Int)).2.1,(at' p.2.2 (k:Int)).2.2)) hR hF
   rw[if_pos (by omega),eF (by omega),bF h1,bF h1,bF h2,wr (by omega) (by omega)]
   show(if oY .u32 ((Eu 0 (at' p.2.2 (k:Int)).2.2:Nat):Int) vars≠0 then _ else _)=_
   by_cases ha:oY .u32 ((Eu 0 (at' p.2.2 (k:Int)).2.2:Nat):Int) vars=0
   ·rw[if_neg (by simpa using ha),if_neg (by decide),decide_eq_true ha];rfl
   ·rw[if_pos ha,decide_eq_false ha,Bool.false_or]
    show(if decide (tT .u32 (AZ .u32 ((Eu 0 (at' p.2.2 (k:Int)).2.2:Nat):Int) ((Rt (at' p.2.2 (k:Int)):Nat):Int)) vars≠0)=true then _ else _)=_
    by_cases hb:tT .u32 (AZ .u32 ((Eu 0 (at' p.2.2 (k:Int)).2.2:Nat):Int) ((Rt (at' p.2.2 (k:Int)):Nat):Int)) vars=0
    ·rw[if_neg (by simpa using hb),if_pos (by simpa using hb)];rfl
    ·rw[if_pos (by simpa using hb),if_neg (by simpa using hb)]) (fun ag=>by unfold iH;rw[if_neg (by omega)]) F (by omega)
  have e0:bH (iH F p vars) F (0:Int)=_:=e0
  rw[e0,decide_eq_true hs]
  unfold lT
  cases (List.range p.2.2.length).all (TR p vars)<;>rfl
 ·rw[if_pos (by simpa using hs),decide_eq_false hs];rfl
theorem Pq (F:Nat) {p:PG} (hp:EF p) (vars:Int) (hF:1000<=F):rR F p vars=some (Rk p vars):=by
 have hv20:=hp.v
 unfold rR uS Rk
 rw[bF (Px F (p:=(p.1,p.2.1,p.2.2)) hp hF)]
 show(if(!MC p)=true then _ else _)=_
 cases hv:MC p
 ·rfl
 have hV:=MB hv
 have r12:=hV.r12
 rw[if_neg (by decide),Gh (by omega) (by omega),eF (by omega)]
 by_cases hs:rC .u32 vars (p.2.1.length:Int)=0
 ·rw[if_neg (by simpa using hs)]
  have e0:=dQ (step:=kH F p vars) (K:=pX ()) (bad:=some false) p.2.2.length (TR p vars) (fun k=>(k:Int)) (fun k ag hk=>by
   have hR:=hp.rule hV hk
   unfold kH uT TR
   have h1:=Pv F (r:=((at' p.2.2 (k:Int)).1,(at' p.2.2 (k:Int)).2.1,(at' p.2.2 (k:Int)).2.2)) hR hF
   rw[if_pos (by omega),eF (by omega),bF h1,wr (by omega) (by omega)]
   show(if oY .u32 ((Eu 0 (at' p.2.2 (k:Int)).2.2:Nat):Int) vars≠0 then _ else _)=_
   by_cases ha:oY .u32 ((Eu 0 (at' p.2.2 (k:Int)).2.2:Nat):Int) vars=0
   ·rw[if_neg (by simpa using ha),if_neg (by decide),decide_eq_true ha];rfl
   ·rw[if_pos ha,decide_eq_false ha,Bool.false_or]
    show(if decide (tT .u32 (AZ .u32 ((Eu 0 (at' p.2.2 (k:Int)).2.2:Nat):Int) ((Rt (at' p.2.2 (k:Int)):Nat):Int)) vars≠0)=true then _ else _)=_
    by_cases hb:tT .u32 (AZ .u32 ((Eu 0 (at' p.2.2 (k:Int)).2.2:Nat):Int) ((Rt (at' p.2.2 (k:Int)):Nat):Int)) vars=0
    ·rw[if_neg (by simpa using hb),if_pos (by simpa using hb)];rfl
    ·rw[if_pos (by simpa using hb),if_neg (by simpa using hb)]) (fun ag=>by unfold kH;rw[if_neg (by omega)]) F (by omega)
  have e0:bH (kH F p vars) F (0:Int)=_:=e0
  rw[e0,decide_eq_true hs]
  unfold pX
  cases (List.range p.2.2.length).all (TR p vars)<;>rfl
 ·rw[if_pos (by simpa using hs),decide_eq_false hs];rfl
end
section
def bq (v:Int) (k:Nat):Bool:=decide (oY .u32 (rC .u32 v (k:Int)) 1=1)
def HR (v:Int) (k:Nat):Nat:=((List.range k).filter (bq v)).length
def Nm (v:Int) (k:Nat):Int:=if bq v k=true then(HR v k:Int)else 0
theorem Vg:∀m,m<64->∀k,k<6->nC 0 (oY .u32 ((m:Nat):Int) (wI .u32 (AI .u32 1 ((k:Nat):Int) - 1)))=some (HR (m:Int) k:Int):=by decide +kernel
theorem WW (F:Nat) {m k:Nat} (hm:m<64) (hk:k<6):nC F (oY .u32 (m:Int) (wI .u32 (AI .u32 1 (k:Int) - 1)))=some (HR (m:Int) k:Int):=Vg m hm k hk
def LS (v:Int) (n k:Nat) (tl:Nat->Int):bV:=(List.range k).map (Nm v)++(List.range' k (n - k)).map tl
theorem LV (v:Int) {n k:Nat} (tl:Nat->Int) (h:k<=n):(LS v n k tl).length=n:=by unfold LS;simp;omega
theorem EN (v:Int) {n k:Nat} (tl:Nat->Int) (h:k<n) (y:Int) (hy:Nm v k=y):(LS v n k tl).set k y=LS v n (k+1) tl:=by
 unfold LS
 rw[show n - k=(n - (k+1))+1 by omega,List.range'_succ,List.map_cons,DR _ _ _ _ k (by simp),List.range_succ,List.map_append,<-hy]
 simp
theorem Pd (v:Int) {n k:Nat} (tl:Nat->Int) (h:k<n) (hy:Nm v k=tl k):LS v n k tl=LS v n (k+1) tl:=by
 rw[<-EN v tl h _ hy]
 unfold LS
 rw[show n - k=(n - (k+1))+1 by omega,List.range'_succ,List.map_cons,DR _ _ _ _ k (by simp)]
theorem Jo (v:Int) (n:Nat) (tl:Nat->Int):LS v n 0 tl=(List.range n).map tl:=by show List.map tl (List.range' 0 (n - 0))=_;rw[Nat.sub_zero,List.range_eq_range']
theorem LU (v:Int) (n:Nat) (tl:Nat->Int):LS v n n tl=(List.range n).map (Nm v):=by unfold LS;simp
def yR (p:PG) (v:Int) (k:Nat):List VR:=((List.range k).filter (bq v)).map fun j:Nat=>at' p.2.1 (j:Int)
theorem FA (p:PG) (v:Int) (k:Nat):(yR p v k).length=HR v k:=by simp[yR,HR]
theorem Hb (p:PG) (v:Int) (k:Nat):yR p v (k+1)=if bq v k=true then yR p v k++[at' p.2.1 (k:Int)]else yR p v k:=by
 unfold yR
 rw[List.range_succ,List.filter_append,List.map_append]
 cases h:bq v k<;>simp[h]
theorem HS (v:Int) (k:Nat):HR v k<=k:=by unfold HR;exact Nat.le_trans (List.length_filter_le _ _) (by simp)
def AN (v:Int) (n:Nat):bV:=(List.range n).map (Nm v)
noncomputable def Vw (p:PG) (v:Int) (j:Nat):Bool:=decide (oY .u32 ((Eu 0 (at' p.2.2 (j:Int)).2.2:Nat):Int) v≠0)
noncomputable def Ke (p:PG) (v:Int) (k:Nat):List RL:=((List.range k).filter (Vw p v)).map fun j:Nat=>UE (AN v p.2.1.length) (at' p.2.2 (j:Int))
theorem Io (p:PG) (v:Int) (k:Nat):(Ke p v k).length<=k:=by unfold Ke;rw[List.length_map];exact Nat.le_trans (List.length_filter_le _ _) (by simp)
theorem Jz (p:PG) (v:Int) (k:Nat):Ke p v (k+1)=if Vw p v k=true then Ke p v k++[UE (AN v p.2.1.length) (at' p.2.2 (k:Int))]else Ke p v k:=by
 unfold Ke
 rw[List.range_succ,List.filter_append,List.map_append]
 cases h:Vw p v k<;>simp[h]
def OK:PG:=(ByteArray.mk #[],[],[])
open Classical in
noncomputable def Il (p:PG) (v:Int):PG×Int:=
 if MC p=false then(OK,8)else if rC .u32 v (p.2.1.length:Int)≠0 then(OK,2)else if v=0∨Rk p v=false then(OK,7)
 else((p.1,yR p v p.2.1.length,Ke p v p.2.2.length),0)
theorem PI {m n:Nat} (hn:n<=6) (h:rC .u32 (m:Int) (n:Int)=0):m<64:=by
 have h:(m:Int).fdiv (2^(min ((n:Int)).toNat 32))=0:=h
 rw[Int.toNat_natCast,Nat.min_eq_left (by omega),Int.fdiv_eq_ediv_of_nonneg _ (Int.pow_nonneg (by decide)),show(2:Int)^n=((2^n:Nat):Int) by simp,<-Int.natCast_ediv]at h
 have h:m / 2^n=0:=by exact_mod_cast h
 have h2:=(Nat.div_eq_zero_iff).1 h
 have h3:2^n<=2^6:=Nat.pow_le_pow_right (by decide) hn
 have h4:0<2^n:=Nat.pow_pos (by decide)
 omega
theorem VT (F:Nat) {p:PG} (hp:EF p) (hV:VP p) {m:Nat} (hm:m<64) (hF:1000<=F):bH (fQ F p (m:Int)) F ((0:Int),(List.replicate (Int.toNat (List.length p.2.1:Int)) (0:Int)),([]:List VR))=fP F p (m:Int) (AN (m:Int) p.2.1.length,yR p (m:Int) p.2.1.length):=by
 have v6:=hV.v6
 have e0:=eN (step:=fQ F p (m:Int)) (K:=fP F p (m:Int) (AN (m:Int) p.2.1.length,yR p (m:Int) p.2.1.length)) p.2.1.length (fun k=>((k:Int),LS (m:Int) p.2.1.length k (fun _=>0),yR p (m:Int) k)) (fun k ag hk=>by
  have hl:=LV (m:Int) (n:=p.2.1.length) (k:=k) (fun _=>0) (by omega)
  have hc:=HS (m:Int) k
  have hkl:=FA p (m:Int) k
  unfold fQ
  dsimp only
  rw[if_pos (by omega),eF (by omega),eF (by omega),WW F hm (by omega),Hb]
  by_cases hb:oY .u32 (rC .u32 (m:Int) (k:Int)) 1=1
  ·have hq:bq (m:Int) k=true:=decide_eq_true hb
   have hv:Nm (m:Int) k=(HR (m:Int) k:Int):=by unfold Nm;rw[if_pos hq]
   rw[if_pos hb,eF (by omega),bF rfl,eF (by omega),eF (by rw[hkl];simp;omega),Int.toNat_natCast,EN _ _ hk _ hv,if_pos hq]
   unfold gZ
   dsimp only
   rw[wr (by omega) (by omega)]
   rfl
  ·have hq:bq (m:Int) k=false:=decide_eq_false hb
   have hv:Nm (m:Int) k=0:=by unfold Nm;rw[hq];rfl
   rw[if_neg hb,Pd _ _ hk hv,hq,if_neg (by decide)]
   unfold gZ
   dsimp only
   rw[wr (by omega) (by omega)]
   rfl) (fun ag=>by
  unfold fQ
  dsimp only
  rw[if_neg (by omega),LU];rfl) F (by omega)
 rw[Int.toNat_natCast]
 have hz:LS (m:Int) p.2.1.length 0 (fun _=>0)=List.replicate p.2.1.length 0:=by rw[Jo,List.map_const'];simp
 rw[hz]at e0
 exact e0
theorem Ru (F n:Nat) (hn:n<=20) (hF:1000<=F):uE F (n:Int)=some ((List.range n).map fun j:Nat=>(j:Int)):=by
 unfold uE
 exact eN (step:=sG (n:Int)) (K:=some ((List.range n).map fun j:Nat=>(j:Int))) n (fun k=>((List.range k).map fun j:Nat=>(j:Int),(k:Int))) (fun k ag hk=>by
  unfold sG
  dsimp only
  rw[if_pos (by omega),eF (by simp;omega),wr (by omega) (by omega),List.range_succ,List.map_append]
  rfl) (fun ag=>by
  unfold sG wT
  dsimp only
  rw[if_neg (by omega)]) F (by omega)
theorem Vt (F:Nat) {p:PG} (hp:EF p) (hV:VP p) {m:Nat} (hm:m<64) (hF:1000<=F):bH (gT F p (m:Int)) F ((0:Int),((List.range p.2.1.length).map fun j:Nat=>(j:Int)),([]:List VR))=gS F p (m:Int) (AN (m:Int) p.2.1.length,yR p (m:Int) p.2.1.length):=by
 have v6:=hV.v6
 have e0:=eN (step:=gT F p (m:Int)) (K:=gS F p (m:Int) (AN (m:Int) p.2.1.length,yR p (m:Int) p.2.1.length)) p.2.1.length (fun k=>((k:Int),LS (m:Int) p.2.1.length k (fun j:Nat=>(j:Int)),yR p (m:Int) k)) (fun k ag hk=>by
  have hl:=LV (m:Int) (n:=p.2.1.length) (k:=k) (fun j:Nat=>(j:Int)) (by omega)
  have hc:=HS (m:Int) k
  have hkl:=FA p (m:Int) k
  unfold gT
  dsimp only
  rw[if_pos (by omega),eF (by omega),Gh (by omega) (by omega),eF (by omega),Hb]
  by_cases hb:oY .u32 (rC .u32 (m:Int) (k:Int)) 1=1
  ·have hq:bq (m:Int) k=true:=decide_eq_true hb
   have hv:Nm (m:Int) k=(HR (m:Int) k:Int):=by unfold Nm;rw[if_pos hq]
   rw[if_pos hb,eF (by rw[List.length_set];omega),eF (by omega),eF (by rw[hkl];simp;omega),Int.toNat_natCast,List.set_set,EN _ _ hk _ (by rw[hkl];exact hv),if_pos hq]
   unfold jA
   dsimp only
   rw[wr (by omega) (by omega)]
   rfl
  ·have hq:bq (m:Int) k=false:=decide_eq_false hb
   have hv:Nm (m:Int) k=0:=by unfold Nm;rw[hq];rfl
   rw[if_neg hb,Int.toNat_natCast,EN _ _ hk _ hv,hq,if_neg (by decide)]
   unfold jA
   dsimp only
   rw[wr (by omega) (by omega)]
   rfl) (fun ag=>by
  unfold gT
  dsimp only
  rw[if_neg (by omega),LU];rfl) F (by omega)
 rw[Jo]at e0
 exact e0
theorem LQ (v:Int) (n:Nat):(AN v n).length=n:=by simp[AN]
theorem Up (F:Nat) {p:PG} (hp:EF p) (hV:VP p) (v:Int) (hF:1000<=F):fP F p v (AN v p.2.1.length,yR p v p.2.1.length)=some ((p.1,yR p v p.2.1.length,Ke p v p.2.2.length),0):=by
 have r12:=hV.r12
 unfold fP
 exact eN (step:=g_ F p v (AN v p.2.1.length,yR p v p.2.1.length)) (K:=some ((p.1,yR p v p.2.1.length,Ke p v p.2.2.length),0)) p.2.2.length (fun k=>((k:Int),Ke p v k)) (fun k ag hk=>by
  have hR:=hp.rule hV hk
  have hk':=Io p v k
  have h1:=Sm F (r:=((at' p.2.2 (k:Int)).1,(at' p.2.2 (k:Int)).2.1,(at' p.2.2 (k:Int)).2.2)) hR hF
  have h2:=tRn F (r:=((at' p.2.2 (k:Int)).1,(at' p.2.2 (k:Int)).2.1,(at' p.2.2 (k:Int)).2.2)) hR (LQ v p.2.1.length) hF
  unfold g_
  dsimp only
  rw[if_pos (by omega),eF (by omega),bF h1,Jz]
  unfold Vw
  by_cases ha:oY .u32 ((Eu 0 (at' p.2.2 (k:Int)).2.2:Nat):Int) v≠0
  ·rw[if_pos ha,bF h2,eF (by simp;omega),if_pos (decide_eq_true ha)]
   unfold gY
   dsimp only
   rw[wr (by omega) (by omega)]
   rfl
  ·rw[if_neg ha,if_neg (by rw[decide_eq_false ha];decide)]
   unfold gY
   dsimp only
   rw[wr (by omega) (by omega)]
   rfl) (fun ag=>by
  unfold g_ lP
  dsimp only
  rw[if_neg (by omega)]) F (by omega)
theorem Ua (F:Nat) {p:PG} (hp:EF p) (hV:VP p) (v:Int) (hF:1000<=F):gS F p v (AN v p.2.1.length,yR p v p.2.1.length)=some ((p.1,yR p v p.2.1.length,Ke p v p.2.2.length),0):=by
 have r12:=hV.r12
 unfold gS
 exact eN (step:=jB F p v (AN v p.2.1.length,yR p v p.2.1.length)) (K:=some ((p.1,yR p v p.2.1.length,Ke p v p.2.2.length),0)) p.2.2.length (fun k=>((k:Int),Ke p v k)) (fun k ag hk=>by
  have hR:=hp.rule hV hk
  have hk':=Io p v k
  have h1:=Pv F (r:=((at' p.2.2 (k:Int)).1,(at' p.2.2 (k:Int)).2.1,(at' p.2.2 (k:Int)).2.2)) hR hF
  have h2:=rRn F (r:=((at' p.2.2 (k:Int)).1,(at' p.2.2 (k:Int)).2.1,(at' p.2.2 (k:Int)).2.2)) hR (LQ v p.2.1.length) hF
  unfold jB
  dsimp only
  rw[if_pos (by omega),eF (by omega),bF h1,Jz]
  unfold Vw
  dsimp only
  by_cases ha:oY .u32 ((Eu 0 (at' p.2.2 (k:Int)).2.2:Nat):Int) v≠0
  ·rw[if_pos ha,eF (by omega),bF h2,eF (by simp;omega),if_pos (decide_eq_true ha)]
   unfold i_
   dsimp only
   rw[wr (by omega) (by omega)]
   rfl
  ·rw[if_neg ha,if_neg (by rw[decide_eq_false ha];decide)]
   unfold i_
   dsimp only
   rw[wr (by omega) (by omega)]
   rfl) (fun ag=>by
  unfold jB oW
  dsimp only
  rw[if_neg (by omega)]) F (by omega)
theorem Nt (F:Nat) {p:PG} (hp:EF p) {m:Nat} (hF:1000<=F):nD F p (m:Int)=some (Il p (m:Int)):=by
 unfold nD Il
 rw[bF (PQ F (p:=(p.1,p.2.1,p.2.2)) hp hF)]
 show(if(!MC p)=true then _ else _)=_
 cases hv:MC p
 ·rfl
 have hV:=MB hv
 have v6:=hV.v6
 rw[if_neg (by decide),if_neg (show¬(true=false) by decide),eF (by omega)]
 by_cases hs:rC .u32 (m:Int) (p.2.1.length:Int)≠0
 ·rw[if_pos hs,if_pos hs];rfl
 rw[if_neg hs,if_neg hs]
 have hm:=PI v6 (Decidable.not_not.1 hs)
 by_cases h0:(m:Int)=0
 ·rw[if_pos h0,if_pos (.inl h0)];rfl
 rw[if_neg h0,bF (PM F (p:=(p.1,p.2.1,p.2.2)) hp (m:Int) hF)]
 show jK F p (m:Int) (!Rk p (m:Int))=_
 unfold jK
 cases hl:Rk p (m:Int)
 ·rw[if_pos (by decide),if_pos (.inr rfl)];rfl
 ·rw[if_neg (by decide),if_neg (by simp;omega),eF (by omega)]
  exact(VT F hp hV hm hF).trans (Up F hp hV (m:Int) hF)
theorem Nq (F:Nat) {p:PG} (hp:EF p) {m:Nat} (hF:1000<=F):qS F p (m:Int)=some (Il p (m:Int)):=by
 have hv20:=hp.v
 unfold qS Il
 rw[bF (Px F (p:=(p.1,p.2.1,p.2.2)) hp hF)]
 show(if(!MC p)=true then _ else _)=_
 cases hv:MC p
 ·rfl
 have hV:=MB hv
 have v6:=hV.v6
 rw[if_neg (by decide),if_neg (show¬(true=false) by decide),Gh (by omega) (by omega),eF (by omega)]
 by_cases hs:rC .u32 (m:Int) (p.2.1.length:Int)≠0
 ·rw[if_pos hs,if_pos hs];rfl
 rw[if_neg hs,if_neg hs]
 have hm:=PI v6 (Decidable.not_not.1 hs)
 by_cases h0:(m:Int)=0
 ·rw[if_pos h0,if_pos (.inl h0)];rfl
 rw[if_neg h0,bF (Pq F (p:=(p.1,p.2.1,p.2.2)) hp (m:Int) hF)]
 show lD F p (m:Int) (!Rk p (m:Int))=_
 unfold lD
 cases hl:Rk p (m:Int)
 ·rw[if_pos (by decide),if_pos (.inr rfl)];rfl
 ·rw[if_neg (by decide),if_neg (by simp;omega),bF (Ru F _ (by omega) hF)]
  exact(Vt F hp hV hm hF).trans (Ua F hp hV (m:Int) hF)
end
end Go.Proofs.YthnplbmmlbnelaaGreat
end
section
namespace Go.Proofs.YthnplbmmlbnelaaGreat
open Go.Sx
def tW  (a6:Unit):Option (Bool):=
 some (false)
def tX (a10:Int) (ag9:(Int)->Option (Bool)) (a14:Unit):Option (Bool):=
 ag9 (wI .i64 (a10+(1:Int)))
def lW (p0:dZ) (a10:Int) (ag9:(Int)->Option (Bool)) (a22:Int) (ag21:(Int)->Option (Bool)):Option (Bool):=
 ck (0<=a10∧a10<(List.length p0.2.2:Int)) (if a22<(List.length ((at' p0.2.2 a10).2.2):Int)then(ck (0<=a10∧a10<(List.length p0.2.2:Int)) (ck (0<=a22∧a22<(List.length ((at' p0.2.2 a10).2.2):Int)) (if(400:Int)<(List.length ((at' ((at' p0.2.2 a10).2.2) a22).2):Int)then(some (true))else(ag21 (wI .i64 (a22+(1:Int)))))))else(tX a10 ag9 (())))
def pJ (U:Nat) (p0:dZ) (a10:Int) (ag9:(Int)->Option (Bool)) (a17:Bool):Option (Bool):=
 if a17=true then(some (true))else(bH (lW p0 a10 ag9) U (0:Int))
def gP (U:Nat) (p0:dZ) (a10:Int) (ag9:(Int)->Option (Bool)):Option (Bool):=
 if a10<(List.length p0.2.2:Int)then(ck (0<=a10∧a10<(List.length p0.2.2:Int)) (if(400:Int)<(List.length ((at' p0.2.2 a10).2.1):Int)then(pJ U p0 a10 ag9 (true))else(ck (0<=a10∧a10<(List.length p0.2.2:Int)) (if(20:Int)<(List.length ((at' p0.2.2 a10).2.2):Int)then(pJ U p0 a10 ag9 (true))else(ck (0<=a10∧a10<(List.length p0.2.2:Int)) (pJ U p0 a10 ag9 (decide ((100:Int)<((ByteArray.size ((at' p0.2.2 a10).1):Nat):Int)))))))))else(tW  (()))
def pI (U:Nat) (p0:dZ) (a3:Bool):Option (Bool):=
 if a3=true then(some (true))else(bH (gP U p0) U (0:Int))
def rM (U:Nat) (p0:dZ):Option (Bool):=
 if(20:Int)<(List.length p0.2.1:Int)then(pI U p0 (true))else(if(20:Int)<(List.length p0.2.2:Int)then(pI U p0 (true))else(pI U p0 (decide ((100:Int)<((ByteArray.size p0.1:Nat):Int)))))
theorem UP:bE Tryz.prog 5:=Tryz.call5
theorem Gn (U:Nat) {p0:dZ} (v0:Value)  (v1:Value) (r:Bool) (h:rM U p0=some r):
  aZ Tryz.prog 5 #[Value.agg #[vS (p0.1),v0,v1]] [Sl aQ v0 p0.2.1,Sl aK v1 p0.2.2] (fun x:Unit=>vB (r)) (fun x l=>l) (fun _ l=>l):=by
 refine aZ.of Tryz.func5 rfl Tryz.ntmps5 rfl fun c=>?_
 refine aT<|aN (aR.box (cs:=[vS (p0.1),v0,v1]) rfl rfl) rfl fun b1=>aB rfl<|aL<|aI<|aI<|cF (fun a3=>pI U p0 a3=some r) (fun a3 b4=>[(1,vP b1),(20,vB (a3))]) (fun a3 b4=>[dD b1 [vS (p0.1),v0,v1] 25]) ?_ ?_
 ·refine aH<|bQ rfl<|cM 0 rfl<|cY (dB rfl) rfl<|aD (pF rfl rfl) rfl<|aA rfl ?_
  refine mW h rfl (fun _ h=>?_) fun _ h=>?_
  ·refine aC rfl<|aC rfl<|aC rfl<|aC rfl<|bO rfl<|aA rfl<|aC rfl<|aC rfl<|aC rfl<|aC rfl<|bO rfl<|aL ?_
   exact b_ (true) () h SF rfl
  refine aF rfl (bW rfl rfl rfl rfl rfl) rfl<|aF rfl (cI 0 rfl rfl rfl rfl rfl) rfl<|aF rfl (eX rfl (eZ rfl) rfl) rfl<|aF rfl (pF rfl rfl) rfl<|bR rfl<|aA rfl ?_
  refine mW h rfl (fun _ h=>?_) fun _ h=>?_
  ·refine aC rfl<|aC rfl<|aC rfl<|aC rfl<|bO rfl<|aL ?_
   exact b_ (true) () h SF rfl
  refine aF rfl (bW rfl rfl rfl rfl rfl) rfl<|aF rfl (cI 0 rfl rfl rfl rfl rfl) rfl<|aF rfl (xA rfl rfl) rfl<|aF rfl (pF rfl rfl) rfl<|bR rfl<|aL ?_
  exact b_ (decide ((100:Int)<((ByteArray.size p0.1:Nat):Int))) () h SF rfl
 intro a3 b4 h
 refine eY h rfl (fun _ h=>?_) fun _ h=>?_
 ·refine aT<|aB rfl<|aL<|aS<|aG ?_
  cases h
  exact vF rfl
 refine bJ<|aI<|cF (fun a6=>tW  a6=some r) (fun a6 b7=>[]) (fun a6 b7=>[]) ?_ ?_
 ·refine aT<|aB rfl<|aL<|aP<|eH (gP U p0) (fun a10 b11=>[(1,vP b1),(3,vI (a10))]) (fun a10 b11=>[dD b1 [vS (p0.1),v0,v1] 25]) (0:Int) () h SF (bK.refl _) ?_
  intro k12 a10 b11 h
  refine aI<|aT<|aA rfl<|bQ rfl<|cM 0 rfl<|cY (eZ rfl) rfl<|cZ rfl<|aL ?_
  refine fG h rfl (fun h=>?_) fun h=>?_
  ·refine bJ<|aI<|cF (fun a14=>tX a10 (bH (gP U p0) k12) a14=some r) (fun a14 b15=>[(1,vP b1),(3,vI (a10))]) (fun a14 b15=>[dD b1 [vS (p0.1),v0,v1] 25]) ?_ ?_
   ·refine aP<|aI<|aI<|cF (fun a17=>pJ U p0 a10 (bH (gP U p0) k12) a17=some r) (fun a17 b18=>[(1,vP b1),(3,vI (a10)),(55,vB (a17))]) (fun a17 b18=>[dD b1 [vS (p0.1),v0,v1] 25]) ?_ ?_
    ·refine aH<|bQ rfl<|cM 0 rfl<|aA rfl<|eO h fun j32 h=>aD (aU rfl rfl (eZ rfl) rfl rfl j32) rfl<|aD (cB rfl rfl rfl rfl rfl) rfl<|oJ (v:=v1) (ds:=p0.2.2) aX (eZ rfl) fun us33=>?_
     refine c_ (bZ ((iY (bY (f:=aJ) (eZ rfl) j32.1 (by first|exact j32.2|simpa using j32.2))):aM _ _ (Sl aY ((at' us33 a10).1) ((at' p0.2.2 a10).2.1)))) ?_
     refine aD (tR (gv:=fun x=>x.1) rfl (eZ rfl) rfl rfl rfl xN ⟨j32.1,by first|exact j32.2|simpa using j32.2⟩) rfl<|cY (dB rfl) rfl<|aD (pF rfl rfl) rfl<|aA rfl ?_
     refine mW h rfl (fun _ h=>?_) fun _ h=>?_
     ·refine aC rfl<|aC rfl<|aC rfl<|aC rfl<|aC rfl<|aC rfl<|aC rfl<|aC rfl<|bO rfl<|aA rfl<|aC rfl<|aC rfl<|aC rfl<|aC rfl<|aC rfl<|aC rfl<|aC rfl<|aC rfl<|bO rfl<|aL ?_
      exact bS (true) () h SF (bK.refl _) (hI [3,4] rfl)
     refine aF rfl (bW rfl rfl rfl rfl rfl) rfl<|aF rfl (cI 0 rfl rfl rfl rfl rfl) rfl<|bM rfl<|eO h fun j35 h=>aF rfl (aU rfl rfl (dA 4 rfl) rfl rfl j35) rfl<|aF rfl (cB rfl rfl rfl rfl rfl) rfl ?_
     refine c_ (bZ ((iC (bY (f:=aJ) (Ck rfl) j35.1 (by first|exact j35.2|simpa using j35.2))):aM _ _ (Sl bA ((at' us33 a10).2) ((at' p0.2.2 a10).2.2)))) ?_
     refine aF rfl (tR (gv:=fun x=>x.2) rfl (Ck rfl) rfl rfl rfl jQ ⟨j35.1,by first|exact j35.2|simpa using j35.2⟩) rfl<|aF rfl (eX rfl (dB rfl) rfl) rfl<|aF rfl (pF rfl rfl) rfl<|bR rfl<|aA rfl ?_
     refine mW h rfl (fun _ h=>?_) fun _ h=>?_
     ·refine aC rfl<|aC rfl<|aC rfl<|aC rfl<|aC rfl<|aC rfl<|aC rfl<|aC rfl<|bO rfl<|aL ?_
      exact bS (true) () h SF (bK.refl _) (hI [4,5] rfl)
     refine aF rfl (bW rfl rfl rfl rfl rfl) rfl<|aF rfl (cI 0 rfl rfl rfl rfl rfl) rfl<|bM rfl<|eO h fun j37 h=>aF rfl (aU rfl rfl (dA 5 rfl) rfl rfl j37) rfl<|aF rfl (cB rfl rfl rfl rfl rfl) rfl<|aF rfl (eQ rfl (dA 5 rfl) rfl rfl rfl gG j37) rfl<|aF rfl (xA rfl rfl) rfl<|aF rfl (pF rfl rfl) rfl<|bR rfl<|aL ?_
     exact bS (decide ((100:Int)<((ByteArray.size ((at' p0.2.2 a10).1):Nat):Int))) () h SF (bK.refl _) (hI [4,5] rfl)
    intro a17 b18 h
    refine eY h rfl (fun _ h=>?_) fun _ h=>?_
    ·refine aT<|aB rfl<|aL<|aS<|aG<|bP<|aG<|aG<|bP<|aG ?_
     cases h
     exact vF rfl
    refine bJ<|aT<|aB rfl<|aL<|aP<|eH (lW p0 a10 (bH (gP U p0) k12)) (fun a22 b23=>[(1,vP b1),(3,vI (a10)),(4,vI (a22))]) (fun a22 b23=>[dD b1 [vS (p0.1),v0,v1] 25]) (0:Int) () h SF (bK.refl _) ?_
    intro k24 a22 b23 h
    refine aI<|aT<|aA rfl<|bQ rfl<|cM 0 rfl<|aA rfl<|eO h fun j25 h=>aD (aU rfl rfl (eZ rfl) rfl rfl j25) rfl<|aD (cB rfl rfl rfl rfl rfl) rfl<|oJ (v:=v1) (ds:=p0.2.2) aX (eZ rfl) fun us26=>?_
    refine c_ (bZ ((iC (bY (f:=aJ) (eZ rfl) j25.1 (by first|exact j25.2|simpa using j25.2))):aM _ _ (Sl bA ((at' us26 a10).2) ((at' p0.2.2 a10).2.2)))) ?_
    refine aD (tR (gv:=fun x=>x.2) rfl (eZ rfl) rfl rfl rfl jQ ⟨j25.1,by first|exact j25.2|simpa using j25.2⟩) rfl<|cY (dB rfl) rfl<|cZ rfl<|aL ?_
    refine fG h rfl (fun h=>?_) fun h=>?_
    ·refine bJ<|aI<|aP<|aT<|bQ rfl<|cM 0 rfl<|aA rfl<|eO h fun j28 h=>aD (aU rfl rfl (dA 4 rfl) rfl rfl j28) rfl<|aD (cB rfl rfl rfl rfl rfl) rfl<|aD (tR (gv:=fun x=>x.2) rfl (eZ rfl) rfl rfl rfl jQ ⟨j28.1,by first|exact j28.2|simpa using j28.2⟩) rfl<|aA rfl<|eO h fun j29 h=>aD (aU rfl rfl (dB rfl) rfl rfl j29) rfl<|aD (cB rfl rfl rfl rfl rfl) rfl<|oJ (v:=((at' us26 a10).2)) (ds:=((at' p0.2.2 a10).2.2)) cL (dB rfl) fun us30=>?_
     refine c_ (bZ ((bY (f:=cG) (eZ rfl) j29.1 (by first|exact j29.2|simpa using j29.2)):aM _ _ (Sl aY (at' us30 a22) ((at' ((at' p0.2.2 a10).2.2) a22).2)))) ?_
     refine aD (tR (gv:=fun x=>x) rfl (eZ rfl) rfl rfl rfl jE ⟨j29.1,by first|exact j29.2|simpa using j29.2⟩) rfl<|cY (dB rfl) rfl<|aD (pF rfl rfl) rfl<|aL ?_
     refine fG h rfl (fun h=>?_) fun h=>?_
     ·refine aT<|aB rfl<|aL<|aS<|bP<|aG<|aG<|bP<|bP<|aG<|aG<|bP<|aG ?_
      cases h
      exact vF rfl
     refine cS<|kB<|aH<|aA rfl<|cU rfl<|aB rfl<|aL ?_
     exact eK (wI .i64 (a22+(1:Int))) () h SF (bK.refl _) (hI [6,7] rfl)
    refine Dq<|sJ<|sJ<|GL<|kB ?_
    exact bS () (()) h SF (bK.refl _) (hI [3,4] rfl)
   intro a14 b15 h
   unfold tX at h
   refine aH<|aA rfl<|cU rfl<|aB rfl<|aL ?_
   exact AC (wI .i64 (a10+(1:Int))) () h SF rfl
  refine dY ?_
  exact bS () (()) h SF .nil (aO.refl _ _)
 intro a6 b7 h
 unfold tW at h
 refine aT<|aB rfl<|aL<|aS ?_
 cases h
 exact gU rfl
end Go.Proofs.YthnplbmmlbnelaaGreat
end
section
namespace Go.Gx
open Go Go.Sx
section
noncomputable section
inductive GV where
 |int (k:IntKind) (n:Int)
 |bool (b:Bool)
 |str (n len:Nat)
 |ptr (h off:Nat)
 |pnil
 |sl (h off len sz:Nat)
 |snil
 |map (h:Nat)
 |fn (f:FuncId) (first caps:List GV)
 |fnil
 |inil
 |agg (cs:List GV)
 |tup (vs:List GV)
 |un
 |bad
 |opn (h:Nat)
inductive GO where
 |cells (cs:List GV)
 |mp (es:List (GV×GV))
inductive Tr (α:Type) where
 |lf
 |nd (a:Option α) (l r:Tr α)
def ob {α β:Type} (o:Option α) (f:α->Option β):Option β:=Option.casesOn (motive:=fun _=>Option β) o none f
def Tr.get {α:Type} (t:Tr α):Nat->Option α:=Tr.rec (motive:=fun _=>Nat->Option α) (fun _=>none) (fun a _ _ gl gr n=>Bool.casesOn (motive:=fun _=>Option α) (Nat.beq n 0) (Bool.casesOn (motive:=fun _=>Option α) (Nat.beq (Nat.mod n 2) 1) (gr (Nat.sub (Nat.div n 2) 1)) (gl (Nat.div n 2))) a) t
def Aa {α:Type} (x:Option α) (f:Nat):Nat->Tr α:=Nat.rec (motive:=fun _=>Nat->Tr α) (fun _=> .lf) (fun _ ih n=>bif Nat.beq n 0 then .nd x .lf .lf else bif Nat.beq (Nat.mod n 2) 1 then .nd none (ih (Nat.div n 2)) .lf else .nd none .lf (ih (Nat.sub (Nat.div n 2) 1))) f
def Tr.set {α:Type} (x:Option α) (t:Tr α):Nat->Tr α:=Tr.rec (motive:=fun _=>Nat->Tr α) (fun n=>Aa x (Nat.succ n) n) (fun a l r sl sr n=>Bool.casesOn (motive:=fun _=>Tr α) (Nat.beq n 0) (Bool.casesOn (motive:=fun _=>Tr α) (Nat.beq (Nat.mod n 2) 1) (.nd a l (sr (Nat.sub (Nat.div n 2) 1))) (.nd a (sl (Nat.div n 2)) r)) (.nd x l r)) t
def CE {α R:Type} (x:Option α) (f:Nat):Nat->(Tr α->R)->R:=Nat.rec (motive:=fun _=>Nat->(Tr α->R)->R) (fun _ k=>k .lf) (fun _ ih n k=>Bool.casesOn (motive:=fun _=>R) (Nat.beq n 0) (Bool.casesOn (motive:=fun _=>R) (Nat.beq (Nat.mod n 2) 1) (ih (Nat.sub (Nat.div n 2) 1) fun t=>k (.nd none .lf t)) (ih (Nat.div n 2) fun t=>k (.nd none t .lf))) (k (.nd x .lf .lf))) f
def Tr.setK {α R:Type} (x:Option α) (t:Tr α):Nat->(Tr α->R)->R:=Tr.rec (motive:=fun _=>Nat->(Tr α->R)->R) (fun n k=>CE x (Nat.succ n) n k) (fun a l r sl sr n k=>Bool.casesOn (motive:=fun _=>R) (Nat.beq n 0) (Bool.casesOn (motive:=fun _=>R) (Nat.beq (Nat.mod n 2) 1) (sr (Nat.sub (Nat.div n 2) 1) fun t=>k (.nd a l t)) (sl (Nat.div n 2) fun t=>k (.nd a t r))) (k (.nd x l r))) t
def sn {α:Type} (n:Nat) (f:Nat->α):α:=Nat.rec (motive:=fun _=>α) (f 0) (fun m _=>f (Nat.succ m)) n
def fi {α:Type} (z:Int) (f:Int->α):α:=Int.casesOn (motive:=fun _=>α) z (fun a=>sn a fun a=>f (.ofNat a)) (fun a=>sn a fun a=>f (.negSucc a))
def fb (b:Bool):Option GV:=Bool.casesOn (motive:=fun _=>Option GV) b (some (.bool false)) (some (.bool true))
structure GH where
 n:Nat
 t:Tr (Nat×GO)
def GH.get (H:GH) (h:Nat):Option GO:=ob (H.t.get h) fun p=>some p.2
def GH.ver (H:GH) (h:Nat):Option Nat:=ob (H.t.get h) fun p=>some p.1
def GH.set (H:GH) (h:Nat) (o:GO):GH:=⟨Nat.succ H.n,H.t.set (some (H.n,o)) h⟩
def GH.del (H:GH) (h:Nat):GH:=⟨H.n,H.t.set none h⟩
def GH.newK {α:Type} (H:GH) (o:GO) (f:Nat->GH->α):α:=sn H.n fun n=>H.t.setK (some (n,o)) n fun t=>sn (Nat.succ n) fun m=>f n ⟨m,t⟩
def GH.setK {α:Type} (H:GH) (h:Nat) (o:GO) (f:GH->α):α:=sn H.n fun n=>H.t.setK (some (n,o)) h fun t=>sn (Nat.succ n) fun m=>f ⟨m,t⟩
def GH.delK {α:Type} (H:GH) (h:Nat) (f:GH->α):α:=H.t.setK none h fun t=>f ⟨H.n,t⟩
def SA (o:GO):Option (List GV):=GO.casesOn (motive:=fun _=>Option (List GV)) o (fun cs=>some cs) (fun _=>none)
def GO.asM (o:GO):Option (List (GV×GV)):=GO.casesOn (motive:=fun _=>Option (List (GV×GV))) o (fun _=>none) (fun es=>some es)
def GH.cells (H:GH) (h:Nat):Option (List GV):=ob (H.get h) SA
abbrev GF:=List (Nat×GV)
def BG (σ:GF) (t:Nat):Option GV:=List.rec (motive:=fun _=>Option GV) none (fun p _ ih=>Bool.casesOn (motive:=fun _=>Option GV) (Nat.beq t p.1) ih (some p.2)) σ
def TQ (a b:Int):Bool:=Int.casesOn (motive:=fun _=>Bool) a (fun a=>Int.casesOn (motive:=fun _=>Bool) b (fun b=>Nat.blt a b) (fun _=>false)) (fun a=>Int.casesOn (motive:=fun _=>Bool) b (fun _=>true) (fun b=>Nat.blt b a))
def Uz (a b:Int):Bool:=Int.casesOn (motive:=fun _=>Bool) a (fun a=>Int.casesOn (motive:=fun _=>Bool) b (fun b=>Nat.beq a b) (fun _=>false)) (fun a=>Int.casesOn (motive:=fun _=>Bool) b (fun _=>false) (fun b=>Nat.beq a b))
def SI (a:Int):Option Nat:=Int.casesOn (motive:=fun _=>Option Nat) a (fun a=>some a) (fun _=>none)
def Qg (a b:Nat×Nat):Bool:=bif Nat.beq a.2 b.2 then Nat.beq a.1 b.1 else false
def LA (a b:Bool):Bool:=Bool.casesOn (motive:=fun _=>Bool) a (Bool.casesOn (motive:=fun _=>Bool) b true false) b
def Dn {α:Type} (l:List α):Nat->Option α:=List.rec (motive:=fun _=>Nat->Option α) (fun _=>none) (fun x _ ih n=>Nat.casesOn (motive:=fun _=>Option α) n (some x) ih) l
def Ri {α:Type} (v:α) (l:List α):Nat->Option (List α):=List.rec (motive:=fun _=>Nat->Option (List α)) (fun _=>none) (fun x r ih n=>Nat.casesOn (motive:=fun _=>Option (List α)) n (some (v::r)) (fun n=>ob (ih n) fun r'=>some (x::r'))) l
def CO (vs:List GV):Nat->List GV->Option (List GV):=List.rec (motive:=fun _=>Nat->List GV->Option (List GV)) (fun _ cs=>some cs) (fun v _ ih o cs=>ob (Ri v cs o) fun cs'=>sn (Nat.succ o) fun o'=>ih o' cs') vs
def tk {α:Type} (l:List α):Nat->Option (List α):=List.rec (motive:=fun _=>Nat->Option (List α)) (fun n=>Nat.casesOn (motive:=fun _=>Option (List α)) n (some []) (fun _=>none)) (fun x _ ih n=>Nat.casesOn (motive:=fun _=>Option (List α)) n (some []) (fun n=>ob (ih n) fun r=>some (x::r))) l
def dp {α:Type} (l:List α):Nat->Option (List α):=List.rec (motive:=fun _=>Nat->Option (List α)) (fun n=>Nat.casesOn (motive:=fun _=>Option (List α)) n (some []) (fun _=>none)) (fun x r ih n=>Nat.casesOn (motive:=fun _=>Option (List α)) n (some (x::r)) ih) l
def UF {α:Type} (l:List α) (o n:Nat):Option (List α):=ob (dp l o) fun r=>tk r n
def jX (l:List UInt8):Nat:=List.rec (motive:=fun _=>Nat) 0 (fun b _ ih=>Nat.add b.toNat (Nat.mul 256 ih)) l
def bI (s:ByteArray):List UInt8:=s.data.toList
def GV.asI (v:GV):Option (IntKind×Int):=GV.casesOn (motive_1:=fun _=>Option (IntKind×Int)) v (fun a0 a1=>some (a0,a1)) (fun _=>none) (fun _ _=>none) (fun _ _=>none) none (fun _ _ _ _=>none) none (fun _=>none) (fun _ _ _=>none) none none (fun _=>none) (fun _=>none) none none (fun _=>none)
def GV.asB (v:GV):Option (Bool):=GV.casesOn (motive_1:=fun _=>Option (Bool)) v (fun _ _=>none) (fun a0=>some a0) (fun _ _=>none) (fun _ _=>none) none (fun _ _ _ _=>none) none (fun _=>none) (fun _ _ _=>none) none none (fun _=>none) (fun _=>none) none none (fun _=>none)
def GV.asP (v:GV):Option (Nat×Nat):=GV.casesOn (motive_1:=fun _=>Option (Nat×Nat)) v (fun _ _=>none) (fun _=>none) (fun _ _=>none) (fun a0 a1=>some (a0,a1)) none (fun _ _ _ _=>none) none (fun _=>none) (fun _ _ _=>none) none none (fun _=>none) (fun _=>none) none none (fun _=>none)
def GV.asS (v:GV):Option (Nat×Nat×Nat×Nat):=GV.casesOn (motive_1:=fun _=>Option (Nat×Nat×Nat×Nat)) v (fun _ _=>none) (fun _=>none) (fun _ _=>none) (fun _ _=>none) none (fun a0 a1 a2 a3=>some (a0,a1,a2,a3)) none (fun _=>none) (fun _ _ _=>none) none none (fun _=>none) (fun _=>none) none none (fun _=>none)
def GV.asF (v:GV):Option (Nat×List GV×List GV):=GV.casesOn (motive_1:=fun _=>Option (Nat×List GV×List GV)) v (fun _ _=>none) (fun _=>none) (fun _ _=>none) (fun _ _=>none) none (fun _ _ _ _=>none) none (fun _=>none) (fun a0 a1 a2=>some (a0,a1,a2)) none none (fun _=>none) (fun _=>none) none none (fun _=>none)
def GV.asT (v:GV):Option (List GV):=GV.casesOn (motive_1:=fun _=>Option (List GV)) v (fun _ _=>none) (fun _=>none) (fun _ _=>none) (fun _ _=>none) none (fun _ _ _ _=>none) none (fun _=>none) (fun _ _ _=>none) none none (fun _=>none) (fun a0=>some a0) none none (fun _=>none)
def GV.asStr (v:GV):Option (Nat×Nat):=GV.casesOn (motive_1:=fun _=>Option (Nat×Nat)) v (fun _ _=>none) (fun _=>none) (fun a0 a1=>some (a0,a1)) (fun _ _=>none) none (fun _ _ _ _=>none) none (fun _=>none) (fun _ _ _=>none) none none (fun _=>none) (fun _=>none) none none (fun _=>none)
def GV.asM (v:GV):Option (Nat):=GV.casesOn (motive_1:=fun _=>Option (Nat)) v (fun _ _=>none) (fun _=>none) (fun _ _=>none) (fun _ _=>none) none (fun _ _ _ _=>none) none (fun a0=>some a0) (fun _ _ _=>none) none none (fun _=>none) (fun _=>none) none none (fun _=>none)
def GV.asA (v:GV):Option (List GV):=GV.casesOn (motive_1:=fun _=>Option (List GV)) v (fun _ _=>none) (fun _=>none) (fun _ _=>none) (fun _ _=>none) none (fun _ _ _ _=>none) none (fun _=>none) (fun _ _ _=>none) none none (fun a0=>some a0) (fun _=>none) none none (fun _=>none)
def GV.cells (v:GV):Option (List GV):=GV.casesOn (motive_1:=fun _=>Option (List GV)) v (fun a0 a1=>some [GV.int a0 a1]) (fun a0=>some [GV.bool a0]) (fun a0 a1=>some [GV.str a0 a1]) (fun a0 a1=>some [GV.ptr a0 a1]) (some [GV.pnil]) (fun a0 a1 a2 a3=>some [GV.sl a0 a1 a2 a3]) (some [GV.snil]) (fun a0=>some [GV.map a0]) (fun a0 a1 a2=>some [GV.fn a0 a1 a2]) (some [GV.fnil]) (some [GV.inil]) (fun a0=>some a0) (fun a0=>none) (none) (none) (fun a0=>none)
def GV.isSnil (v:GV):Bool:=GV.casesOn (motive_1:=fun _=>Bool) v (fun _ _=>false) (fun _=>false) (fun _ _=>false) (fun _ _=>false) (false) (fun _ _ _ _=>false) (true) (fun _=>false) (fun _ _ _=>false) (false) (false) (fun _=>false) (fun _=>false) (false) (false) (fun _=>false)
def GV.isInil (v:GV):Bool:=GV.casesOn (motive_1:=fun _=>Bool) v (fun _ _=>false) (fun _=>false) (fun _ _=>false) (fun _ _=>false) (false) (fun _ _ _ _=>false) (false) (fun _=>false) (fun _ _ _=>false) (false) (true) (fun _=>false) (fun _=>false) (false) (false) (fun _=>false)
def GV.nilck (v:GV):Option GV:=GV.casesOn (motive_1:=fun _=>Option GV) v (fun a0 a1=>none) (fun a0=>none) (fun a0 a1=>none) (fun a0 a1=>some (GV.ptr a0 a1)) (none) (fun a0 a1 a2 a3=>none) (none) (fun a0=>none) (fun a0 a1 a2=>some (GV.fn a0 a1 a2)) (none) (none) (fun a0=>none) (fun a0=>none) (none) (none) (fun a0=>none)
def tdE (d:TypeDesc):Bool:=TypeDesc.casesOn (motive:=fun _=>Bool) d false false (fun _=>false) (fun _=>false) (fun _=>false) false false (fun _=>false) (fun _=>false) (fun _ _=>false) (fun _ _=>false) (fun _ _=>false) (fun _=>false) (fun _ _ _=>false) (fun a0=>Nat.beq (Array.size a0) 0) (fun _=>false) (fun _ _=>false)
def Qj (d:TypeDesc):Option TypeId:=TypeDesc.casesOn (motive:=fun _=>Option TypeId) d none none (fun _=>none) (fun _=>none) (fun _=>none) none none (fun _=>none) (fun a0=>some a0) (fun _ _=>none) (fun _ _=>none) (fun _ _=>none) (fun _=>none) (fun _ _ _=>none) (fun _=>none) (fun _=>none) (fun _ _=>none)
def Ur (d:TypeDesc):Option (Nat×TypeId):=TypeDesc.casesOn (motive:=fun _=>Option (Nat×TypeId)) d none none (fun _=>none) (fun _=>none) (fun _=>none) none none (fun _=>none) (fun _=>none) (fun a0 a1=>some (a0,a1)) (fun _ _=>none) (fun _ _=>none) (fun _=>none) (fun _ _ _=>none) (fun _=>none) (fun _=>none) (fun _ _=>none)
def Wh (d:TypeDesc):Option (Array Field):=TypeDesc.casesOn (motive:=fun _=>Option (Array Field)) d none none (fun _=>none) (fun _=>none) (fun _=>none) none none (fun _=>none) (fun _=>none) (fun _ _=>none) (fun _ _=>none) (fun _ _=>none) (fun a0=>some a0) (fun _ _ _=>none) (fun _=>none) (fun _=>none) (fun _ _=>none)
def Qi (d:TypeDesc):Option IntKind:=TypeDesc.casesOn (motive:=fun _=>Option IntKind) d none none (fun a0=>some a0) (fun _=>none) (fun _=>none) none none (fun _=>none) (fun _=>none) (fun _ _=>none) (fun _ _=>none) (fun _ _=>none) (fun _=>none) (fun _ _ _=>none) (fun _=>none) (fun _=>none) (fun _ _=>none)
def Ep (d:TypeDesc):Bool:=TypeDesc.casesOn (motive:=fun _=>Bool) d false false (fun _=>false) (fun _=>false) (fun _=>false) (true) false (fun _=>false) (fun _=>false) (fun _ _=>false) (fun _ _=>false) (fun _ _=>false) (fun _=>false) (fun _ _ _=>false) (fun _=>false) (fun _=>false) (fun _ _=>false)
def VU (d:TypeDesc):Bool:=TypeDesc.casesOn (motive:=fun _=>Bool) d false (true) (fun _=>false) (fun _=>false) (fun _=>false) false false (fun _=>false) (fun _=>false) (fun _ _=>false) (fun _ _=>false) (fun _ _=>false) (fun _=>false) (fun _ _ _=>false) (fun _=>false) (fun _=>false) (fun _ _=>false)
def YR (d:TypeDesc):Option (TypeId×TypeId):=TypeDesc.casesOn (motive:=fun _=>Option (TypeId×TypeId)) d none none (fun _=>none) (fun _=>none) (fun _=>none) none none (fun _=>none) (fun _=>none) (fun _ _=>none) (fun a0 a1=>some (a0,a1)) (fun _ _=>none) (fun _=>none) (fun _ _ _=>none) (fun _=>none) (fun _=>none) (fun _ _=>none)
def No:Value->Option GV
 | .int k n=>some (.int k n)
 | .bool b=>some (.bool b)
 | .slice none 0 0=>some .snil
 | .pointer none=>some .pnil
 | .nilFunc=>some .fnil
 | .nilIface=>some .inil
 | .string s=>sn (jX (bI s)) fun n=>sn (bI s).length fun l=>some (.str n l)
 |_=>none
def Rm:nT->Option (List GV)
 | []=>some []
 |v::vs=>ob (No v) fun x=>ob (Rm vs) fun xs=>some (x::xs)
def Vf:Value->Option GV
 | .agg cs=>ob (Rm cs.toList) fun xs=>some (.agg xs)
 |v=>No v
def DO (s:Sem Value):Option GV:=match s with
 | .pure v=>No v
 |_=>none
def OS (z:Int):Bool:=Int.casesOn (motive:=fun _=>Bool) z (fun a=>Nat.blt a 9223372036854775808) (fun a=>Nat.blt a 9223372036854775808)
def Sd (k:IntKind):Bool:=IntKind.casesOn (motive:=fun _=>Bool) k false false false true false false false false
def gw (k:IntKind) (z:Int):Option GV:=fi z fun z=>bif Sd k then(bif OS z then some (.int k z)else none)else fi (k.wrap z) fun z=>some (.int k z)
def UA (a b:IntKind):Bool:=decide (a=b)
def UO (op:BinOp) (k:IntKind) (a b:Int):Option GV:=BinOp.casesOn (motive:=fun _=>Option GV) op (gw k (a+b)) (gw k (a - b)) (DO (binOp .mul 0 (.int k a) (.int k b))) (DO (binOp .quo 0 (.int k a) (.int k b))) (DO (binOp .rem 0 (.int k a) (.int k b))) (DO (binOp .and 0 (.int k a) (.int k b))) (DO (binOp .or 0 (.int k a) (.int k b))) (DO (binOp .xor 0 (.int k a) (.int k b))) (DO (binOp .shl 0 (.int k a) (.int k b))) (DO (binOp .shr 0 (.int k a) (.int k b))) (DO (binOp .andNot 0 (.int k a) (.int k b))) (fb (Uz a b)) (fb (!Uz a b)) (fb (TQ a b)) (fb (!TQ b a)) (fb (TQ b a)) (fb (!TQ a b))
def EM (op:BinOp):Bool:=BinOp.casesOn (motive:=fun _=>Bool) op false false false false false false false false true true false false false false false false false
def Ts (a b:Nat×Nat):Option GV:=bif Nat.blt (Nat.add a.2 b.2) 16777216 then sn (Nat.add a.1 (Nat.mul (Nat.pow 2 (Nat.mul 8 a.2)) b.1)) fun n=>sn (Nat.add a.2 b.2) fun l=>some (.str n l)else none
def WP (op:BinOp) (a b:Nat×Nat):Option GV:=BinOp.casesOn (motive:=fun _=>Option GV) op (Ts a b) none none none none none none none none none none (fb (Qg a b)) (fb (!Qg a b)) none none none none
def WO (op:BinOp):Option GV:=BinOp.casesOn (motive:=fun _=>Option GV) op none none none none none none none none none none none (some (.bool true)) (some (.bool false)) none none none none
def Qt (op:BinOp) (a b:Bool):Option GV:=BinOp.casesOn (motive:=fun _=>Option GV) op none none none none none none none none none none none (fb (LA a b)) (fb (!LA a b)) none none none none
def hN (σ:GF) (o:Operand):Option GV:=Operand.casesOn (motive:=fun _=>Option GV) o (fun t=>BG σ t) Vf (fun _=>none) (fun f=>some (.fn f [] []))
def Ci (σ:GF) (l:List Operand):Option (List GV):=List.rec (motive:=fun _=>Option (List GV)) (some []) (fun x _ ih=>ob (hN σ x) fun v=>ob ih fun vs=>some (v::vs)) l
def rD (σ:GF) (l:List (Nat×Operand)):Option (List (Nat×GV)):=List.rec (motive:=fun _=>Option (List (Nat×GV))) (some []) (fun p _ ih=>ob (hN σ p.2) fun v=>ob ih fun vs=>some ((p.1,v)::vs)) l
abbrev TB:=Nat->Option Ty
def xF (tb:TB) (T:TypeId):Option (TypeId×Ty):=ob (tb T) fun t=>ob (Qj t.desc) fun e=>ob (tb e) fun te=>some (e,te)
def Ir (tb:TB) (l:List Field):Option (List (Nat×Nat)):=List.rec (motive:=fun _=>Option (List (Nat×Nat))) (some []) (fun f _ ih=>ob (tb f.type) fun t=>ob ih fun r=>some ((f.offset,t.size)::r)) l
def nI (tb:TB) (T:TypeId):Option (List Field):=ob (tb T) fun t=>ob (Wh t.desc) fun fs=>some fs.toList
def Jt (tb:TB) (T:TypeId):Option (List (Nat×Nat)):=ob (nI tb T) fun fs=>Ir tb fs
abbrev OR:=Option (GV×GH)
def mV (c a b:GV):Option GV:=ob c.asB fun q=>Bool.casesOn (motive:=fun _=>Option GV) q (some b) (some a)
def QY (v:GV):Option Nat:=bif v.isSnil then some 0 else ob v.asS fun s=>some s.2.2.1
def KN (t:Ty) (a b:GV):Option Bool:=Option.casesOn (motive:=fun _=>Option Bool) a.asI (Option.casesOn (motive:=fun _=>Option Bool) a.asStr (ob a.asB fun x=>ob b.asB fun y=>bif VU t.desc then some (LA x y)else none) fun x=>ob b.asStr fun y=>bif Ep t.desc then some (Qg x y)else none) fun x=>ob b.asI fun y=>ob (Qi t.desc) fun _=>bif UA x.1 y.1 then some (Uz x.2 y.2)else none
def QO (tb:TB) (cs ds:List GV) (fs:List Field):Option Bool:=List.rec (motive:=fun _=>Option Bool) (some true) (fun f _ ih=>ob (tb f.type) fun t=>ob (Dn cs f.offset) fun a=>ob (Dn ds f.offset) fun b=>ob (KN t a b) fun q=>bif q then ih else some false) fs
def BK (t:Ty):Bool:=bif VU t.desc then true else bif Ep t.desc then true else Option.casesOn (motive:=fun _=>Bool) (Qi t.desc) false fun _=>true
def tY (tb:TB) (fs:List Field):Bool:=List.rec (motive:=fun _=>Bool) true (fun f _ ih=>Option.casesOn (motive:=fun _=>Bool) (tb f.type) false fun t=>bif BK t then ih else false) fs
def GW (T:Nat):Bool:=bif Nat.blt 31 T then Nat.blt T 512 else false
def PW (tb:TB) (op:BinOp) (T:TypeId) (v u:GV):Option GV:=Option.casesOn (motive:=fun _=>Option GV) v.asA (bif u.isSnil then ob (QY v) fun _=>ob (tb T) fun t=>ob (Qj t.desc) fun _=>Qt op v.isSnil true else none) fun cs=>ob u.asA fun ds=>bif GW T then ob (nI tb T) fun fs=>bif tY tb fs then ob (QO tb cs ds fs) fun q=>Qt op q true else none else none
def yP (tb:TB) (op:BinOp) (T:TypeId) (v u:GV):Option GV:=
 Option.casesOn (motive:=fun _=>Option GV) v.asI
  (Option.casesOn (motive:=fun _=>Option GV) v.asStr (Option.casesOn (motive:=fun _=>Option GV) v.asB (bif v.isInil then(bif u.isInil then ob (tb T) fun t=>bif tdE t.desc then WO op else none else none)else PW tb op T v u) fun a=>ob u.asB fun b=>ob (tb T) fun t=>bif VU t.desc then Qt op a b else none) fun a=>ob u.asStr fun b=>WP op a b)
  fun a=>ob u.asI fun b=>bif EM op then DO (binOp op 0 (.int a.1 a.2) (.int b.1 b.2))else bif UA a.1 b.1 then UO op a.1 a.2 b.2 else none
def NA (op:UnOp) (v:GV):Option GV:=UnOp.casesOn (motive:=fun _=>Option GV) op (ob v.asI fun a=>gw a.1 (0 - a.2)) none (ob v.asB fun b=>fb (!b)) none
def Sr (tb:TB) (S D:TypeId) (v:GV):Option GV:=ob v.asI fun a=>ob (tb S) fun s=>ob (Qi s.desc) fun _=>ob (tb D) fun t=>ob (Qi t.desc) fun k=>fi (k.wrap a.2) fun z=>some (.int k z)
def vB (o:Option GV) (d:Nat):Option Nat:=Option.casesOn (motive:=fun _=>Option Nat) o (some d) fun v=>ob v.asI fun a=>SI a.2
def RU (s:Nat×Nat) (l h:Nat):Option GV:=bif Nat.ble l h then(bif Nat.ble h s.2 then sn (Nat.mod (Nat.shiftRight s.1 (Nat.mul 8 l)) (Nat.pow 2 (Nat.mul 8 (Nat.sub h l)))) fun n=>sn (Nat.sub h l) fun k=>some (.str n k)else none)else none
def RQ (s:Nat×Nat×Nat×Nat) (sz l h:Nat):Option GV:=bif Nat.beq sz s.2.2.2 then(bif Nat.ble l h then(bif Nat.ble h s.2.2.1 then sn (Nat.add s.2.1 (Nat.mul l sz)) fun o=>sn (Nat.sub h l) fun k=>some (.sl s.1 o k sz)else none)else none)else none
def RR (p:Nat×Nat) (n sz l h:Nat):Option GV:=bif Nat.ble l h then(bif Nat.ble h n then(bif Nat.beq sz 0 then none else sn (Nat.add p.2 (Nat.mul l sz)) fun o=>sn (Nat.sub h l) fun k=>some (.sl p.1 o k sz))else none)else none
def AA (tb:TB) (T:TypeId) (v:GV) (lo hi:Option GV) (H:GH):Option GV:=ob (vB lo 0) fun l=>ob (tb T) fun t=>
 Option.casesOn (motive:=fun _=>Option GV) v.asStr
  (Option.casesOn (motive:=fun _=>Option GV) v.asS
   (Bool.casesOn (motive:=fun _=>Option GV) v.isSnil (ob v.asP fun p=>ob (Ur t.desc) fun e=>ob (tb e.2) fun te=>ob (vB hi e.1) fun h=>ob (H.cells p.1) fun cs=>bif Nat.ble (Nat.add p.2 (Nat.mul e.1 te.size)) cs.length then RR p e.1 te.size l h else none) (ob (Qj t.desc) fun e=>ob (tb e) fun te=>ob (vB hi 0) fun h=>bif Nat.beq l 0 then(bif Nat.beq h 0 then some .snil else none)else none))
   fun s=>ob (Qj t.desc) fun e=>ob (tb e) fun te=>ob (vB hi s.2.2.1) fun h=>RQ s te.size l h)
  fun s=>ob (vB hi s.2) fun h=>bif Ep t.desc then RU s l h else none
def Az (tb:TB) (T:TypeId) (f:Nat) (v:GV):Option GV:=ob v.asP fun p=>ob (nI tb T) fun fs=>ob (Dn fs f) fun q=>ob (tb q.type) fun tq=>bif Nat.beq tq.size 0 then none else sn (Nat.add p.2 q.offset) fun o=>some (.ptr p.1 o)
def yX (t:Ty) (cs:List GV) (o:Nat):Option GV:=bif xO t.desc then ob (UF cs o t.size) fun r=>some (.agg r)else Dn cs o
def Ss (tb:TB) (T:TypeId) (f:Nat) (v:GV):Option GV:=ob v.asA fun cs=>ob (nI tb T) fun fs=>ob (Dn fs f) fun q=>ob (tb q.type) fun tq=>yX tq cs q.offset
def RO (tb:TB) (T:TypeId) (s:Nat×Nat×Nat×Nat) (i:Nat):Option GV:=ob (xF tb T) fun te=>bif Nat.blt i s.2.2.1 then sn (Nat.add s.2.1 (Nat.mul i te.2.size)) fun o=>some (.ptr s.1 o)else none
def RN (tb:TB) (T:TypeId) (p:Nat×Nat) (i:Nat):Option GV:=ob (tb T) fun t=>ob (Ur t.desc) fun e=>ob (tb e.2) fun te=>bif Nat.blt i e.1 then sn (Nat.add p.2 (Nat.mul i te.size)) fun o=>some (.ptr p.1 o)else none
def Li (tb:TB) (T:TypeId) (v w:GV):Option GV:=ob w.asI fun n=>ob (SI n.2) fun n=>Option.casesOn (motive:=fun _=>Option GV) v.asP (ob v.asS fun s=>RO tb T s n) fun p=>RN tb T p n
def Sp (tb:TB) (T:TypeId) (v w:GV):Option GV:=ob v.asStr fun s=>ob w.asI fun n=>ob (SI n.2) fun n=>ob (tb T) fun t=>bif Ep t.desc then(bif Nat.blt n s.2 then sn (Nat.mod (Nat.shiftRight s.1 (Nat.mul 8 n)) 256) fun b=>some (.int .u8 (.ofNat b))else none)else none
def Ut (i:Nat) (v:GV):Option GV:=ob v.asT fun vs=>Dn vs i
def KE (ps:Dj) (l:List (Nat×GV)):List GV->Option (List GV):=List.rec (motive:=fun _=>List GV->Option (List GV)) (fun cs=>some cs) (fun p _ ih cs=>ob (Dn ps p.1) fun q=>ob p.2.cells fun cc=>bif Nat.beq cc.length q.2 then(bif Nat.beq q.2 0 then none else ob (CO cc q.1 cs) ih)else none) l
def DG (sz:Nat) (l:List (Nat×GV)):List GV->Option (List GV):=List.rec (motive:=fun _=>List GV->Option (List GV)) (fun cs=>some cs) (fun p _ ih cs=>ob p.2.cells fun cc=>bif Nat.beq cc.length sz then(bif Nat.beq sz 0 then none else ob (CO cc (Nat.mul p.1 sz) cs) ih)else none) l
def zG (tb:TB) (T:TypeId):Option (List GV):=ob (tb T) fun t=>ob (Vf t.zero) fun z=>z.cells
def Lg (tb:TB) (T:TypeId) (vs:List (Nat×GV)):Option GV:=ob (tb T) fun t=>ob (zG tb T) fun zc=>Option.casesOn (motive:=fun _=>Option GV) (Wh t.desc) (ob (Ur t.desc) fun e=>ob (tb e.2) fun te=>ob (DG te.size vs zc) fun cs=>some (.agg cs)) fun _=>ob (Jt tb T) fun pl=>ob (KE pl vs zc) fun cs=>some (.agg cs)
def Lj (tb:TB) (T:TypeId) (v:GV):Option GV:=ob (tb T) fun t=>Option.casesOn (motive:=fun _=>Option GV) v.asStr (ob (Qj t.desc) fun _=>ob (QY v) fun n=>some (.int .i64 (.ofNat n))) fun s=>bif Ep t.desc then some (.int .i64 (.ofNat s.2))else none
def VY (tb:TB) (T:TypeId) (v:GV):Option GV:=ob (tb T) fun t=>ob (Qj t.desc) fun _=>bif v.isSnil then some (.int .i64 (.ofNat 0))else none
def Qb (v u:GV):Option GV:=ob v.asI fun a=>ob u.asI fun b=>bif UA a.1 b.1 then(bif TQ a.2 b.2 then some u else some v)else none
def RP (v u:GV):Option GV:=ob v.asI fun a=>ob u.asI fun b=>bif UA a.1 b.1 then(bif TQ b.2 a.2 then some u else some v)else none
def tJ (tb:TB) (T:TypeId) (v:GV) (H:GH):Option GV:=ob v.asP fun p=>ob (H.cells p.1) fun cs=>ob (tb T) fun t=>yX t cs p.2
def qG (tb:TB) (T:TypeId) (v u:GV) (H:GH):OR:=ob v.asP fun p=>ob (H.cells p.1) fun cs=>ob (tb T) fun t=>ob u.cells fun uc=>bif Nat.beq uc.length t.size then bif Nat.beq t.size 0 then none else ob (CO uc p.2 cs) fun cs'=>H.setK p.1 (.cells cs') fun H'=>some (.un,H')else none
def Dk (v:GV) (H:GH):OR:=ob v.cells fun vc=>H.newK (.cells vc) fun h H'=>some (.ptr h 0,H')
def oO (tb:TB) (T:TypeId) (H:GH):OR:=ob (zG tb T) fun zc=>H.newK (.cells zc) fun h H'=>some (.ptr h 0,H')
def Kd (z:List GV) (n:Nat):List GV:=Nat.rec (motive:=fun _=>List GV) [] (fun _ ih=>z++ih) n
def fc {R:Type} (a:List GV):(List GV->R)->R:=List.rec (motive:=fun _=>(List GV->R)->R) (fun k=>k []) (fun x _ ih k=>ih fun r=>k (x::r)) a
def x_ (tb:TB) (T:TypeId) (n:Nat) (vs:List (Nat×GV)) (H:GH):OR:=ob (xF tb T) fun te=>ob (zG tb te.1) fun zc=>bif Nat.beq zc.length te.2.size then(bif Nat.blt (Nat.mul n te.2.size) 16777216 then(bif Nat.beq te.2.size 0 then none else ob (DG te.2.size vs (Kd zc n)) fun cs=>H.newK (.cells cs) fun h H'=>some (.sl h 0 n te.2.size,H'))else none)else none
def JN (tb:TB) (T:TypeId) (v u:GV) (H:GH):OR:=ob (xF tb T) fun te=>ob (zG tb te.1) fun zc=>ob v.asI fun k=>ob u.asI fun c=>bif Uz k.2 c.2 then ob (SI k.2) fun k=>(bif Nat.beq zc.length te.2.size then(bif Nat.blt (Nat.mul k te.2.bytes) 16777216 then(bif Nat.blt k 16777216 then(bif Nat.beq te.2.size 0 then none else fc (Kd zc k) fun l=>H.newK (.cells l) fun h H'=>some (.sl h 0 k te.2.size,H'))else none)else none)else none)else none
def YM {R:Type} (a b:List GV):(List GV->R)->R:=List.rec (motive:=fun _=>(List GV->R)->R) (fun k=>k b) (fun x _ ih k=>ih fun r=>k (x::r)) a
def xQ (H:GH) (sz:Nat) (v:GV):Option (Nat×List GV):=bif v.isSnil then some (0,[])else ob v.asS fun s=>bif Nat.beq s.2.2.2 sz then ob (H.cells s.1) fun cs=>ob (UF cs s.2.1 (Nat.mul s.2.2.1 sz)) fun r=>some (s.2.2.1,r)else none
def KA (H:GH) (v:GV):GH:=Option.casesOn (motive:=fun _=>GH) v.asS H fun s=>H.del s.1
def OI (H:GH) (v:GV) (f:GH->OR):OR:=Option.casesOn (motive:=fun _=>OR) v.asS (f H) fun s=>H.delK s.1 f
def PT (tb:TB) (T T':TypeId) (v u:GV) (H:GH):OR:=bif v.isSnil then ob (xF tb T) fun te=>ob (tb T') fun t'=>ob (Qi t'.desc) fun _=>ob (zG tb te.1) fun zc=>ob u.asI fun k=>ob (SI k.2) fun n=>bif Nat.beq zc.length te.2.size then(bif Nat.blt (Nat.mul n (Nat.add te.2.bytes 1)) 16777216 then(bif Nat.beq te.2.size 0 then none else(bif Nat.beq n 0 then none else fc (Kd zc n) fun l=>H.newK (.cells l) fun h H'=>some (.sl h 0 n te.2.size,H')))else none)else none else none
def Nw (tb:TB) (T T':TypeId) (v u:GV) (H:GH):OR:=bif Nat.beq T T' then ob (xF tb T) fun te=>bif Nat.beq te.2.size 0 then none else ob (zG tb te.1) fun zc=>bif Nat.beq zc.length te.2.size then ob (xQ H te.2.size v) fun p=>ob (xQ H te.2.size u) fun q=>Nat.casesOn (motive:=fun _=>OR) q.1 (some (v,H)) (fun _=>sn (Nat.add p.1 q.1) fun n=>bif Nat.blt (Nat.mul n (Nat.add te.2.bytes 1)) 16777216 then YM p.2 q.2 fun l=>OI H v fun H1=>H1.newK (.cells l) fun h H'=>some (.sl h 0 n te.2.size,H')else none)else none else PT tb T T' v u H
def PY (tb:TB) (T:TypeId) (v u:GV) (H:GH):OR:=ob v.asS fun s=>ob u.asS fun r=>ob (xF tb T) fun te=>bif Nat.beq s.2.2.2 te.2.size then(bif Nat.beq r.2.2.2 te.2.size then(bif Nat.beq r.2.2.1 s.2.2.1 then ob (H.cells r.1) fun cs=>ob (UF cs r.2.1 (Nat.mul r.2.2.1 te.2.size)) fun xs=>ob (H.cells s.1) fun ds=>List.casesOn (motive:=fun _=>OR) xs none (fun _ _=>ob (CO xs s.2.1 ds) fun ds'=>H.setK s.1 (.cells ds') fun H'=>some (.int .i64 (.ofNat r.2.2.1),H'))else none)else none)else none
def zY (H:GH):OR:=H.newK (.mp []) fun h H'=>some (.map h,H')
def LK (a b:GV):Option Bool:=Option.casesOn (motive:=fun _=>Option Bool) a.asI (ob a.asStr fun x=>ob b.asStr fun y=>some (Qg x y)) fun x=>ob b.asI fun y=>bif UA x.1 y.1 then some (Uz x.2 y.2)else none
def Jn (k:GV) (es:List (GV×GV)):Option (Option GV):=List.rec (motive:=fun _=>Option (Option GV)) (some none) (fun e _ ih=>ob (LK k e.1) fun b=>bif b then some (some e.2)else ih) es
def FB (t:Ty) (k:GV):Bool:=Option.casesOn (motive:=fun _=>Bool) k.asI (Option.casesOn (motive:=fun _=>Bool) k.asStr false (fun _=>Ep t.desc)) (fun x=>Option.casesOn (motive:=fun _=>Bool) (Qi t.desc) false (fun _=>true))
def Pb (tb:TB) (T:TypeId):Option (Ty×Ty):=ob (tb T) fun t=>ob (YR t.desc) fun kv=>ob (tb kv.1) fun tk=>ob (tb kv.2) fun tv=>some (tk,tv)
def My (tb:TB) (T:TypeId) (ok:Bool) (v k:GV) (H:GH):Option GV:=ob v.asM fun h=>ob (H.get h) fun o=>ob o.asM fun es=>ob (Pb tb T) fun t=>bif FB t.1 k then ob (Jn k es) fun r=>ob (Vf t.2.zero) fun z=>Option.casesOn (motive:=fun _=>Option GV) r (bif ok then some (.tup [z,.bool false])else some z) (fun g=>bif ok then some (.tup [g,.bool true])else some g)else none
def IC (tb:TB) (T:TypeId) (v k u:GV) (H:GH):OR:=ob v.asM fun h=>ob (H.get h) fun o=>ob o.asM fun es=>ob (Pb tb T) fun t=>bif FB t.1 k then ob (Jn k es) fun r=>Option.casesOn (motive:=fun _=>OR) r (H.setK h (.mp (es++[(k,u)])) fun H'=>some (.un,H')) (fun _=>none)else none
section
variable {R:Type}
abbrev KT (R:Type):=GF->GH->(GV->GH->Option R)->Option R
def k1 (x:Operand) (f:GV->Option GV):KT R:=fun σ H k=>ob (some x) fun x=>ob (hN σ x) fun v=>ob (f v) fun g=>k g H
def k2 (x y:Operand) (f:GV->GV->Option GV):KT R:=fun σ H k=>ob (some x) fun x=>ob (hN σ x) fun v=>ob (hN σ y) fun u=>ob (f v u) fun g=>k g H
def k3 (x y z:Operand) (f:GV->GV->GV->Option GV):KT R:=fun σ H k=>ob (some x) fun x=>ob (hN σ x) fun v=>ob (hN σ y) fun u=>ob (hN σ z) fun t=>ob (f v u t) fun g=>k g H
def Ei (x:Operand):KT R:=fun σ H k=>ob (some x) fun x=>ob (hN σ x) fun v=>k v H
def kFn (fn:Fn) (first caps:Array Operand):KT R:=match fn with
 | .func f=>fun σ H k=>ob (Ci σ first.toList) fun us=>ob (Ci σ caps.toList) fun vs=>k (.fn f us vs) H
 |_=>fun _ _ _=>none
def DF (σ:GF) (o:Option Operand):Option (Option GV):=Option.casesOn (motive:=fun _=>Option (Option GV)) o (some none) fun x=>ob (hN σ x) fun v=>some (some v)
def TN (tb:TB) (T:TypeId) (x:Operand) (lo hi mx:Option Operand):KT R:=Option.casesOn (motive:=fun _=>KT R) mx (fun σ H k=>ob (some x) fun x=>ob (hN σ x) fun v=>ob (DF σ lo) fun l=>ob (DF σ hi) fun h=>ob (AA tb T v l h H) fun g=>k g H) (fun _ _ _ _=>none)
def TL (tb:TB) (T:TypeId) (ps:List (Nat×Operand)):KT R:=fun σ H k=>ob (rD σ ps) fun vs=>ob (Lg tb T vs) fun g=>k g H
def eD (r:OR) (k:GV->GH->Option R):Option R:=ob r fun p=>Prod.casesOn (motive:=fun _=>Option R) p fun g h=>k g h
def LF (tb:TB) (T:TypeId) (x:Operand):KT R:=fun σ H k=>ob (some x) fun x=>ob (hN σ x) fun v=>ob (tJ tb T v H) fun g=>k g H
def H_ (tb:TB) (T:TypeId) (x y:Operand):KT R:=fun σ H k=>ob (some x) fun x=>ob (hN σ x) fun v=>ob (hN σ y) fun u=>eD (qG tb T v u H) k
def Q_ (x:Operand):KT R:=fun σ H k=>ob (some x) fun x=>ob (hN σ x) fun v=>eD (Dk v H) k
def TK (tb:TB) (T:TypeId):KT R:=fun σ H k=>eD (oO tb T H) k
def Rb (tb:TB) (T:TypeId) (n:Nat) (ps:List (Nat×Operand)):KT R:=fun σ H k=>ob (rD σ ps) fun vs=>eD (x_ tb T n vs H) k
def LJ (tb:TB) (T:TypeId) (x y:Operand):KT R:=fun σ H k=>ob (some x) fun x=>ob (hN σ x) fun v=>ob (hN σ y) fun u=>eD (JN tb T v u H) k
def OX (r:Option Operand):KT R:=Option.casesOn (motive:=fun _=>KT R) r (fun σ H k=>eD (zY H) k) (fun _ _ _ _=>none)
def LG (tb:TB) (T:TypeId) (x y:Operand) (ok:Bool):KT R:=fun σ H k=>ob (some x) fun x=>ob (hN σ x) fun v=>ob (hN σ y) fun u=>ob (My tb T ok v u H) fun g=>k g H
def HZ (tb:TB) (T:TypeId) (x y z:Operand):KT R:=fun σ H k=>ob (some x) fun x=>ob (hN σ x) fun v=>ob (hN σ y) fun u=>ob (hN σ z) fun t=>eD (IC tb T v u t H) k
def Fz (xs:List Operand) (f:Operand->KT R):KT R:=List.casesOn (motive:=fun _=>KT R) xs (fun _ _ _=>none) fun x r=>List.casesOn (motive:=fun _=>KT R) r (f x) (fun _ _ _ _ _=>none)
def Be (xs:List Operand) (f:Operand->Operand->KT R):KT R:=List.casesOn (motive:=fun _=>KT R) xs (fun _ _ _=>none) fun x r=>List.casesOn (motive:=fun _=>KT R) r (fun _ _ _=>none) fun y r=>List.casesOn (motive:=fun _=>KT R) r (f x y) (fun _ _ _ _ _=>none)
def OV (tb:TB) (ts:List TypeId) (x y:Operand):KT R:=fun σ H k=>ob (Dn ts 0) fun T=>ob (Dn ts 1) fun T'=>ob (hN σ x) fun v=>ob (hN σ y) fun u=>eD (Nw tb T T' v u H) k
def Jj (tb:TB) (ts:List TypeId) (x y:Operand):KT R:=fun σ H k=>ob (Dn ts 0) fun T=>ob (hN σ x) fun v=>ob (hN σ y) fun u=>eD (PY tb T v u H) k
def Ni (tb:TB) (ts:List TypeId) (x:Operand):KT R:=fun σ H k=>ob (Dn ts 0) fun T=>ob (hN σ x) fun v=>ob (VY tb T v) fun g=>k g H
def Nj (tb:TB) (ts:List TypeId) (x:Operand):KT R:=fun σ H k=>ob (Dn ts 0) fun T=>ob (hN σ x) fun v=>ob (Lj tb T v) fun g=>k g H
def KJ (tb:TB) (xs:Array Operand) (ts:Array TypeId):Builtin->KT R
 | .len=>Fz xs.toList (Nj tb ts.toList)
 | .max=>Be xs.toList fun x y=>k2 x y Qb
 | .min=>Be xs.toList fun x y=>k2 x y RP
 | .append=>Be xs.toList (OV tb ts.toList)
 | .copy=>Be xs.toList (Jj tb ts.toList)
 | .cap=>Fz xs.toList (Ni tb ts.toList)
 |_=>fun _ _ _=>none
abbrev CH:=Nat->List GV->GH->OR
def OW (ih:CH) (xs:Array Operand) (f:Operand):KT R:=fun σ H k=>ob (hN σ f) fun v=>ob v.asF fun g=>ob (Ci σ xs.toList) fun us=>eD (ih g.1 (g.2.1++us++g.2.2) H) k
def UZ (tb:TB) (ih:CH) (c:Call):KT R:=Callee.casesOn (motive:=fun _=>KT R) c.callee (OW ih c.args) (fun _ _ _ _ _=>none) (KJ tb c.args c.argTypes)
end
def IE {R:Type} (tb:TB) (ih:CH) (o:Op):KT R:=Op.casesOn (motive:=fun _=>KT R) o (fun a0=>Ei a0) (fun a0=>Ei a0) (fun a0 a1 a2=>k3 a0 a1 a2 mV) (fun a0=>TK tb a0) (fun _ a1=>Q_ a1) (fun a0 a1=>TL tb a0 a1.toList) (fun a0 a1 a2=>Rb tb a0 a1 a2.toList) (fun _ _ _ _=>fun _ _ _=>none) (fun a0 a1=>LF tb a0 a1) (fun a0 a1 a2=>H_ tb a0 a1 a2) (fun _=>fun _ _ _=>none) (fun _=>fun _ _ _=>none) (fun a0=>k1 a0 GV.nilck) (fun a0 a1 a2 a3 _=>k2 a2 a3 (yP tb a0 a1)) (fun a0 _ a2=>k1 a2 (NA a0)) (fun a0 a1 a2=>k1 a2 (Sr tb a0 a1)) (fun _ _=>fun _ _ _=>none) (fun _ _=>fun _ _ _=>none) (fun a0 a1 a2=>kFn a0 a1 a2) (fun _ a1=>OX a1) (fun _ _=>fun _ _ _=>none) (fun a0 a1 a2=>LJ tb a0 a1 a2) (fun a0 a1 a2 a3 a4=>TN tb a0 a1 a2 a3 a4) (fun a0 a1 a2=>k1 a1 (Az tb a0 a2)) (fun a0 a1 a2=>k1 a1 (Ss tb a0 a2)) (fun a0 a1 a2=>k2 a1 a2 (Li tb a0)) (fun a0 a1 a2=>k2 a1 a2 (Sp tb a0)) (fun a0 a1 a2 a3=>LG tb a0 a1 a2 a3) (fun a0 a1 a2 a3=>HZ tb a0 a1 a2 a3) (fun _ _ _=>fun _ _ _=>none) (fun _ _ _ _=>fun _ _ _=>none) (fun _ _=>fun _ _ _=>none) (fun _ _=>fun _ _ _=>none) (fun _=>fun _ _ _=>none) (fun _ _ _ _=>fun _ _ _=>none) (fun a0 a1=>k1 a0 (Ut a1)) (fun a0=>UZ tb ih a0) (fun _=>fun _ _ _=>none) (fun _=>fun _ _ _=>none) (fun _=>fun _ _ _=>none) (fun _ _=>fun _ _ _=>none) (fun _ _ _=>fun _ _ _=>none) (fun _ _=>fun _ _ _=>none)
def VX (x:Operand):Nat:=Operand.casesOn (motive:=fun _=>Nat) x (fun t=>Nat.shiftLeft 1 t) (fun _=>0) (fun _=>0) (fun _=>0)
def VW (all:List Oper) (o:Oper):Nat:=Nat.lor (o.op.operands.toList.foldl (fun m x=>Nat.lor m (VX x)) 0) (match o.guard with
 |none=>0
 |some g=>match Dn all g.1 with
  |some oj=>(match oj.dst with|some d=>Nat.shiftLeft 1 d|none=>0)
  |none=>0)
def WU (m:Nat) (d:Option Nat):Nat:=match d with
 |none=>m
 |some d=>bif Nat.testBit m d then Nat.sub m (Nat.shiftLeft 1 d)else m
def Rh (all:List Oper) (l:List Oper) (m:Nat):Nat:=l.foldr (fun o m=>Nat.lor (WU m o.dst) (VW all o)) m
structure Cx where
 res:List ResultVar
 retm:Nat
 env:List (Nat×Nat)
def zE (e:List (Nat×Nat)) (id:Nat):Nat:=List.rec (motive:=fun _=>Nat) 0 (fun p _ ih=>bif Nat.beq p.1 id then p.2 else ih) e
def Vb (c:Code) (retm:Nat):Nat->List (Nat×Nat)->Nat:=Code.rec (motive:=fun _=>Nat->List (Nat×Nat)->Nat)
 (fun m _=>m) (fun _ ops _ m _=>Rh ops.toList ops.toList m) (fun _ _ la lb m e=>la (lb m e) e) (fun x _ _ la lb m e=>Nat.lor (VX x) (Nat.lor (la m e) (lb m e))) (fun id _ lb m e=>lb m ((id,m)::e))
 (fun _ lb _ e=>Nat.lor (lb 0 e) (lb (lb 0 e) e)) (fun _ _ _ _ _ _ _ _=>0) (fun id _ e=>zE e id) (fun _ _ _ _=>0) (fun _ _ _=>0) (fun _ _ _=>0) (fun _ _=>retm) (fun _ _ _=>0) c
def live (c:Code) (m:Nat) (cx:Cx):Nat:=Vb c cx.retm m cx.env
def U_ (f m:Nat):Nat->List Nat:=Nat.rec (motive:=fun _=>Nat->List Nat) (fun _=>[]) (fun _ ih i=>bif Nat.testBit m i then i::ih (Nat.succ i)else ih (Nat.succ i)) f
def iS (m:Nat):List Nat:=U_ (Nat.succ (Nat.log2 m)) m 0
def zT (σ:GF) (ks:List Nat):List GV:=List.rec (motive:=fun _=>List GV) [] (fun k _ ih=>Option.casesOn (motive:=fun _=>GV) (BG σ k) .bad (fun v=>v)::ih) ks
def gW {R:Type} (ks:List Nat):List GV->(GF->Option R)->Option R:=List.rec (motive:=fun _=>List GV->(GF->Option R)->Option R) (fun vs k=>List.casesOn (motive:=fun _=>Option R) vs (k []) fun _ _=>none) (fun key _ ih vs k=>List.casesOn (motive:=fun _=>Option R) vs none fun v r=>ih r fun σ=>k ((key,v)::σ)) ks
inductive Ex where
 |normal
 |exit (id:Nat)
 |ret
inductive SE where
 |fn (f:Nat)
 |loop (b:Code) (cx:Cx)
structure GS where
 σ:GF
 H:GH
structure IQ where
 e:Ex
 vs:List GV
 H:GH
abbrev RS:=Option IQ
abbrev ZR:=List GV->GH->RS
abbrev QH:=Nat->List GV->GH->RS
abbrev IH:=SE->List GV->GH->RS
def Uf (tb:TB) (s:GS) (r:ResultVar):Option GV:=ResultVar.casesOn (motive:=fun _=>Option GV) r (fun t=>BG s.σ t) fun a T=>ob (BG s.σ a) fun v=>tJ tb T v s.H
def Jx (tb:TB) (s:GS) (l:List ResultVar):Option (List GV):=List.rec (motive:=fun _=>Option (List GV)) (some []) (fun r _ ih=>ob (Uf tb s r) fun v=>ob ih fun vs=>some (v::vs)) l
def ER (l:List ResultVar):Nat:=List.rec (motive:=fun _=>Nat) 0 (fun r _ ih=>Nat.lor (ResultVar.casesOn (motive:=fun _=>Nat) r (fun t=>Nat.shiftLeft 1 t) (fun a _=>Nat.shiftLeft 1 a)) ih) l
def Np (vs:List GV):GV:=List.casesOn (motive:=fun _=>GV) vs (.tup []) (fun v r=>List.casesOn (motive:=fun _=>GV) r v (fun _ _=> .tup vs))
def putD (d:Option Nat) (v:GV) (σ:GF):GF:=Option.casesOn (motive:=fun _=>GF) d σ fun d=>(d,v)::σ
def CY (ks:List Nat) (s:GS):RS:=some ⟨.normal,zT s.σ ks,s.H⟩
def KX (tb:TB) (cx:Cx) (s:GS):RS:=ob (Jx tb s cx.res) fun vs=>some ⟨.ret,vs,s.H⟩
def Se (ks:List Nat) (k:GS->RS) (r:RS):RS:=ob r fun o=>Ex.casesOn (motive:=fun _=>RS) o.e (gW ks o.vs fun σ=>k ⟨σ,o.H⟩) (fun _=>some o) (some o)
def nB (id:Nat) (r:RS):RS:=ob r fun o=>Ex.casesOn (motive:=fun _=>RS) o.e (some o) (fun i=>Bool.casesOn (motive:=fun _=>RS) (Nat.beq i id) (some o) (some ⟨.normal,o.vs,o.H⟩)) (some o)
def BN (g:GV) (H:GH):OR:=some (g,H)
def CU (d:Option Nat) (s:GS) (k:GS->RS) (g:GV) (H:GH):RS:=k ⟨putD d g s.σ,H⟩
def UB (tb:TB) (ih:CH) (o:Oper) (s:GS) (b:Bool) (v:GV):OR:=GV.casesOn (motive_1:=fun _=>OR) v (fun _ _=>none) (fun q=>Bool.casesOn (motive:=fun _=>OR) (LA q b) (some (.un,s.H)) (IE tb ih o.op s.σ s.H BN)) (fun _ _=>none) (fun _ _=>none) none (fun _ _ _ _=>none) none (fun _=>none) (fun _ _ _=>none) none none (fun _=>none) (fun _=>none) (some (.un,s.H)) none (fun _=>none)
def Ft (tb:TB) (ih:CH) (all:List Oper) (o:Oper) (k:GS->RS) (s:GS):RS:=Option.casesOn (motive:=fun _=>RS) o.guard (IE tb ih o.op s.σ s.H (CU o.dst s k)) fun g=>ob (Dn all g.1) fun oj=>ob oj.dst fun dj=>ob (BG s.σ dj) fun v=>eD (UB tb ih o s g.2 v) (CU o.dst s k)
def BJ (tb:TB) (ih:CH) (all:List Oper) (k:GS->RS) (l:List Oper):GS->RS:=List.rec (motive:=fun _=>GS->RS) k (fun o _ ihl s=>Ft tb ih all o ihl s) l
def kS:Op->Bool
 | .load .. => true
 |_=>false
def HY:Op->Bool
 | .lookup .. => true
 |_=>false
def Rf (σ:GF):Op->Option Nat
 | .load _ x=>ob (some x) fun x=>ob (hN σ x) fun v=>ob v.asP fun p=>some p.1
 |_=>none
def VZ {α:Type} (H:GH) (h v:Nat) (k:Option α):Option α:=ob (H.ver h) fun u=>Bool.casesOn (motive:=fun _=>Option α) (Nat.beq u v) none k
def YP (H:GH) (e:Option (Nat×Nat)) (k:Option Unit):Option Unit:=Option.casesOn (motive:=fun _=>Option Unit) e k fun p=>VZ H p.1 p.2 k
def Fl (m:List Nat) (i:Nat) (H:GH) (pr:List (Nat×Option (Nat×Nat))):Option Unit:=List.rec (motive:=fun _=>Option Unit) (some ()) (fun p _ ih=>Bool.casesOn (motive:=fun _=>Option Unit) (before m i p.1) (YP H p.2 ih) ih) pr
def Fo (m:List Nat) (i h v:Nat) (hs:List (Nat×GH)):Option (Option (Nat×Nat)):=List.rec (motive:=fun _=>Option (Option (Nat×Nat))) (some (some (h,v))) (fun q _ ih=>Bool.casesOn (motive:=fun _=>Option (Option (Nat×Nat))) (before m i q.1) (VZ q.2 h v ih) ih) hs
def ldV (m:List Nat) (i:Nat) (hs:List (Nat×GH)) (H:GH) (l:Option Nat):Option (Option (Nat×Nat)):=Option.casesOn (motive:=fun _=>Option (Option (Nat×Nat))) l (some none) fun h=>ob (H.ver h) fun v=>Fo m i h v hs
abbrev WT:=Nat->List (Nat×Option (Nat×Nat))->List (Nat×GH)->GS->RS
def ON (tb:TB) (ch:CH) (all:List Oper) (m:List Nat) (o:Oper) (K:WT):WT:=fun i pr hs s=>
 Bool.casesOn (motive:=fun _=>RS) (dO o.op)
  (Bool.casesOn (motive:=fun _=>RS) (kS o.op) (Ft tb ch all o (K (Nat.succ i) pr hs) s)
   (Ft tb ch all o (fun s'=>ob (ldV m i hs s.H (Rf s.σ o.op)) fun e=>K (Nat.succ i) ((i,e)::pr) hs s') s))
  (Ft tb ch all o (fun s'=>ob (Fl m i s'.H pr) fun _=>K (Nat.succ i) pr ((i,s.H)::hs) s') s)
def UD (tb:TB) (ch:CH) (all:List Oper) (m:List Nat) (k:GS->RS) (l:List Oper):WT:=List.rec (motive:=fun _=>WT) (fun _ _ _ s=>k s) (fun o _ ih=>ON tb ch all m o ih) l
def BA (l:List Oper) (p:Op->Bool):Bool:=(List.range l.length).all fun i=>match l[i]? with
 |none=>true
 |some o=> !p o.op||(List.range l.length).all fun j=>match l[j]? with
  |none=>true
  |some oj=> !dO oj.op||before (lM l) i j||before (lM l) j i
def Uu (dr:Bool) (l:List Oper):Bool:=Bool.casesOn (motive:=fun _=>Bool) dr false (!BA l kS)
def Hg (r:RS):OR:=ob r fun o=>Ex.casesOn (motive:=fun _=>OR) o.e none (fun _=>none) (some (Np o.vs,o.H))
structure GP where
 tab:TB
 cat:Nat
 ext:Nat->List GV->GH->Option (GV×GH)
 exn:Nat->List GV->Option GV
def vG:GV:= .int .i64 (.ofNat 0)
def UT (ih:CH) (us:List GV) (H:GH):OR:=List.casesOn (motive:=fun _=>OR) us none fun u r=>List.casesOn (motive:=fun _=>OR) r (ob u.asF fun g=>H.newK (.cells [vG]) fun h1 H1=>H1.newK (.cells [vG]) fun h2 H2=>ob (ih g.1 (g.2.1++g.2.2) H2) fun x=>ob (x.2.cells h1) fun c1=>ob (x.2.cells h2) fun c2=>
 bif Nat.beq c1.length 1 then(bif Nat.beq c2.length 1 then x.2.setK h1 (.cells [vG]) fun H3=>H3.setK h2 (.cells [vG]) fun H4=>H4.delK h1 fun H5=>H5.delK h2 fun H6=>some (.tup [vG,vG],H6)else none)else none) (fun _ _=>none)
def US (ih:IH):CH:=fun f us H=>Hg (ih (.fn f) us H)
def callQ (G:GP) (q:QH):CH:=fun f us H=>Bool.casesOn (motive:=fun _=>OR) (Nat.beq f G.cat) (Option.casesOn (motive:=fun _=>OR) (G.ext f us H) (Option.casesOn (motive:=fun _=>OR) (G.exn f us) (Hg (q f us H)) fun g=>some (g,H)) fun r=>some r) (UT (fun f us H=>Hg (q f us H)) us H)
def Ba (G:GP) (ih:IH):CH:=callQ G fun f us H=>ih (.fn f) us H
abbrev ET:=Nat->Cx->(GS->RS)->GS->RS
abbrev LH:=Code->Cx->ZR
def QR (tb:TB) (ch:CH) (lp:LH) (c:Code):ET:=Code.rec (motive:=fun _=>ET)
 (fun _ _ k s=>k s)
 (fun _ ops dr _ _ k s=>Bool.casesOn (motive:=fun _=>RS) (Uu dr ops.toList) (BJ tb ch ops.toList k ops.toList s) (UD tb ch ops.toList (lM ops.toList) k ops.toList 0 [] [] s))
 (fun _ b ea eb m cx k s=>ea (live b m cx) cx (eb m cx k) s)
 (fun x _ _ ea eb m cx k s=>ob (hN s.σ x) fun v=>ob v.asB fun q=>Se (iS m) k (Bool.casesOn (motive:=fun _=>RS) q (eb m cx (CY (iS m)) s) (ea m cx (CY (iS m)) s)))
 (fun id _ eb m cx k s=>Se (iS m) k (nB id (eb m ⟨cx.res,cx.retm,(id,m)::cx.env⟩ (CY (iS m)) s)))
 (fun b _ _ cx _ s=>lp b cx (zT s.σ (iS (live (.loop b) 0 cx))) s.H)
 (fun _ _ _ _ _ _ _ _ _ _=>none)
 (fun id _ cx _ s=>some ⟨.exit id,zT s.σ (iS (zE cx.env id)),s.H⟩)
 (fun _ _ _ _ _ _=>none) (fun _ _ _ _ _=>none) (fun _ _ _ _ _=>none)
 (fun _ cx _ s=>KX tb cx s)
 (fun _ _ _ _ _=>none) c
def MZ (tb:TB) (ch:CH) (lp:LH) (fn:Func) (us:List GV) (H:GH):RS:=ob fn.body fun body=>gW (List.range (Nat.add fn.params.size fn.nfree)) us fun σ=>QR tb ch lp body (ER fn.results.toList) ⟨fn.results.toList,ER fn.results.toList,[]⟩ (KX tb ⟨fn.results.toList,ER fn.results.toList,[]⟩) ⟨σ,H⟩
def UC (tb:TB) (ch:CH) (lp:LH) (b:Code) (cx:Cx) (us:List GV) (H:GH):RS:=gW (iS (live (.loop b) 0 cx)) us fun σ=>ob (QR tb ch lp b (live (.loop b) 0 cx) cx (CY (iS (live (.loop b) 0 cx))) ⟨σ,H⟩) fun o=>Ex.casesOn (motive:=fun _=>RS) o.e (lp b cx o.vs o.H) (fun _=>some o) (some o)
abbrev FT:=Nat->Option Func
def step (G:GP) (Fs:FT) (ih:IH) (t:SE):List GV->GH->RS:=SE.casesOn (motive:=fun _=>List GV->GH->RS) t (fun f us H=>ob (Fs f) fun fn=>MZ G.tab (Ba G ih) (fun b cx=>ih (.loop b cx)) fn us H) (UC G.tab (Ba G ih) fun b cx=>ih (.loop b cx))
def run (G:GP) (Fs:FT) (fuel:Nat):IH:=Nat.rec (motive:=fun _=>IH) (fun _ _ _=>none) (fun _ ih=>step G Fs ih) fuel
def OB (G:GP) (Fs:FT) (fuel:Nat) (f:FuncId) (args:List GV) (H:GH):OR:=Ba G (run G Fs fuel) f args H
def H0:GH:=⟨0,.lf⟩
end
end
section
section
variable {α β:Type}
theorem aE {o:Option α} {f:α->Option β} {r:β}:ob o f=some r↔∃x,o=some x∧f x=some r:=by
 cases o<;>simp[ob]
theorem bL {b:Bool} {x:Option α} {r:α}:(bif b then x else none)=some r↔b=true∧x=some r:=by
 cases b<;>simp
theorem jV {b:Bool} {x:Option α} {r:α}:(bif b then none else x)=some r↔b=false∧x=some r:=by
 cases b<;>simp
theorem yK (n:Nat) (f:Nat->α):sn n f=f n:=by cases n<;>rfl
theorem OP (z:Int) (f:Int->α):fi z f=f z:=by cases z<;>simp[fi,yK]
theorem rE (l:List α):∀n,Dn l n=l[n]?:=by
 induction l with
 |nil=>intro n;rfl
 |cons x l ih=>intro n;cases n with
  |zero=>rfl
  |succ n=>exact ih n
theorem Rj {v:α}:∀{l l':List α} {n:Nat},Ri v l n=some l'->n<l.length∧l'=l.set n v:=by
 intro l
 induction l with
 |nil=>intro l' n h;cases h
 | cons x l ih => intro l' n h; cases n with
  |zero=>cases h;simp
  |succ n=>
   obtain⟨r,h1,h2⟩:=aE.1 (show ob (Ri v l n) (fun r'=>some (x::r'))=some l' from h)
   obtain⟨h3,h4⟩:=ih h1
   cases h2;simp[h3,h4]
theorem VV:∀{l r:List α} {n:Nat},tk l n=some r->n<=l.length∧r=l.take n:=by
 intro l
 induction l with
 |nil=>intro r n h;cases n with
  |zero=>cases h;simp
  |succ n=>cases h
 | cons x l ih => intro r n h; cases n with
  |zero=>cases h;simp
  |succ n=>
   obtain⟨q,h1,h2⟩:=aE.1 (show ob (tk l n) (fun r=>some (x::r))=some r from h)
   obtain⟨h3,h4⟩:=ih h1
   cases h2;simp[h3,h4]
theorem UU:∀{l r:List α} {n:Nat},dp l n=some r->n<=l.length∧r=l.drop n:=by
 intro l
 induction l with
 |nil=>intro r n h;cases n with
  |zero=>cases h;simp
  |succ n=>cases h
 |cons x l ih=>intro r n h;cases n with
  |zero=>cases h;simp
  |succ n=>have:=ih (show dp l n=some r from h);simpa using this
theorem Is {l r:List α} {o n:Nat} (h:UF l o n=some r):o+n<=l.length∧r=(l.drop o).take n:=by
 obtain⟨q,h1,h2⟩:=aE.1 h
 obtain⟨h3,rfl⟩:=UU h1
 obtain⟨h4,rfl⟩:=VV h2
 simp at h4
 exact⟨by omega,rfl⟩
def wr (vs:List α) (o:Nat) (cs:List α):List α:=cs.take o++vs++cs.drop (o+vs.length)
end
theorem EL:∀{vs cs cs':List GV} {o:Nat},CO vs o cs=some cs'->(vs≠[]->o+vs.length<=cs.length)∧cs'.length=cs.length∧∀i,cs'[i]? = if o<=i∧i<o+vs.length then vs[i - o]? else cs[i]?:=by
 intro vs
 induction vs with
 |nil=>
  intro cs cs' o h
  cases h
  refine⟨fun h=>absurd rfl h,rfl,fun i=> ?_⟩
  rw[if_neg (by simp)]
 | cons v vs ih =>
  intro cs cs' o h
  obtain⟨c1,h1,h2⟩:=aE.1 (show ob (Ri v cs o) (fun cs'=>sn (Nat.succ o) fun o'=>CO vs o' cs')=some cs' from h)
  rw[yK]at h2
  obtain⟨h3,rfl⟩:=Rj h1
  obtain⟨h4,h5,h6⟩:=ih h2
  simp only[List.length_set,Nat.succ_eq_add_one]at h4 h5 h6
  refine⟨fun _=> ?_,h5,fun i=> ?_⟩
  ·cases vs with
   |nil=>simp;omega
   |cons y ys=>have:=h4 (by simp);simp at this ⊢;omega
  rw[h6 i]
  by_cases e:i=o
  ·subst e
   rw[if_neg (by omega),if_pos (by simp),List.getElem?_set_self h3];simp
  ·by_cases e2:o+1<=i∧i<o+1+vs.length
   ·rw[if_pos e2,if_pos (by simp;omega)]
    have:i - o=(i - (o+1))+1:=by omega
    rw[this,List.getElem?_cons_succ]
   ·rw[if_neg e2,if_neg (by simp;omega),List.getElem?_set_ne (Ne.symm e)]
theorem IU {α:Type} (x:Option α):∀(f n m:Nat),n<f->(Aa x f n).get m=if m=n then x else none:=by
 intro f
 induction f with
 |zero=>intro n m h;omega
 | succ f ih =>
  intro n m h
  show Tr.get (bif Nat.beq n 0 then .nd x .lf .lf else bif Nat.beq (Nat.mod n 2) 1 then .nd none (Aa x f (Nat.div n 2)) .lf else .nd none .lf (Aa x f (Nat.sub (Nat.div n 2) 1))) m=_
  have hg:∀(a:Option α) (l r:Tr α),Tr.get (.nd a l r) m=if m=0 then a else if m%2=1 then l.get (m / 2)else r.get (m / 2 - 1):=fun a l r=>by
   show Bool.casesOn (motive:=fun _=>Option α) (Nat.beq m 0) (Bool.casesOn (motive:=fun _=>Option α) (Nat.beq (Nat.mod m 2) 1) (r.get (Nat.sub (Nat.div m 2) 1)) (l.get (Nat.div m 2))) a=_
   by_cases h0:m=0
   ·subst h0;rfl
   ·rw[if_neg h0,kR h0]
    by_cases h1:m%2=1
    ·rw[if_pos h1]
     have:Nat.beq (Nat.mod m 2) 1=true:=by rw[show Nat.mod m 2=1 from h1];rfl
     rw[this];rfl
    ·rw[if_neg h1]
     have:Nat.beq (Nat.mod m 2) 1=false:=kR h1
     rw[this];rfl
  have hlf:∀k,(Tr.lf:Tr α).get k=none:=fun _=>rfl
  have hd:Nat.div n 2=n / 2:=rfl
  have hs:Nat.sub (Nat.div n 2) 1=n / 2 - 1:=rfl
  by_cases h0:n=0
  ·subst h0
   show Tr.get (.nd x .lf .lf) m=_
   simp only[hg,hlf]
   by_cases hm:m=0<;>simp[hm]
  ·rw[kR h0]
   by_cases h1:n%2=1
   ·have:Nat.beq (Nat.mod n 2) 1=true:=by rw[show Nat.mod n 2=1 from h1];rfl
    simp only[this,cond_true,cond_false,hg,hlf,hd]
    rw[ih _ _ (by omega)]
    by_cases hm:m=0
    ·rw[if_pos hm,if_neg (by omega)]
    ·rw[if_neg hm]
     by_cases h2:m%2=1
     ·rw[if_pos h2];by_cases h3:m=n
      ·subst h3;simp
      ·rw[if_neg h3,if_neg (by omega)]
     ·rw[if_neg h2,if_neg (by intro e;subst e;exact h2 h1)]
   ·have:Nat.beq (Nat.mod n 2) 1=false:=kR h1
    simp only[this,cond_true,cond_false,hg,hlf,hs]
    rw[ih _ _ (by omega)]
    by_cases hm:m=0
    ·rw[if_pos hm,if_neg (by omega)]
    ·rw[if_neg hm]
     by_cases h2:m%2=1
     ·rw[if_pos h2,if_neg (by intro e;subst e;exact h1 h2)]
     ·rw[if_neg h2];by_cases h3:m=n
      ·subst h3;simp
      ·rw[if_neg h3,if_neg (by omega)]
theorem vK {α:Type} (x:Option α):∀(t:Tr α) (n m:Nat),(t.set x n).get m=if m=n then x else t.get m:=by
 intro t
 induction t with
 |lf=>intro n m;exact IU x _ n m (Nat.lt_succ_self n)
 | nd a l r ihl ihr =>
  intro n m
  have hg:∀(a:Option α) (l r:Tr α),Tr.get (.nd a l r) m=if m=0 then a else if m%2=1 then l.get (m / 2)else r.get (m / 2 - 1):=fun a l r=>by
   show Bool.casesOn (motive:=fun _=>Option α) (Nat.beq m 0) (Bool.casesOn (motive:=fun _=>Option α) (Nat.beq (Nat.mod m 2) 1) (r.get (Nat.sub (Nat.div m 2) 1)) (l.get (Nat.div m 2))) a=_
   by_cases h0:m=0
   ·subst h0;rfl
   ·rw[if_neg h0,kR h0]
    by_cases h1:m%2=1
    ·rw[if_pos h1]
     have:Nat.beq (Nat.mod m 2) 1=true:=by rw[show Nat.mod m 2=1 from h1];rfl
     rw[this];rfl
    ·rw[if_neg h1]
     have:Nat.beq (Nat.mod m 2) 1=false:=kR h1
     rw[this];rfl
  show Tr.get (Bool.casesOn (motive:=fun _=>Tr α) (Nat.beq n 0) (Bool.casesOn (motive:=fun _=>Tr α) (Nat.beq (Nat.mod n 2) 1) (.nd a l (r.set x (Nat.sub (Nat.div n 2) 1))) (.nd a (l.set x (Nat.div n 2)) r)) (.nd x l r)) m=_
  have hd:Nat.div n 2=n / 2:=rfl
  have hs:Nat.sub (Nat.div n 2) 1=n / 2 - 1:=rfl
  by_cases h0:n=0
  ·subst h0
   show Tr.get (.nd x l r) m=_
   rw[hg,hg];by_cases hm:m=0<;>simp[hm]
  ·rw[kR h0]
   by_cases h1:n%2=1
   ·have:Nat.beq (Nat.mod n 2) 1=true:=by rw[show Nat.mod n 2=1 from h1];rfl
    rw[this]
    show Tr.get (.nd a (l.set x (Nat.div n 2)) r) m=_
    rw[hg,hg,ihl,hd]
    by_cases hm:m=0
    ·rw[if_pos hm,if_pos hm,if_neg (by omega)]
    ·rw[if_neg hm,if_neg hm]
     by_cases h2:m%2=1
     ·rw[if_pos h2,if_pos h2];by_cases h3:m=n
      ·subst h3;simp
      ·rw[if_neg h3,if_neg (by omega)]
     ·rw[if_neg h2,if_neg h2,if_neg (by intro e;subst e;exact h2 h1)]
   ·have:Nat.beq (Nat.mod n 2) 1=false:=kR h1
    rw[this]
    show Tr.get (.nd a l (r.set x (Nat.sub (Nat.div n 2) 1))) m=_
    rw[hg,hg,ihr,hs]
    by_cases hm:m=0
    ·rw[if_pos hm,if_pos hm,if_neg (by omega)]
    ·rw[if_neg hm,if_neg hm]
     by_cases h2:m%2=1
     ·rw[if_pos h2,if_pos h2,if_neg (by intro e;subst e;exact h1 h2)]
     ·rw[if_neg h2,if_neg h2];by_cases h3:m=n
      ·subst h3;simp
      ·rw[if_neg h3,if_neg (by omega)]
theorem pA (H:GH) (h:Nat) (o:GO) (k:Nat):(H.set h o).get k=if k=h then some o else H.get k:=by
 unfold GH.get GH.set
 rw[vK]
 by_cases e:k=h<;>simp[e,ob]
theorem Kj (H:GH) (h:Nat) (o:GO) (k:Nat):(H.set h o).ver k=if k=h then some H.n else H.ver k:=by
 unfold GH.ver GH.set
 rw[vK]
 by_cases e:k=h<;>simp[e,ob]
theorem BY (H:GH) (h k:Nat):(H.del h).get k=if k=h then none else H.get k:=by
 unfold GH.get GH.del
 rw[vK]
 by_cases e:k=h<;>simp[e,ob]
theorem Kh (H:GH) (h k:Nat):(H.del h).ver k=if k=h then none else H.ver k:=by
 unfold GH.ver GH.del
 rw[vK]
 by_cases e:k=h<;>simp[e,ob]
noncomputable def GH.new (H:GH) (o:GO):GH:=⟨H.n+1,H.t.set (some (H.n,o)) H.n⟩
theorem o_ (H:GH) (o:GO) (k:Nat):(H.new o).get k=if k=H.n then some o else H.get k:=by
 unfold GH.get GH.new
 rw[vK]
 by_cases e:k=H.n<;>simp[e,ob]
theorem Ki (H:GH) (o:GO) (k:Nat):(H.new o).ver k=if k=H.n then some H.n else H.ver k:=by
 unfold GH.ver GH.new
 rw[vK]
 by_cases e:k=H.n<;>simp[e,ob]
theorem IV {α R:Type} (x:Option α):∀(f n:Nat) (k:Tr α->R),CE x f n k=k (Aa x f n):=by
 intro f
 induction f with
 |zero=>intro n k;rfl
 |succ f ih=>
  intro n k
  show Bool.casesOn (motive:=fun _=>R) (Nat.beq n 0) (Bool.casesOn (motive:=fun _=>R) (Nat.beq (Nat.mod n 2) 1) (CE x f (Nat.sub (Nat.div n 2) 1) fun t=>k (.nd none .lf t)) (CE x f (Nat.div n 2) fun t=>k (.nd none t .lf))) (k (.nd x .lf .lf))=k (bif Nat.beq n 0 then .nd x .lf .lf else bif Nat.beq (Nat.mod n 2) 1 then .nd none (Aa x f (Nat.div n 2)) .lf else .nd none .lf (Aa x f (Nat.sub (Nat.div n 2) 1)))
  rw[ih,ih]
  cases Nat.beq n 0<;>cases Nat.beq (Nat.mod n 2) 1<;>rfl
theorem Ca {α R:Type} (x:Option α):∀(t:Tr α) (n:Nat) (k:Tr α->R),t.setK x n k=k (t.set x n):=by
 intro t
 induction t with
 |lf=>intro n k;exact IV x (Nat.succ n) n k
 |nd a l r ihl ihr=>
  intro n k
  show Bool.casesOn (motive:=fun _=>R) (Nat.beq n 0) (Bool.casesOn (motive:=fun _=>R) (Nat.beq (Nat.mod n 2) 1) (r.setK x (Nat.sub (Nat.div n 2) 1) fun t=>k (.nd a l t)) (l.setK x (Nat.div n 2) fun t=>k (.nd a t r))) (k (.nd x l r))=k (Bool.casesOn (motive:=fun _=>Tr α) (Nat.beq n 0) (Bool.casesOn (motive:=fun _=>Tr α) (Nat.beq (Nat.mod n 2) 1) (.nd a l (r.set x (Nat.sub (Nat.div n 2) 1))) (.nd a (l.set x (Nat.div n 2)) r)) (.nd x l r))
  rw[ihl,ihr]
  cases Nat.beq n 0<;>cases Nat.beq (Nat.mod n 2) 1<;>rfl
theorem gN {α:Type} (H:GH) (o:GO) (f:Nat->GH->α):H.newK o f=f H.n (H.new o):=by simp only[GH.newK,yK,Ca];rfl
theorem vJ {α:Type} (H:GH) (h:Nat) (o:GO) (f:GH->α):H.setK h o f=f (H.set h o):=by simp only[GH.setK,yK,Ca];rfl
theorem BX {α:Type} (H:GH) (h:Nat) (f:GH->α):H.delK h f=f (H.del h):=by simp only[GH.delK,Ca];rfl
theorem TO {R:Type} (a b:List GV):∀k:List GV->R,YM a b k=k (a++b):=by
 induction a with
 |nil=>intro k;rfl
 |cons x a ih=>intro k;exact ih _
theorem OO {R:Type} (a:List GV):∀k:List GV->R,fc a k=k a:=by
 induction a with
 |nil=>intro k;rfl
 |cons x a ih=>intro k;exact ih _
theorem OJ (H:GH) (v:GV) (f:GH->OR):OI H v f=f (KA H v):=by
 unfold OI KA
 cases v.asS with
 |none=>rfl
 |some s=>exact BX H s.1 f
theorem gA {H:GH} {h:Nat} {cs:List GV}:H.cells h=some cs↔H.get h=some (.cells cs):=by
 unfold GH.cells
 rw[aE]
 constructor
 ·rintro⟨o,h1,h2⟩;cases o with
  |cells c=>cases h2;exact h1
  |mp e=>cases h2
 ·intro h;exact⟨_,h,rfl⟩
theorem GO.asM_eq {o:GO} {es:List (GV×GV)} (h:o.asM=some es):o = .mp es:=by
 cases o with
 |cells c=>cases h
 |mp e=>cases h;rfl
theorem yE (k:Nat) (v:GV) (σ:GF) (t:Nat):BG ((k,v)::σ) t=if t=k then some v else BG σ t:=by
 show Bool.casesOn (motive:=fun _=>Option GV) (Nat.beq t k) (BG σ t) (some v)=_
 by_cases e:t=k
 ·subst e;simp
 ·rw[kR e,if_neg e]
section
variable {v:GV}
theorem kQ {p:IntKind×Int} (h:v.asI=some p):v = .int p.1 p.2:=by cases v<;>cases h;rfl
theorem AX {p:Bool} (h:v.asB=some p):v = .bool p:=by cases v<;>cases h;rfl
theorem AY {p:Nat×Nat} (h:v.asP=some p):v = .ptr p.1 p.2:=by cases v<;>cases h;rfl
theorem Ae {p:Nat×Nat×Nat×Nat} (h:v.asS=some p):v = .sl p.1 p.2.1 p.2.2.1 p.2.2.2:=by cases v<;>cases h;rfl
theorem Of {p:Nat×List GV×List GV} (h:v.asF=some p):v = .fn p.1 p.2.1 p.2.2:=by cases v<;>cases h;rfl
theorem SJ {p:List GV} (h:v.asT=some p):v = .tup p:=by cases v<;>cases h;rfl
theorem Kv {p:List GV} (h:v.asA=some p):v = .agg p:=by cases v<;>cases h;rfl
theorem pG {p:Nat×Nat} (h:v.asStr=some p):v = .str p.1 p.2:=by cases v<;>cases h;rfl
theorem asM_eq {p:Nat} (h:v.asM=some p):v = .map p:=by cases v<;>cases h;rfl
theorem tG (h:v.isSnil=true):v = .snil:=by cases v<;>first|rfl|cases h
end
section
variable {d:TypeDesc}
theorem Ct {e:TypeId} (h:Qj d=some e):d = .slice e:=by cases d<;>cases h;rfl
theorem Ld {e:Nat×TypeId} (h:Ur d=some e):d = .array e.1 e.2:=by cases d<;>cases h;rfl
theorem IB {e:Array Field} (h:Wh d=some e):d = .struct e:=by cases d<;>cases h;rfl
theorem Cs {e:IntKind} (h:Qi d=some e):d = .int e:=by cases d<;>cases h;rfl
theorem Us {e:TypeId×TypeId} (h:YR d=some e):d = .map e.1 e.2:=by cases d<;>cases h;rfl
theorem yN (h:Ep d=true):d = .string:=by cases d<;>first|rfl|cases h
theorem Le (h:VU d=true):d = .bool:=by cases d<;>first|rfl|cases h
end
theorem Cc {a:Int} {n:Nat} (h:SI a=some n):a=n:=by cases a<;>cases h;rfl
theorem UM {b:Bool} {p:Prop} [Decidable p] (h:b=true↔p):b=decide p:=by
 cases b
 ·exact(decide_eq_false fun hp=>by cases h.2 hp).symm
 ·exact(decide_eq_true (h.1 rfl)).symm
theorem DJ (a b:Int):TQ a b=decide (a<b):=by
  refine UM ?_
  cases a with
  | ofNat a => cases b with
    |ofNat b=>show Nat.blt a b=true↔_;rw[Nat.blt_eq];simp
    | negSucc b =>
        constructor
        · intro h;cases h
        · intro h;simp at h;omega
  | negSucc a => cases b with
    | ofNat b =>
        constructor
        · intro _;have:=Int.negSucc_lt_zero a;simp;omega
        · intro _;rfl
    |negSucc b=>show Nat.blt b a=true↔_;rw[Nat.blt_eq];omega
theorem DD (a b:Int):Uz a b=decide (a=b):=by
  refine UM ?_
  cases a with
  | ofNat a => cases b with
    |ofNat b=>show Nat.beq a b=true↔_;simp;omega
    | negSucc b =>
        constructor
        · intro h;cases h
        · intro h;cases h
  | negSucc a => cases b with
    | ofNat b =>
        constructor
        · intro h;cases h
        · intro h;cases h
    |negSucc b=>show Nat.beq a b=true↔_;simp
theorem Cg (a b:Bool):LA a b=(a==b):=by cases a<;>cases b<;>rfl
theorem Fq {a b:IntKind} (h:UA a b=true):a=b:=of_decide_eq_true h
theorem Fu (b:Bool):fb b=some (.bool b):=by cases b<;>rfl
end
end Go.Gx
end
section
namespace Go.Gx
open Go Go.Sx Go.RowKit
section
structure Ka where
 b:Nat
 off:Nat
 size:Nat
 x:Obj
 /-- what the evaluator wrote -/
 o:GO
abbrev eL:=Nat->Option Ka
def eL.le (ρ ρ':eL):Prop:=∀h l,ρ h=some l->ρ' h=some l
theorem eL.le_refl (ρ:eL):ρ.le ρ:=fun _ _ h=>h
theorem eL.le_trans {a b c:eL} (h:a.le b) (k:b.le c):a.le c:=fun _ _ x=>k _ _ (h _ _ x)
inductive Rl (ρ:eL):GV->Value->Prop
 |int (k n):Rl ρ (.int k n) (.int k n)
 |bool (b):Rl ρ (.bool b) (.bool b)
 |str (s:ByteArray):Rl ρ (.str (jX (bI s)) (bI s).length) (.string s)
 |ptr {h l} (off) (hl:ρ h=some l):Rl ρ (.ptr h off) (.pointer (some ⟨l.b,l.off+off,none⟩))
 |pnil:Rl ρ .pnil (.pointer none)
 |sl {h l off len sz cap} {A:Addr} (hl:ρ h=some l) (hc:len<=cap) (ha:cap=0∨(A=⟨l.b,l.off+off,none⟩∧l.off+off+cap*sz<=l.size)):Rl ρ (.sl h off len sz) (.slice (some A) len cap)
 |snil:Rl ρ .snil (.slice none 0 0)
 |map {h l} (hl:ρ h=some l):Rl ρ (.map h) (.map (some l.b))
 | fn {us vs : List GV} {us' vs' : nT} (f) (h1 : us.length = us'.length) (h2 : ∀ (i : Nat) g v, us[i]? = some g → us'[i]? = some v → Rl ρ g v) (h3 : vs.length = vs'.length) (h4 : ∀ (i : Nat) g v, vs[i]? = some g → vs'[i]? = some v → Rl ρ g v) :
   Rl ρ (.fn f us vs) (.func (.func f) us'.toArray vs'.toArray)
 |fnil:Rl ρ .fnil .nilFunc
 |inil:Rl ρ .inil .nilIface
 |agg {cs:List GV} {vs:nT} (h1:cs.length=vs.length) (h2:∀(i:Nat) g v,cs[i]? = some g->vs[i]? = some v->Rl ρ g v) (h3:∀v∈vs,one v=true):Rl ρ (.agg cs) (.agg vs.toArray)
 |tup {cs:List GV} {vs:nT} (h1:cs.length=vs.length) (h2:∀(i:Nat) g v,cs[i]? = some g->vs[i]? = some v->Rl ρ g v):Rl ρ (.tup cs) (.tuple vs.toArray)
 |un:Rl ρ .un undef
 |bad (v):Rl ρ .bad v
 |opn {h l} (v) (hl:ρ h=some l) (hx:l.x = .cells #[v] 0 (0,0)):Rl ρ (.opn h) v
theorem Rl.le {ρ ρ':eL} (hl:ρ.le ρ') {g:GV} {v:Value} (h:Rl ρ g v):Rl ρ' g v:=by
 induction h with
 |int k n=>exact .int k n
 |bool b=>exact .bool b
 |str s=>exact .str s
 |ptr off h=>exact .ptr off (hl _ _ h)
 |pnil=>exact .pnil
 |sl h hc ha=>exact .sl (hl _ _ h) hc ha
 |snil=>exact .snil
 |map h=>exact .map (hl _ _ h)
 |fn f h1 h2 h3 h4 ih2 ih4=>exact .fn f h1 ih2 h3 ih4
 |fnil=>exact .fnil
 |inil=>exact .inil
 |agg h1 h2 h3 ih=>exact .agg h1 ih h3
 |tup h1 h2 ih=>exact .tup h1 ih
 |un=>exact .un
 |bad v=>exact .bad v
 |opn v h hx=>exact .opn v (hl _ _ h) hx
structure tP (ρ:eL) (gs:List GV) (vs:nT):Prop where
 len:gs.length=vs.length
 at':∀(i:Nat) g v,gs[i]? = some g->vs[i]? = some v->Rl ρ g v
theorem tP.nil {ρ:eL}:tP ρ [] []:=⟨rfl,fun i g v h=>by simp at h⟩
theorem tP.cons {ρ:eL} {g:GV} {v:Value} {gs:List GV} {vs:nT} (h:Rl ρ g v) (r:tP ρ gs vs):tP ρ (g::gs) (v::vs):=⟨by simp[r.len],fun i a b ha hb=>by
 cases i with
 |zero=>simp at ha hb;subst ha hb;exact h
 |succ i=>simp at ha hb;exact r.at' i a b ha hb⟩
theorem tP.of_cons {ρ:eL} {g:GV} {gs:List GV} {vs:nT} (h:tP ρ (g::gs) vs):∃v vs',vs=v::vs'∧Rl ρ g v∧tP ρ gs vs':=by
 cases vs with
 |nil=>have:=h.len;simp at this
 |cons v vs=>exact⟨v,vs,rfl,h.at' 0 _ _ rfl rfl,by have:=h.len;simpa using this,fun i a b ha hb=>h.at' (i+1) a b (by simpa using ha) (by simpa using hb)⟩
theorem tP.of_nil {ρ:eL} {vs:nT} (h:tP ρ [] vs):vs=[]:=List.eq_nil_of_length_eq_zero h.len.symm
theorem tP.le {ρ ρ':eL} (hl:ρ.le ρ') {gs:List GV} {vs:nT} (h:tP ρ gs vs):tP ρ' gs vs:=⟨h.len,fun i g v h1 h2=>(h.at' i g v h1 h2).le hl⟩
theorem tP.append {ρ:eL} {gs gs':List GV} {vs vs':nT} (h:tP ρ gs vs) (k:tP ρ gs' vs'):tP ρ (gs++gs') (vs++vs'):=by
 induction gs generalizing vs with
 |nil=>rw[h.of_nil];exact k
 |cons g gs ih=>obtain⟨v,vs,rfl,h1,h2⟩:=h.of_cons;exact .cons h1 (ih h2)
theorem tP.get {ρ:eL} {gs:List GV} {vs:nT} (h:tP ρ gs vs) {i:Nat} {g:GV} (hg:gs[i]? = some g):∃v,vs[i]? = some v∧Rl ρ g v:=by
 have hi:=aV hg
 have:i<vs.length:=h.len▸hi
 exact⟨vs[i],List.getElem?_eq_getElem this,h.at' i g _ hg (List.getElem?_eq_getElem this)⟩
theorem tP.sub {ρ:eL} {gs:List GV} {vs:nT} (h:tP ρ gs vs) (o n:Nat):tP ρ ((gs.drop o).take n) ((vs.drop o).take n):=
 ⟨by simp[h.len],fun i g v h1 h2=>by
  rw[List.getElem?_take]at h1 h2
  split at h1
  ·rename_i hi
   rw[if_pos hi]at h2
   rw[List.getElem?_drop]at h1 h2
   exact h.at' _ g v h1 h2
  ·cases h1⟩
section
variable {ρ:eL} {V:Value}
theorem Rl.int_inv {k:IntKind} {n:Int} (h:Rl ρ (.int k n) V):V = .int k n:=by cases h;rfl
theorem Rl.bool_inv {b:Bool} (h:Rl ρ (.bool b) V):V = .bool b:=by cases h;rfl
theorem Rl.str_inv {n l:Nat} (h:Rl ρ (.str n l) V):∃s,V = .string s∧n=jX (bI s)∧l=(bI s).length:=by cases h;exact⟨_,rfl,rfl,rfl⟩
theorem Rl.ptr_inv {h o:Nat} (x:Rl ρ (.ptr h o) V):∃l,ρ h=some l∧V = .pointer (some ⟨l.b,l.off+o,none⟩):=by cases x with|ptr o hl=>exact⟨_,hl,rfl⟩
theorem Rl.sl_inv {h o n sz:Nat} (x:Rl ρ (.sl h o n sz) V):∃l cap A,ρ h=some l∧V = .slice (some A) n cap∧n<=cap∧(cap=0∨(A=⟨l.b,l.off+o,none⟩∧l.off+o+cap*sz<=l.size)):=by
 cases x with|sl hl hc ha=>exact⟨_,_,_,hl,rfl,hc,ha⟩
theorem Rl.snil_inv (h:Rl ρ .snil V):V = .slice none 0 0:=by cases h;rfl
theorem Rl.map_inv {h:Nat} (x:Rl ρ (.map h) V):∃l,ρ h=some l∧V = .map (some l.b):=by cases x with|map hl=>exact⟨_,hl,rfl⟩
theorem Rl.fn_inv {f:Nat} {us vs:List GV} (x:Rl ρ (.fn f us vs) V):∃us' vs',V = .func (.func f) us'.toArray vs'.toArray∧tP ρ us us'∧tP ρ vs vs':=by
 cases x with|fn f h1 h2 h3 h4=>exact⟨_,_,rfl,⟨h1,h2⟩,⟨h3,h4⟩⟩
theorem Rl.agg_inv {cs:List GV} (x:Rl ρ (.agg cs) V):∃vs,V = .agg vs.toArray∧tP ρ cs vs∧∀v∈vs,one v=true:=by
 cases x with|agg h1 h2 h3=>exact⟨_,rfl,⟨h1,h2⟩,h3⟩
theorem Rl.tup_inv {cs:List GV} (x:Rl ρ (.tup cs) V):∃vs,V = .tuple vs.toArray∧tP ρ cs vs:=by
 cases x with|tup h1 h2=>exact⟨_,rfl,⟨h1,h2⟩⟩
theorem Rl.opn_inv {h:Nat} (x:Rl ρ (.opn h) V):∃l,ρ h=some l∧l.x = .cells #[V] 0 (0,0):=by cases x with|opn v hl hx=>exact⟨_,hl,hx⟩
theorem Rl.un_inv (x:Rl ρ .un V):V=undef:=by cases x;rfl
theorem Kp {f:Nat} {us vs:List GV} {us' vs':List Value} (h1:tP ρ us us') (h2:tP ρ vs vs'):Rl ρ (.fn f us vs) (.func (.func f) us'.toArray vs'.toArray):= .fn f h1.len h1.at' h2.len h2.at'
theorem ED {cs:List GV} {vs:List Value} (h:tP ρ cs vs) (h3:∀v∈vs,one v=true):Rl ρ (.agg cs) (.agg vs.toArray):= .agg h.len h.at' h3
theorem EE {cs:List GV} {vs:List Value} (h:tP ρ cs vs):Rl ρ (.tup cs) (.tuple vs.toArray):= .tup h.len h.at'
theorem Rl.cells {g:GV} {cs:List GV} (h:Rl ρ g V) (hc:g.cells=some cs):∃vs,V.cells=vs.toArray∧tP ρ cs vs∧∀v∈vs,one v=true:=by
 have hone:∀g V,Rl ρ g V->one V=true->∃vs,#[V]=vs.toArray∧tP ρ [g] vs∧∀v∈vs,one v=true:=fun g V h h1=>⟨[V],rfl,.cons h .nil,fun v hv=>by simp at hv;subst hv;exact h1⟩
 have h0:=h
 cases h with
 |agg h1 h2 h3=>cases hc;exact⟨_,rfl,⟨h1,h2⟩,h3⟩
 |tup h1 h2=>cases hc
 |un=>cases hc
 |bad v=>cases hc
 |opn v hl hx=>cases hc
 |_=>cases hc;exact hone _ _ h0 rfl
end
theorem Ii {ρ:eL} {v:Value} {g:GV} (h:No v=some g):Rl ρ g v∧one v=true:=by
 unfold No at h
 split at h
 ·cases h;exact⟨.int _ _,rfl⟩
 ·cases h;exact⟨.bool _,rfl⟩
 ·cases h;exact⟨.snil,rfl⟩
 ·cases h;exact⟨.pnil,rfl⟩
 ·cases h;exact⟨.fnil,rfl⟩
 ·cases h;exact⟨.inil,rfl⟩
 ·simp only[yK]at h;cases h;exact⟨.str _,rfl⟩
 ·cases h
theorem LX {ρ:eL}:∀{vs:List Value} {gs:List GV},Rm vs=some gs->tP ρ gs vs∧∀v∈vs,one v=true
 | [],gs,h=>by cases h;exact⟨.nil,fun v h=>by simp at h⟩
 | v :: vs, gs, h => by
  obtain⟨x,h1,h2⟩:=aE.1 (show ob (No v) (fun x=>ob (Rm vs) fun xs=>some (x::xs))=some gs from h)
  obtain⟨xs,h3,h4⟩:=aE.1 h2
  cases h4
  obtain⟨a,b⟩:=LX h3
  obtain⟨c,d⟩:=Ii (ρ:=ρ) h1
  exact⟨.cons c a,fun u hu=>by
   rcases List.mem_cons.1 hu with rfl|hu
   ·exact d
   ·exact b u hu⟩
theorem KR {ρ:eL} {v:Value} {g:GV} (h:Vf v=some g):Rl ρ g v:=by
 unfold Vf at h
 split at h
 ·obtain⟨xs,h1,h2⟩:=aE.1 h
  cases h2
  obtain⟨a,b⟩:=LX (ρ:=ρ) h1
  have:=ED a b
  simpa using this
 ·exact(Ii h).1
theorem Mh {ρ:eL} {s:Sem Value} {g:GV} (h:DO s=some g):∃v,Rl ρ g v∧s = .pure v:=by
 unfold DO at h
 split at h
 ·exact⟨_,(Ii h).1,rfl⟩
 ·cases h
structure iN (ρ:eL) (n:Nat) (σ:GF) (a:Act):Prop where
 defers:a.defers=[]
 size:a.tmps.size=n
 slot:∀t g,BG σ t=some g->Rl ρ g (a.eval (.tmp t))
theorem iN.le {ρ ρ':eL} (hl:ρ.le ρ') {n:Nat} {σ:GF} {a:Act} (h:iN ρ n σ a):iN ρ' n σ a:=⟨h.defers,h.size,fun t g hg=>(h.slot t g hg).le hl⟩
theorem iN.put {ρ:eL} {n:Nat} {σ:GF} {a:Act} (h:iN ρ n σ a) {d:Nat} (hd:d<n) {g:GV} {v:Value} (hv:Rl ρ g v):iN ρ n ((d,g)::σ) (a.put (some d) v):=
 ⟨h.defers,by simp[Act.put,h.size],fun t u ht=>by
  rw[yE]at ht
  by_cases e:t=d
  ·subst e;rw[if_pos rfl]at ht;cases ht
   have:(a.put (some t) v).eval (.tmp t)=v:=by simp[Act.put,Act.eval,h.size,hd]
   rw[this];exact hv
  ·rw[if_neg e]at ht
   have:(a.put (some d) v).eval (.tmp t)=a.eval (.tmp t):=by
    simp only[Act.put,Act.eval,Array.getD_eq_getD_getElem?]
    rw[Array.getElem?_setIfInBounds_ne (Ne.symm e)]
   rw[this];exact h.slot t u ht⟩
section
variable {ρ:eL} {n:Nat} {σ:GF} {a:Act}
theorem cD (F:iN ρ n σ a) {x:Operand} {g:GV} (h:hN σ x=some g):Rl ρ g (a.eval x):=by
 cases x with
 |tmp t=>exact F.slot t g h
 |const v=>exact KR h
 |global g=>cases h
 |func f=>cases h;exact Kp .nil .nil
theorem By (F:iN ρ n σ a):∀{xs:List Operand} {gs:List GV},Ci σ xs=some gs->tP ρ gs (xs.map a.eval)
 | [],gs,h=>by cases h;exact .nil
 |x::xs,gs,h=>by
  obtain⟨v,h1,h2⟩:=aE.1 (show ob (hN σ x) (fun v=>ob (Ci σ xs) fun vs=>some (v::vs))=some gs from h)
  obtain⟨vs,h3,h4⟩:=aE.1 h2
  cases h4
  exact .cons (cD F h1) (By F h3)
def Ux (ρ:eL) (gs:List (Nat×GV)) (vs:List (Nat×Value)):Prop:=gs.map (·.1)=vs.map (·.1)∧tP ρ (gs.map (·.2)) (vs.map (·.2))
theorem zQ (F:iN ρ n σ a):∀{xs:List (Nat×Operand)} {gs:List (Nat×GV)},rD σ xs=some gs->Ux ρ gs (xs.map fun p=>(p.1,a.eval p.2))
 | [],gs,h=>by cases h;exact⟨rfl,.nil⟩
 |x::xs,gs,h=>by
  obtain⟨v,h1,h2⟩:=aE.1 (show ob (hN σ x.2) (fun v=>ob (rD σ xs) fun vs=>some ((x.1,v)::vs))=some gs from h)
  obtain⟨vs,h3,h4⟩:=aE.1 h2
  cases h4
  obtain⟨e1,e2⟩:=zQ F h3
  exact⟨by simp only[List.map_cons,e1],.cons (cD F h1) e2⟩
end
def zZ (P:Program) (ρ:eL) (s:Sem Value) (g:GV):Prop:=∃v,Rl ρ g v∧∀w,s.run P w = .ok v w
structure eB (P:Program) (tb:TB):Prop where
 tab:∀{T d},tb T=some d->pE P T d
 /-- structs of leaves may be compared -/
 eqs:∀{T fs},GW T=true->nI tb T=some fs->tY tb fs=true->P.stoodInHeld T=false∧∀f∈fs,f.name ≠ "_"
noncomputable def UV (P:Program) (tb:TB):Bool:=(List.range 512).all fun T=>bif GW T then(Option.casesOn (motive:=fun _=>Bool) (nI tb T) true fun fs=>bif tY tb fs then(!P.stoodInHeld T&&fs.all fun f=> !(f.name == "_"))else true)else true
theorem TD {P:Program} {tb:TB} (h:UV P tb=true) {T:Nat} {fs:List Field} (h5:GW T=true) (hf:nI tb T=some fs) (hl:tY tb fs=true):P.stoodInHeld T=false∧∀f∈fs,f.name ≠ "_":=by
 have h6:T<512:=by
  obtain⟨_,h⟩:=bL.1 (show(bif Nat.blt 31 T then(bif Nat.blt T 512 then some ()else none)else none)=some () by
   unfold GW at h5
   cases e:Nat.blt 31 T<;>rw[e]at h5
   ·cases h5
   ·rw[cond_true]at h5;rw[h5];rfl)
  obtain⟨h,_⟩:=bL.1 h
  simpa [Nat.blt_eq]using h
 have:=List.all_eq_true.1 h T (List.mem_range.2 h6)
 rw[h5,cond_true,hf]at this
 have this:(bif tY tb fs then(!P.stoodInHeld T&&fs.all fun f=> !(f.name == "_"))else true)=true:=this
 rw[hl,cond_true,Bool.and_eq_true]at this
 exact⟨by simpa using this.1,fun f hfm=>by simpa using List.all_eq_true.1 this.2 f hfm⟩
section
variable {P:Program} {tb:TB} {ρ:eL} {V U W:Value} {v u t g:GV}
theorem Ll {k:IntKind} {z:Int} {g:GV} (h:gw k z=some g):g = .int k (k.wrap z):=by
  unfold gw at h
  rw[OP]at h
  cases hk:Sd k with
  | true =>
    rw[hk]at h
    obtain⟨h1,h2⟩:=bL.1 h
    cases h2
    have e:k = .i64:=by cases k<;>first|rfl|cases hk
    subst e
    have : -9223372036854775808<=z∧z<=9223372036854775807:=by
      cases z with
      | ofNat a =>
          have : a < 9223372036854775808 := by simpa [OS, Nat.blt_eq] using h1
          simp only[Int.ofNat_eq_natCast];omega
      | negSucc a =>
          have : a < 9223372036854775808 := by simpa [OS, Nat.blt_eq] using h1
          omega
    rw[Hu this.1 this.2]
  | false =>
    rw[hk]at h
    simp only[cond_false,OP]at h
    cases h;rfl
theorem Qu {op:BinOp} {k:IntKind} {a b:Int} {T:TypeId} (hs:EM op=false) (h:UO op k a b=some g):∃v,Rl ρ g v∧binOp op T (.int k a) (.int k b) = .pure v:=by
 have hb:∀{p:Prop} [Decidable p] {c:Bool},c=decide p->fb c=some g->Rl ρ g (.bool (decide p)):=fun e h=>by rw[Fu]at h;cases h;rw[e];exact .bool _
 have hsem:∀op',EM op'=false->DO (binOp op' 0 (.int k a) (.int k b))=some g->∃v,Rl ρ g v∧binOp op' T (.int k a) (.int k b) = .pure v:=fun op' hs' h=>by
  obtain⟨v,h1,h2⟩:=Mh (ρ:=ρ) h
  refine⟨v,h1,?_⟩
  rw[<-h2];cases op'<;>first|rfl|cases hs'
 cases op with
 |add=>exact⟨_,by rw[Ll h];exact .int _ _,by simp[binOp,Op.intArith];rfl⟩
 |sub=>exact⟨_,by rw[Ll h];exact .int _ _,by simp[binOp,Op.intArith];rfl⟩
 |eql=>exact⟨.bool (decide (a=b)),hb (DD a b) h,by simp[binOp,Op.intCmp];rfl⟩
 |neq=>exact⟨.bool (decide (¬a=b)),hb (by rw[DD];simp) h,by simp[binOp,Op.intCmp];rfl⟩
 |lss=>exact⟨.bool (decide (a<b)),hb (DJ a b) h,by simp[binOp,Op.intCmp];rfl⟩
 |leq=>exact⟨.bool (decide (a<=b)),hb (by rw[DJ,<-decide_not];exact decide_eq_decide.2 (by omega)) h,by simp[binOp,Op.intCmp];rfl⟩
 |gtr=>exact⟨.bool (decide (b<a)),hb (DJ b a) h,by simp[binOp,Op.intCmp];rfl⟩
 |geq=>exact⟨.bool (decide (b<=a)),hb (by rw[DJ,<-decide_not];exact decide_eq_decide.2 (by omega)) h,by simp[binOp,Op.intCmp];rfl⟩
 |shl=>cases hs
 |shr=>cases hs
 |mul=>exact hsem .mul hs h
 |quo=>exact hsem .quo hs h
 |rem=>exact hsem .rem hs h
 |and=>exact hsem .and hs h
 |or=>exact hsem .or hs h
 |xor=>exact hsem .xor hs h
 |andNot=>exact hsem .andNot hs h
end
end
section
theorem tF (b:UInt8) (l:List UInt8):jX (b::l)=b.toNat+256*jX l:=rfl
theorem CL:∀{x y:List UInt8},x.length=y.length->jX x=jX y->x=y
 | [],[],_,_=>rfl
 | [],_::_,h,_=>by simp at h
 |_::_,[],h,_=>by simp at h
 |a::x,b::y,h,e=>by
  rw[tF,tF]at e
  have ha:=a.toNat_lt
  have hb:=b.toNat_lt
  have e1:a.toNat=b.toNat:=by omega
  have e2:jX x=jX y:=by omega
  rw[UInt8.toNat_inj.1 e1,CL (by simpa using h) e2]
theorem Dz:∀(x:List UInt8) (n:Nat),jX x / 256^n=jX (x.drop n)
 |x,0=>by simp
 | [],n+1=>by simp[jX]
 |b::x,n+1=>by
  rw[tF,List.drop_succ_cons,<-Dz x n,Nat.pow_succ,Nat.mul_comm (256^n) 256,<-Nat.div_div_eq_div_mul]
  have:=b.toNat_lt
  congr 1
  omega
theorem GU:∀(x:List UInt8) (n:Nat),jX x%256^n=jX (x.take n)
 |x,0=>by simp[jX,Nat.mod_one]
 | [],n+1=>by simp[jX]
 |b::x,n+1=>by
  rw[tF,List.take_succ_cons,tF,<-GU x n,Nat.pow_succ,Nat.mul_comm (256^n) 256,Nat.mod_mul]
  have hb:=b.toNat_lt
  have e1:(b.toNat+256*jX x)%256=b.toNat:=by omega
  have e2:(b.toNat+256*jX x) / 256=jX x:=by omega
  rw[e1,e2]
theorem VA (n l:Nat):Nat.shiftRight n (Nat.mul 8 l)=n / 256^l:=by
 show n >>> (8*l)=_
 rw[Nat.shiftRight_eq_div_pow,Nat.pow_mul]
theorem Vj (k:Nat):Nat.pow 2 (Nat.mul 8 k)=256^k:=by
 show 2^(8*k)=_
 rw[Nat.pow_mul]
theorem OL (x:List UInt8) (l k:Nat):Nat.mod (Nat.shiftRight (jX x) (Nat.mul 8 l)) (Nat.pow 2 (Nat.mul 8 k))=jX ((x.drop l).take k):=by
 rw[VA,Vj]
 show jX x / 256^l%256^k=_
 rw[Dz,GU]
theorem Ly (x:List UInt8) (i:Nat) (h:i<x.length):Nat.mod (Nat.shiftRight (jX x) (Nat.mul 8 i)) 256=(x[i]).toNat:=by
 rw[VA]
 show jX x / 256^i%256=_
 rw[Dz,List.drop_eq_getElem_cons h,tF]
 have:=(x[i]).toNat_lt
 omega
theorem MP (s:ByteArray) (i:Nat):s[i]? = (bI s)[i]?:=by
 unfold bI
 by_cases h:i<s.size
 ·rw[getElem?_pos s i h,Array.getElem?_toList,Array.getElem?_eq_getElem (by simpa using h)];rfl
 ·rw[getElem?_neg s i h]
  rw[List.getElem?_eq_none (by have:=Lib.size_eq s;omega)]
section
variable {P:Program} {tb:TB} {ρ:eL} {V U W:Value} {v u t g:GV}
theorem UN (a b:ByteArray):(a==b)=(a.toList==b.toList):=by
 rw[Lib.toList_data,Lib.toList_data]
 obtain⟨⟨x⟩⟩:=a
 obtain⟨⟨y⟩⟩:=b
 have:((⟨⟨x⟩⟩:ByteArray)==⟨⟨y⟩⟩)=((⟨x⟩:Array UInt8)==⟨y⟩):=rfl
 rw[this]
 simp
theorem TC {a b:Nat×Nat} {s r:ByteArray} (e1:a.1=jX (bI s)) (e2:a.2=(bI s).length) (e3:b.1=jX (bI r)) (e4:b.2=(bI r).length):Qg a b=(s.toList==r.toList):=by
 rw[Lib.toList_data,Lib.toList_data]
 unfold Qg
 rw[e1,e2,e3,e4]
 by_cases hl:(bI s).length=(bI r).length
 ·have hb:Nat.beq (bI r).length (bI r).length=true:=by simp
  rw[hl,hb,cond_true]
  by_cases he:jX (bI s)=jX (bI r)
  ·have:=CL hl he
   unfold bI at this
   rw[he,this];simp
  ·rw[kR he]
   symm
   rw[beq_eq_false_iff_ne]
   intro hh;exact he (by unfold bI;rw[hh])
 ·rw[kR hl,cond_false]
  symm
  rw[beq_eq_false_iff_ne]
  intro hh;exact hl (by unfold bI;rw[hh])
theorem Nk (hG:eB P tb) {T:TypeId} {t:Ty} (ht:tb T=some t) {q:Bool} (hv:Rl ρ v V) (hu:Rl ρ u U) (h:KN t v u=some q) (m:Nat) (w:World):(Op.equalIn (m+1) T V U).run P w = .ok q w:=by
 have hun:=(hG.tab ht).run_und w
 unfold KN at h
 cases hi:v.asI with
 |some a=>
  rw[hi]at h
  obtain⟨b,hb,h⟩:=aE.1 h
  obtain⟨k,hk,h⟩:=aE.1 h
  obtain⟨hkk,h⟩:=bL.1 h
  cases h
  rw[kQ hi]at hv
  rw[kQ hb]at hu
  rw[hv.int_inv,hu.int_inv,<-Fq hkk]
  rw[Cs hk]at hun
  unfold Op.equalIn
  rw[DD]
  simp[hun]
  rfl
 | none =>
  rw[hi]at h
  simp only at h
  cases hs:v.asStr with
  |some a=>
   rw[hs]at h
   obtain⟨b,hb,h⟩:=aE.1 h
   obtain⟨hd,h⟩:=bL.1 h
   cases h
   rw[pG hs]at hv
   rw[pG hb]at hu
   obtain⟨s,rfl,e1,e2⟩:=hv.str_inv
   obtain⟨r,rfl,e3,e4⟩:=hu.str_inv
   rw[yN hd]at hun
   rw[TC e1 e2 e3 e4,<-UN]
   unfold Op.equalIn
   simp[hun]
  |none=>
   rw[hs]at h
   obtain⟨a,ha,h⟩:=aE.1 (show ob v.asB _=some q from h)
   obtain⟨b,hb,h⟩:=aE.1 h
   obtain⟨hd,h⟩:=bL.1 h
   cases h
   rw[AX ha]at hv
   rw[AX hb]at hu
   rw[hv.bool_inv,hu.bool_inv]
   rw[Le hd]at hun
   unfold Op.equalIn
   rw[Cg]
   simp[hun]
theorem Hc {t:Ty} (h:BK t=true):(∃k,t.desc = .int k)∨t.desc = .string∨t.desc = .bool:=by
 unfold BK at h
 cases hb:VU t.desc with
 |true=>exact .inr (.inr (Le hb))
 | false =>
  rw[hb]at h
  cases hs:Ep t.desc with
  |true=>exact .inr (.inl (yN hs))
  |false=>
   rw[hs]at h
   cases hi:Qi t.desc with
   |none=>rw[hi]at h;cases h
   |some k=>exact .inl ⟨k,Cs hi⟩
theorem Ej {f:Field} {fs:List Field} (h:tY tb (f::fs)=true):∃t,tb f.type=some t∧BK t=true∧tY tb fs=true:=by
 have h:(Option.casesOn (motive:=fun _=>Bool) (tb f.type) false fun t=>bif BK t then tY tb fs else false)=true:=h
 cases ht:tb f.type with
 |none=>rw[ht]at h;cases h
 |some t=>
  rw[ht]at h
  have h:(bif BK t then tY tb fs else false)=true:=h
  cases hl:BK t with
  |false=>rw[hl]at h;cases h
  |true=>rw[hl]at h;exact⟨t,rfl,hl,h⟩
theorem JD (hG:eB P tb) {T:TypeId} {t:Ty} (ht:tb T=some t) (hl:BK t=true) {cs:Array Value} {off:Nat} {x:Value} (hx:cs[off]? = some x) (w:World):(part T cs off).run P w = .ok x w:=by
 have hun:=(hG.tab ht).run_und w
 have ha:(isAgg T).run P w = .ok false w:=by
  unfold isAgg
  rcases Hc hl with⟨k,e⟩|e|e<;>rw[e]at hun<;>simp[hun]
 unfold part
 simp[ha,hx]
theorem JB (hG:eB P tb) {cs ds:List GV} {vs us:List Value} (hv:tP ρ cs vs) (hu:tP ρ ds us) (m:Nat) (w:World):∀{fs:List Field} {q:Bool},QO tb cs ds fs=some q->tY tb fs=true->(∀f∈fs,f.name ≠ "_")->
  Sem.run P (forIn fs ((none,()):Option Bool×Unit) fun f __s=>if f.name = "_" then pure (ForInStep.yield (none,()))else do
   let __do_lift <-part f.type vs.toArray f.offset
   let __do_lift_1 <-part f.type us.toArray f.offset
   let __do_lift <-Op.equalIn (m+1) f.type __do_lift __do_lift_1
   if __do_lift=false then pure (ForInStep.done (some false,()))else pure (ForInStep.yield (none,()))) w = .ok (if q then none else some false,()) w
 | [],q,h,_,_=>by
  have:q=true:=by have h:some true=some q:=h;cases h;rfl
  subst this
  simp
 | f :: fs, q, h, hl, hn => by
  obtain⟨t,ht,h⟩:=aE.1 (show ob (tb f.type) _=some q from h)
  obtain⟨a,ha,h⟩:=aE.1 h
  obtain⟨b,hb,h⟩:=aE.1 h
  obtain⟨e,he,h⟩:=aE.1 h
  obtain⟨t',ht',hlt,hlf⟩:=Ej hl
  rw[ht]at ht';cases ht'
  rw[rE]at ha hb
  obtain⟨x,hx,hrx⟩:=hv.get ha
  obtain⟨y,hy,hry⟩:=hu.get hb
  have p1:=JD hG ht hlt (cs:=vs.toArray) (by simpa using hx) w
  have p2:=JD hG ht hlt (cs:=us.toArray) (by simpa using hy) w
  have p3:=Nk hG ht hrx hry he m w
  have hne:=hn f List.mem_cons_self
  cases e with
  |false=>
   have:q=false:=by have h:some false=some q:=h;cases h;rfl
   subst this
   simp[List.forIn_cons,hne,p1,p2,p3]
  |true=>
   have ih:=JB hG hv hu m w (show QO tb cs ds fs=some q from h) hlf fun f hf=>hn f (List.mem_cons_of_mem _ hf)
   simp[List.forIn_cons,hne,p1,p2,p3,ih]
theorem MY (hG:eB P tb) {T:TypeId} {fs:List Field} (h5:GW T=true) (hfs:nI tb T=some fs) (hl:tY tb fs=true) {cs ds:List GV} {vs us:List Value} (hv:tP ρ cs vs) (hu:tP ρ ds us) {q:Bool} (h:QO tb cs ds fs=some q) (w:World):
  (Op.equal T (.agg vs.toArray) (.agg us.toArray)).run P w = .ok q w:=by
 obtain⟨hs,hn⟩:=hG.eqs h5 hfs hl
 obtain⟨t,ht,h'⟩:=aE.1 (show ob (tb T) _=some fs from hfs)
 obtain⟨a,ha,h'⟩:=aE.1 h'
 cases h'
 have hun:=(hG.tab ht).run_und w
 rw[IB ha]at hun
 obtain⟨a⟩:=a
 have key:∀m,(Op.equalIn (m+1+1) T (.agg vs.toArray) (.agg us.toArray)).run P w = .ok q w:=fun m=>by
  have k:=JB hG hv hu m w h hl hn
  unfold Op.equalIn
  simp[hun,hs]
  simp only[]at k
  rw[k]
  cases q<;>simp
 exact key 9998
theorem DC (hG:eB P tb):∀(m:Nat) {T:TypeId} {t:Ty},tb T=some t->BK t=true->P.eqGuardType (m+1) T=false:=fun m T t ht hl=>by
 have hun:=(hG.tab ht).und
 unfold Program.eqGuardType
 rcases Hc hl with⟨k,e⟩|e|e<;>rw[e]at hun<;>simp[hun]
theorem Fp (hG:eB P tb) {T:TypeId} {fs:List Field} (hfs:nI tb T=some fs) (hl:tY tb fs=true):P.eqGuardType P.depth T=false:=by
 obtain⟨t,ht,h'⟩:=aE.1 (show ob (tb T) _=some fs from hfs)
 obtain⟨a,ha,h'⟩:=aE.1 h'
 cases h'
 have hun:=(hG.tab ht).und
 rw[IB ha]at hun
 have key:∀m,P.eqGuardType (m+2) T=false:=fun m=>by
  unfold Program.eqGuardType
  rw[hun]
  simp only
  rw[Array.any_eq_false']
  intro f hf
  have:f∈a.toList:=by simpa using hf
  have hlf:∀(l:List Field),tY tb l=true->∀f∈l,∃t,tb f.type=some t∧BK t=true:=by
   intro l
   induction l with
   |nil=>intro _ f hf;cases hf
   |cons x l ih=>
    intro h f hf
    obtain⟨t,h1,h2,h3⟩:=Ej h
    rcases List.mem_cons.1 hf with rfl|hf
    ·exact⟨t,h1,h2⟩
    ·exact ih h3 f hf
  obtain⟨t',h1,h2⟩:=hlf _ hl f this
  simp[DC hG m h1 h2]
 unfold Program.depth
 exact key _
theorem Ng (hG:eB P tb) {op:BinOp} {T:TypeId} {fs:List Field} (hfs:nI tb T=some fs) (hl:tY tb fs=true) (x y:Operand) (a b:Array Value) (w:World):(eqGuard op T x y (.agg a) (.agg b)).run P w = .ok () w:=by
 have hg:=Fp hG hfs hl
 unfold eqGuard
 cases op<;>simp[hg]
theorem Cd {op:BinOp} {T:TypeId} {q:Bool} {V U:Value} {x y:Operand} (hg:∀w,(eqGuard op T x y V U).run P w = .ok () w) (he:∀w,(Op.equal T V U).run P w = .ok q w) (h1:binOp .eql T V U=(do pure (.bool (<-Op.equal T V U)))) (h2:binOp .neq T V U=(do pure (.bool (!(<-Op.equal T V U))))) (h:Qt op q true=some g):
  zZ P ρ (do eqGuard op T x y V U;binOp op T V U) g:=by
 cases op with
 |eql=>exact⟨.bool q,by have h':fb (LA q true)=some g:=h;rw[Fu,Cg]at h';cases h';cases q<;>exact .bool _,fun w=>by have a:=hg w;have b:=he w;rw[h1];simp[a,b]⟩
 |neq=>exact⟨.bool (!q),by have h':fb (!LA q true)=some g:=h;rw[Fu,Cg]at h';cases h';cases q<;>exact .bool _,fun w=>by have a:=hg w;have b:=he w;rw[h2];simp[a,b]⟩
 |_=>cases h
theorem PX (hG:eB P tb) {op:BinOp} {T:TypeId} (x y:Operand) (hv:Rl ρ v V) (hu:Rl ρ u U) (h:PW tb op T v u=some g):zZ P ρ (do eqGuard op T x y V U;binOp op T V U) g:=by
 unfold PW at h
 cases ha:v.asA with
 |some cs=>
  rw[ha]at h
  obtain⟨ds,hd,h⟩:=aE.1 (show ob u.asA _=some g from h)
  obtain⟨h5,h⟩:=bL.1 h
  obtain⟨fs,hfs,h⟩:=aE.1 h
  obtain⟨hl,h⟩:=bL.1 h
  obtain⟨q,hq,h⟩:=aE.1 h
  rw[Kv ha]at hv
  rw[Kv hd]at hu
  obtain⟨vs,rfl,hr,_⟩:=hv.agg_inv
  obtain⟨us,rfl,hr',_⟩:=hu.agg_inv
  exact Cd (Ng hG hfs hl x y _ _) (MY hG h5 hfs hl hr hr' hq) rfl rfl h
 | none =>
  rw[ha]at h
  obtain⟨hz,h⟩:=bL.1 (show(bif u.isSnil then _ else none)=some g from h)
  obtain⟨n,hn,h⟩:=aE.1 h
  obtain⟨t,ht,h⟩:=aE.1 h
  obtain⟨e,he,h⟩:=aE.1 h
  rw[tG hz]at hu
  have hU:=hu.snil_inv
  subst hU
  have hun:=fun w=>(hG.tab ht).run_und w
  rw[Ct he]at hun
  cases hvz:v.isSnil with
  | true =>
   rw[hvz]at h
   rw[tG hvz]at hv
   have hV:=hv.snil_inv
   subst hV
   refine Cd (fun w=> ?_) (q:=true) (fun w=> ?_) rfl rfl h
   ·unfold eqGuard;cases op<;>simp
   ·have:(Op.equalIn (9999+1) T (.slice none 0 0) (.slice none 0 0)).run P w = .ok true w:=by
     unfold Op.equalIn
     simp[hun w]
    exact this
  | false =>
   rw[hvz]at h
   unfold QY at hn
   rw[hvz]at hn
   obtain⟨s,hs,hn⟩:=aE.1 (show ob v.asS _=some n from hn)
   rw[Ae hs]at hv
   obtain⟨l,cap,A,hl,rfl,_,_⟩:=hv.sl_inv
   refine Cd (fun w=> ?_) (q:=false) (fun w=> ?_) rfl rfl h
   ·unfold eqGuard;cases op<;>simp
   ·have:(Op.equalIn (9999+1) T (.slice (some A) s.2.2.1 cap) (.slice none 0 0)).run P w = .ok false w:=by
     unfold Op.equalIn
     simp[hun w]
    exact this
theorem Eg:∀(x y:List UInt8),jX (x++y)=jX x+256^x.length*jX y
 | [],y=>by simp[jX]
 |b::x,y=>by
  rw[List.cons_append,tF,tF,Eg x y,List.length_cons,Nat.pow_succ]
  rw[Nat.mul_add,Nat.mul_comm (256^x.length) 256,Nat.mul_assoc]
  omega
theorem Lw {a b:Nat×Nat} {s r:ByteArray} (e1:a.1=jX (bI s)) (e2:a.2=(bI s).length) (e3:b.1=jX (bI r)) (e4:b.2=(bI r).length) (h:Ts a b=some g) (w:World):Rl ρ g (.string (s++r))∧(Op.stringOp .add s r).run P w = .ok (.string (s++r)) w:=by
 unfold Ts at h
 obtain⟨hl,h⟩:=bL.1 h
 rw[yK,yK]at h
 cases h
 have hl:a.2+b.2<16777216:=by simpa [Nat.blt_eq]using hl
 have hb:bI (s++r)=bI s++bI r:=by
  unfold bI
  obtain⟨⟨x⟩⟩:=s
  obtain⟨⟨y⟩⟩:=r
  simp
 constructor
 ·have h1:Nat.add a.1 (Nat.mul (Nat.pow 2 (Nat.mul 8 a.2)) b.1)=jX (bI (s++r)):=by
   rw[hb,Eg,Vj,e1,e2,e3];rfl
  have h2:Nat.add a.2 b.2=(bI (s++r)).length:=by rw[hb,List.length_append,e2,e4];rfl
  rw[h1,h2]
  exact .str _
 ·have h3:(s.size:Int)+(r.size:Int)<=9223372036854775807:=by
   have e5:=Lib.size_eq s
   have e6:=Lib.size_eq r
   have e7:(bI s).length=s.data.size:=by unfold bI;simp
   have e8:(bI r).length=r.data.size:=by unfold bI;simp
   have e9:s.data.toList.length=s.data.size:=by simp
   have e10:r.data.toList.length=r.data.size:=by simp
   omega
  have h4:¬((((s.size+r.size:Nat)):Int)>IntKind.i64.max):=by
   show¬((((s.size+r.size:Nat)):Int)>9223372036854775807)
   omega
  unfold Op.stringOp
  simp only[]
  rw[if_neg h4]
  rfl
theorem Mt (hG:eB P tb) {op:BinOp} {T:TypeId} (x y:Operand) (hv:Rl ρ v V) (hu:Rl ρ u U) (h:yP tb op T v u=some g):zZ P ρ (do eqGuard op T x y V U;binOp op T V U) g:=by
 unfold yP at h
 cases hi:v.asI with
 | some a =>
  rw[hi]at h
  obtain⟨b,hb,h⟩:=aE.1 h
  rw[kQ hi]at hv
  rw[kQ hb]at hu
  rw[hv.int_inv,hu.int_inv]
  have hg:∀w,(eqGuard op T x y (.int a.1 a.2) (.int b.1 b.2)).run P w = .ok () w:=fun w=>iZ w
  cases hs:EM op with
  |true=>
   rw[hs]at h
   obtain⟨z,h1,h2⟩:=Mh (ρ:=ρ) h
   have e:binOp op T (.int a.1 a.2) (.int b.1 b.2)=binOp op 0 (.int a.1 a.2) (.int b.1 b.2):=by cases op<;>first|rfl|cases hs
   exact⟨z,h1,fun w=>by rw[e,h2];simp[hg w]⟩
  |false=>
   rw[hs]at h
   simp only[cond_false]at h
   obtain⟨hk,h⟩:=bL.1 h
   have hk:=Fq hk
   obtain⟨z,h1,h2⟩:=Qu (ρ:=ρ) (T:=T) hs h
   exact⟨z,h1,fun w=>by rw[<-hk,h2];have:=hg w;rw[<-hk]at this;simp[this]⟩
 | none =>
  rw[hi]at h
  simp only at h
  cases hstr:v.asStr with
  | some a =>
   rw[hstr]at h
   obtain⟨b,hb,h⟩:=aE.1 h
   rw[pG hstr]at hv
   rw[pG hb]at hu
   obtain⟨s,rfl,e1,e2⟩:=hv.str_inv
   obtain⟨r,rfl,e3,e4⟩:=hu.str_inv
   have heq:Qg a b=(s.toList==r.toList):=by
    rw[Lib.toList_data,Lib.toList_data]
    unfold Qg
    rw[e1,e2,e3,e4]
    by_cases hl:(bI s).length=(bI r).length
    ·have hb:Nat.beq (bI r).length (bI r).length=true:=by simp
     rw[hl,hb,cond_true]
     by_cases he:jX (bI s)=jX (bI r)
     ·have:=CL hl he
      unfold bI at this
      rw[he,this];simp
     ·rw[kR he]
      symm
      rw[beq_eq_false_iff_ne]
      intro hh;exact he (by unfold bI;rw[hh])
    ·rw[kR hl,cond_false]
     symm
     rw[beq_eq_false_iff_ne]
     intro hh;exact hl (by unfold bI;rw[hh])
   have hgd:∀w,(eqGuard op T x y (.string s) (.string r)).run P w = .ok () w:=fun w=>by unfold eqGuard;cases op<;>simp
   have key:∀c:Bool,fb c=some g->Rl ρ g (.bool c):=fun c hc=>by rw[Fu]at hc;cases hc;exact .bool _
   cases op with
   |eql=>exact⟨_,key _ h,fun w=>by rw[heq];have:=hgd w;simp[this,binOp,Op.stringOp]⟩
   |neq=>exact⟨_,key _ h,fun w=>by rw[heq];have:=hgd w;simp[this,binOp,Op.stringOp]⟩
   |add=>exact⟨_,(Lw (P:=P) e1 e2 e3 e4 h default).1,fun w=>by have:=hgd w;have k:=(Lw (ρ:=ρ) (P:=P) e1 e2 e3 e4 h w).2;simp only[Sem.run_bind,this,Result.andThen_ok,binOp,k]⟩
   |_=>cases h
  | none =>
   rw[hstr]at h
   simp only at h
   cases ha:v.asB with
   | none =>
    rw[ha]at h
    simp only at h
    cases h1:v.isInil with
    |false=>rw[h1]at h;exact PX hG x y hv hu h
    |true=>
    rw[h1]at h
    have h':=h
    clear h
    obtain⟨h2,h⟩:=bL.1 (show(bif u.isInil then _ else none)=some g from h')
    clear h'
    obtain⟨t,ht,h'⟩:=aE.1 h
    clear h
    obtain⟨hd,hfin⟩:=bL.1 h'
    clear h'
    have e1:v = .inil:=by cases v<;>first|rfl|cases h1
    have e2:u = .inil:=by cases u<;>first|rfl|cases h2
    subst e1;subst e2
    cases hv;cases hu
    obtain⟨ms,hms,h0⟩:∃ms,t.desc = .interface ms∧ms.size=0:=by
     cases hq:t.desc<;>rw[hq]at hd<;>first|(exact⟨_,rfl,Nat.eq_of_beq_eq_true hd⟩)|cases hd
    have hun:∀w:World,_:=fun w=>(hG.tab ht).run_und w
    have h0':ms.isEmpty=true:=by simp[Array.isEmpty,h0]
    have hgi:∀w,(Op.eqGuardIn Op.maxDepth T .nilIface .nilIface).run P w = .ok false w:=fun w=>by
     have key:∀m:Nat,(Op.eqGuardIn (m+1) T .nilIface .nilIface).run P w = .ok false w:=by
      intro m
      unfold Op.eqGuardIn
      simp[hun w,hms,h0']
     exact key 9999
    have hei:∀w,(Op.equal T .nilIface .nilIface).run P w = .ok true w:=fun w=>by
     have key:∀m:Nat,(Op.equalIn (m+1) T .nilIface .nilIface).run P w = .ok true w:=by
      intro m
      unfold Op.equalIn
      simp[hun w,hms]
     exact key 9999
    have hgd:∀w,(eqGuard op T x y .nilIface .nilIface).run P w = .ok () w:=fun w=>by
     unfold eqGuard
     cases op<;>simp[hgi w]
     all_goals (split<;>simp)
    cases op with
    |eql=>cases hfin;exact⟨.bool true,.bool _,fun w=>by have h1:=hgd w;have h2:=hei w;simp[h1,binOp,h2]⟩
    |neq=>cases hfin;exact⟨.bool false,.bool _,fun w=>by have h1:=hgd w;have h2:=hei w;simp[h1,binOp,h2]⟩
    |_=>cases hfin
   | some a =>
    rw[ha]at h
    simp only at h
    obtain⟨b,hb,h⟩:=aE.1 h
    obtain⟨t,ht,h⟩:=aE.1 h
    obtain⟨hd,h⟩:=bL.1 h
    rw[AX ha]at hv
    rw[AX hb]at hu
    rw[hv.bool_inv,hu.bool_inv]
    have hgd:∀w,(eqGuard op T x y (.bool a) (.bool b)).run P w = .ok () w:=fun w=>by unfold eqGuard;cases op<;>simp
    have heq:∀w,(Op.equal T (.bool a) (.bool b)).run P w = .ok (a==b) w:=fun w=>by
     have hu:=(hG.tab ht).run_und w
     rw[Le hd]at hu
     have key:∀m:Nat,(Op.equalIn (m+1) T (.bool a) (.bool b)).run P w = .ok (a==b) w:=by
      intro m
      unfold Op.equalIn
      simp[hu]
     exact key 9999
    cases op with
    |eql=>exact⟨.bool (a==b),by have h':fb (LA a b)=some g:=h;rw[Fu,Cg]at h';cases h';exact .bool _,fun w=>by have h1:=hgd w;have h2:=heq w;simp[h1,binOp,h2]⟩
    |neq=>exact⟨.bool (!(a==b)),by have h':fb (!LA a b)=some g:=h;rw[Fu,Cg]at h';cases h';exact .bool _,fun w=>by have h1:=hgd w;have h2:=heq w;simp[h1,binOp,h2]⟩
    |_=>cases h
theorem Qc {op:UnOp} (hv:Rl ρ v V) (h:NA op v=some g):zZ P ρ (Op.unary op V) g:=by
 cases op with
 |neg=>
  obtain⟨a,ha,h⟩:=aE.1 (show ob v.asI _=some g from h)
  rw[kQ ha]at hv
  rw[hv.int_inv,Ll h]
  exact⟨_,.int _ _,fun w=>by simp[Op.unary,Op.intArith]⟩
 |not=>
  obtain⟨a,ha,h⟩:=aE.1 (show ob v.asB _=some g from h)
  rw[AX ha]at hv
  rw[hv.bool_inv]
  rw[Fu]at h;cases h
  exact⟨_,.bool _,fun w=>by simp[Op.unary]⟩
 |_=>cases h
theorem JM (hG:eB P tb) {S D:TypeId} (hv:Rl ρ v V) (h:Sr tb S D v=some g):zZ P ρ (convert S D V) g:=by
 obtain⟨a,ha,h⟩:=aE.1 (show ob v.asI _=some g from h)
 obtain⟨s,hs,h⟩:=aE.1 h
 obtain⟨k',hk',h⟩:=aE.1 h
 obtain⟨t,ht,h⟩:=aE.1 h
 obtain⟨k,hk,h⟩:=aE.1 h
 rw[OP]at h;cases h
 rw[kQ ha]at hv
 rw[hv.int_inv]
 refine⟨_,.int _ _,fun w=> ?_⟩
 have h1:=(hG.tab hs).run_und w
 have h2:=(hG.tab ht).run_und w
 rw[Cs hk']at h1
 rw[Cs hk]at h2
 simp[convert,h1,h2,Conv.intToInt]
theorem Jp (hv:Rl ρ v V) (h:v.nilck=some g):g=v∧∀(o:Oper) (x:Operand) (ev:Operand->Value),o.op = .nilCheck x->ev x=V->∀w,(execOp ev o).run P w = .ok (.value V) w:=by
 cases hv with
 |ptr off hl=>cases h;exact⟨rfl,fun o x ev ho hx w=>by simp[execOp,ho,hx]⟩
 |fn f h1 h2 h3 h4=>cases h;exact⟨rfl,fun o x ev ho hx w=>by simp[execOp,ho,hx]⟩
 |_=>cases h
theorem Eh (hG:eB P tb) {T:TypeId} {fs:List Field} (h:nI tb T=some fs):∃d,pE P T d∧d.desc = .struct fs.toArray:=by
 obtain⟨t,ht,h⟩:=aE.1 (show ob (tb T) _=some fs from h)
 obtain⟨a,ha,h⟩:=aE.1 h
 cases h
 exact⟨t,hG.tab ht,by rw[IB ha]⟩
theorem Hp (hG:eB P tb) {T:TypeId} {f:Nat} (hv:Rl ρ v V) (h:Az tb T f v=some g):zZ P ρ (Instr.fieldAt T V f) g:=by
 obtain⟨p,hp,h⟩:=aE.1 (show ob v.asP _=some g from h)
 obtain⟨fs,hfs,h⟩:=aE.1 h
 obtain⟨q,hq,h⟩:=aE.1 h
 obtain⟨tq,htq,h⟩:=aE.1 h
 obtain⟨h0,h⟩:=jV.1 h
 rw[yK]at h;cases h
 rw[AY hp]at hv
 obtain⟨l,hl,rfl⟩:=hv.ptr_inv
 obtain⟨d,hd,he⟩:=Eh hG hfs
 rw[rE]at hq
 refine⟨_,.ptr _ hl,fun w=> ?_⟩
 have h1:=hd.run_und w
 rw[he]at h1
 have hne:tq.size≠0:=fun e=>by rw[e]at h0;cases h0
 have e:l.off+(p.2+q.offset)=l.off+p.2+q.offset:=by omega
 show(Instr.fieldAt T (.pointer (some ⟨l.b,l.off+p.2,none⟩)) f).run P w = .ok (.pointer (some ⟨l.b,l.off+(p.2+q.offset),none⟩)) w
 rw[e]
 simp[Instr.fieldAt,h1,hq,Instr.sureAddr,fieldPlace,(hG.tab htq).run_size w,hne,dS]
theorem KQ (hG:eB P tb) {T:TypeId} {t:Ty} {cs:List GV} {vs:List Value} {o:Nat} (hT:pE P T t) (hr:tP ρ cs vs) (h1:∀v∈vs,one v=true) (h:yX t cs o=some g):zZ P ρ (part T vs.toArray o) g:=by
 unfold yX at h
 cases ha:xO t.desc with
 |true=>
  rw[ha]at h
  obtain⟨r,hs,h⟩:=aE.1 h
  cases h
  obtain⟨hb,rfl⟩:=Is hs
  refine⟨_,ED (hr.sub o t.size) (fun v hv=>h1 v (List.mem_of_mem_drop (List.mem_of_mem_take hv))),fun w=> ?_⟩
  have e1:=hT.run_agg w
  have e2:=hT.run_size w
  rw[ha]at e1
  simp[part,e1,e2]
 |false=>
  rw[ha]at h
  rw[cond_false,rE]at h
  obtain⟨x,hx,hr⟩:=hr.get h
  refine⟨x,hr,fun w=> ?_⟩
  have e1:=hT.run_agg w
  rw[ha]at e1
  simp[part,e1,hx]
theorem JP (hG:eB P tb) {T:TypeId} {f:Nat} (hv:Rl ρ v V) (h:Ss tb T f v=some g):zZ P ρ (Instr.field T V f) g:=by
 obtain⟨cs,hc,h⟩:=aE.1 (show ob v.asA _=some g from h)
 obtain⟨fs,hfs,h⟩:=aE.1 h
 obtain⟨q,hq,h⟩:=aE.1 h
 obtain⟨tq,htq,h⟩:=aE.1 h
 rw[Kv hc]at hv
 obtain⟨vs,rfl,hr,h1⟩:=hv.agg_inv
 obtain⟨d,hd,he⟩:=Eh hG hfs
 rw[rE]at hq
 obtain⟨x,hx,hrun⟩:=KQ (T:=q.type) hG (hG.tab htq) hr h1 h
 refine⟨x,hx,fun w=> ?_⟩
 have h2:=hd.run_und w
 rw[he]at h2
 have:=hrun w
 simp[Instr.field,h2,hq,asAgg,this]
theorem tE (hG:eB P tb) {T:TypeId} {e:TypeId×Ty} (h:xF tb T=some e):(∃d,pE P T d∧d.desc = .slice e.1)∧pE P e.1 e.2∧tb e.1=some e.2:=by
 obtain⟨t,ht,h⟩:=aE.1 (show ob (tb T) _=some e from h)
 obtain⟨a,ha,h⟩:=aE.1 h
 obtain⟨te,hte,h⟩:=aE.1 h
 cases h
 exact⟨⟨t,hG.tab ht,Ct ha⟩,hG.tab hte,hte⟩
theorem Hr (hG:eB P tb) {T:TypeId} (hv:Rl ρ v V) (hu:Rl ρ u U) (h:Li tb T v u=some g):zZ P ρ (Instr.indexAt T V U) g:=by
 obtain⟨n,hn,h⟩:=aE.1 (show ob u.asI _=some g from h)
 obtain⟨i,hi,h⟩:=aE.1 h
 rw[kQ hn]at hu
 rw[hu.int_inv,Cc hi]
 cases hp:v.asP with
 |some p=>
  rw[hp]at h
  rw[AY hp]at hv
  obtain⟨l,hl,rfl⟩:=hv.ptr_inv
  obtain⟨t,ht,h⟩:=aE.1 (show ob (tb T) _=some g from h)
  obtain⟨e,he,h⟩:=aE.1 h
  obtain⟨te,hte,h⟩:=aE.1 h
  obtain⟨hlt,h⟩:=bL.1 h
  rw[yK]at h;cases h
  refine⟨_,.ptr _ hl,fun w=> ?_⟩
  have h1:=(hG.tab ht).run_und w
  rw[Ld he]at h1
  have hlt:i<e.1:=by simpa [Nat.blt_eq]using hlt
  have ee:l.off+(p.2+i*te.size)=l.off+p.2+i*te.size:=by omega
  show(Instr.indexAt T (.pointer (some ⟨l.b,l.off+p.2,none⟩)) (.int n.1 i)).run P w = .ok (.pointer (some ⟨l.b,l.off+(p.2+i*te.size),none⟩)) w
  rw[ee]
  simp[Instr.indexAt,asIntOf,h1,Instr.sureAddr,hlt,(hG.tab hte).run_size w,dS]
 |none=>
  rw[hp]at h
  obtain⟨s,hs,h⟩:=aE.1 (show ob v.asS _=some g from h)
  rw[Ae hs]at hv
  obtain⟨l,cap,A,hl,rfl,hc,ha⟩:=hv.sl_inv
  obtain⟨te,hte,h⟩:=aE.1 (show ob (xF tb T) _=some g from h)
  obtain⟨hlt,h⟩:=bL.1 h
  rw[yK]at h;cases h
  obtain⟨⟨d,hd,hde⟩,hE,_⟩:=tE hG hte
  have hlt:i<s.2.2.1:=by simpa [Nat.blt_eq]using hlt
  rcases ha with ha|⟨rfl,_⟩
  ·omega
  refine⟨_,.ptr _ hl,fun w=> ?_⟩
  have h1:=hd.run_und w
  rw[hde]at h1
  have ee:l.off+(s.2.1+i*te.2.size)=l.off+s.2.1+i*te.2.size:=by omega
  show(Instr.indexAt T (.slice (some ⟨l.b,l.off+s.2.1,none⟩) s.2.2.1 cap) (.int n.1 i)).run P w = .ok (.pointer (some ⟨l.b,l.off+(s.2.1+i*te.2.size),none⟩)) w
  rw[ee]
  simp[Instr.indexAt,asIntOf,h1,hlt,hE.run_size w,dS]
theorem PV (hG:eB P tb) {T:TypeId} (hv:Rl ρ v V) (hu:Rl ρ u U) (h:Sp tb T v u=some g):zZ P ρ (Instr.index T V U) g:=by
 obtain⟨s,hs,h⟩:=aE.1 (show ob v.asStr _=some g from h)
 obtain⟨n,hn,h⟩:=aE.1 h
 obtain⟨i,hi,h⟩:=aE.1 h
 obtain⟨t,ht,h⟩:=aE.1 h
 obtain⟨hd,h⟩:=bL.1 h
 obtain⟨hlt,h⟩:=bL.1 h
 rw[yK]at h;cases h
 rw[kQ hn]at hu
 rw[hu.int_inv,Cc hi]
 rw[pG hs]at hv
 obtain⟨r,rfl,e1,e2⟩:=hv.str_inv
 have hlt:i<(bI r).length:=by rw[<-e2];simpa [Nat.blt_eq]using hlt
 rw[e1,Ly _ _ hlt]
 refine⟨_,.int _ _,fun w=> ?_⟩
 have h1:=(hG.tab ht).run_und w
 rw[yN hd]at h1
 have hb:=MP r i
 rw[List.getElem?_eq_getElem hlt]at hb
 simp[Instr.index,asIntOf,h1,hb]
theorem Mv {i:Nat} (hv:Rl ρ v V) (h:Ut i v=some g):zZ P ρ (Instr.extract V i) g:=by
 obtain⟨vs,hs,h⟩:=aE.1 (show ob v.asT _=some g from h)
 rw[SJ hs]at hv
 obtain⟨us,rfl,hr⟩:=hv.tup_inv
 rw[rE]at h
 obtain⟨x,hx,hr⟩:=hr.get h
 exact⟨x,hr,fun w=>by simp[Instr.extract,hx]⟩
theorem Mz {t1 t2 ty:TypeId} (hv:Rl ρ v V) (hu:Rl ρ u U) (h:Qb v u=some g):zZ P ρ (Builtin.max_ #[t1,t2] ty #[V,U]) g:=by
 obtain⟨a,ha,h⟩:=aE.1 (show ob v.asI _=some g from h)
 obtain⟨b,hb,h⟩:=aE.1 h
 obtain⟨hk,h⟩:=bL.1 h
 have hk:=Fq hk
 have hv':=hv;have hu':=hu
 rw[kQ ha]at hv';rw[kQ hb]at hu'
 rw[DJ]at h
 by_cases hlt:a.2<b.2
 ·rw[decide_eq_true hlt]at h;cases h
  refine⟨U,hu,fun w=> ?_⟩
  rw[hv'.int_inv,hu'.int_inv,<-hk]
  simp[Builtin.max_,Builtin.max2];omega
 ·rw[decide_eq_false hlt]at h;cases h
  refine⟨V,hv,fun w=> ?_⟩
  rw[hv'.int_inv,hu'.int_inv,<-hk]
  simp[Builtin.max_,Builtin.max2];omega
theorem MA {t1 t2 ty:TypeId} (hv:Rl ρ v V) (hu:Rl ρ u U) (h:RP v u=some g):zZ P ρ (Builtin.min_ #[t1,t2] ty #[V,U]) g:=by
 obtain⟨a,ha,h⟩:=aE.1 (show ob v.asI _=some g from h)
 obtain⟨b,hb,h⟩:=aE.1 h
 obtain⟨hk,h⟩:=bL.1 h
 have hk:=Fq hk
 have hv':=hv;have hu':=hu
 rw[kQ ha]at hv';rw[kQ hb]at hu'
 rw[DJ]at h
 by_cases hlt:b.2<a.2
 ·rw[decide_eq_true hlt]at h;cases h
  refine⟨U,hu,fun w=> ?_⟩
  rw[hv'.int_inv,hu'.int_inv,<-hk]
  simp[Builtin.min_,Builtin.min2];omega
 ·rw[decide_eq_false hlt]at h;cases h
  refine⟨V,hv,fun w=> ?_⟩
  rw[hv'.int_inv,hu'.int_inv,<-hk]
  simp[Builtin.min_,Builtin.min2];omega
theorem Mu (hG:eB P tb) {T ty:TypeId} (hv:Rl ρ v V) (h:VY tb T v=some g):zZ P ρ (Builtin.cap_ #[T] ty #[V]) g:=by
 obtain⟨t,ht,h⟩:=aE.1 (show ob (tb T) _=some g from h)
 obtain⟨e,he,h⟩:=aE.1 h
 obtain⟨hz,h⟩:=bL.1 h
 cases h
 rw[tG hz]at hv
 have hV:=hv.snil_inv
 subst hV
 have hun:=fun w=>(hG.tab ht).run_und w
 rw[Ct he]at hun
 exact⟨_,.int _ _,fun w=>by simp[Builtin.cap_,hun w,goInt]⟩
theorem Mw (hG:eB P tb) {T ty:TypeId} (hv:Rl ρ v V) (h:Lj tb T v=some g):zZ P ρ (Builtin.len_ #[T] ty #[V]) g:=by
 obtain⟨t,ht,h⟩:=aE.1 (show ob (tb T) _=some g from h)
 cases hs:v.asStr with
 |some s=>
  rw[hs]at h
  obtain⟨hd,h⟩:=bL.1 h
  cases h
  rw[pG hs]at hv
  obtain⟨r,rfl,e1,e2⟩:=hv.str_inv
  refine⟨_,.int _ _,fun w=> ?_⟩
  have h1:=(hG.tab ht).run_und w
  rw[yN hd]at h1
  rw[e2]
  have:r.size=(bI r).length:=Lib.size_eq r
  simp[Builtin.len_,h1,goInt,this]
 | none =>
  rw[hs]at h
  obtain⟨E,hE,h⟩:=aE.1 (show ob (Qj t.desc) _=some g from h)
  obtain⟨n,hn,h⟩:=aE.1 h
  cases h
  unfold QY at hn
  cases hz:v.isSnil with
  |true=>
   rw[hz]at hn;cases hn
   rw[tG hz]at hv
   rw[hv.snil_inv]
   exact⟨_,.int _ _,fun w=>Iq w (hG.tab ht) (Ct hE) _ _ _ _⟩
  |false=>
   rw[hz]at hn
   obtain⟨s,hs,hn⟩:=aE.1 (show ob v.asS _=some n from hn)
   cases hn
   rw[Ae hs]at hv
   obtain⟨l,cap,A,hl,rfl,hc,ha⟩:=hv.sl_inv
   exact⟨_,.int _ _,fun w=>Iq w (hG.tab ht) (Ct hE) _ _ _ _⟩
end
end
section
theorem LC (off:Nat):∀(vs:nT) (k:Nat) (cs:Array Value),off+k+vs.length<=cs.size->
  ((vs.zipIdx k).foldl (fun cs p=>cs.setIfInBounds (off+p.2) p.1) cs).size=cs.size∧
  ∀i,((vs.zipIdx k).foldl (fun cs p=>cs.setIfInBounds (off+p.2) p.1) cs)[i]? = if off+k<=i∧i<off+k+vs.length then vs[i - (off+k)]? else cs[i]?
 | [],k,cs,_=>⟨rfl,fun i=>by rw[if_neg (by simp)];rfl⟩
 | v :: vs, k, cs, h => by
  simp only[List.length_cons]at h
  simp only[List.zipIdx_cons,List.foldl_cons]
  obtain⟨h1,h2⟩:=LC off vs (k+1) (cs.setIfInBounds (off+k) v) (by simp;omega)
  refine⟨by rw[h1];simp,fun i=> ?_⟩
  rw[h2 i]
  by_cases e:i=off+k
  ·subst e
   rw[if_neg (by omega),if_pos (by simp),Array.getElem?_setIfInBounds_self_of_lt (by omega)]
   simp
  ·by_cases e2:off+(k+1)<=i∧i<off+(k+1)+vs.length
   ·rw[if_pos e2,if_pos (by simp;omega)]
    have:i - (off+k)=(i - (off+(k+1)))+1:=by omega
    rw[this,List.getElem?_cons_succ]
   ·rw[if_neg e2,if_neg (by simp;omega),Array.getElem?_setIfInBounds_ne (Ne.symm e)]
section
variable {P:Program} {tb:TB} {ρ:eL} {V U W:Value} {v u t g:GV}
structure Lo (ρ:eL) (cs:List GV) (a:Array Value):Prop where
 r:tP ρ cs a.toList
 one:∀v∈a.toList,Go.Sx.one v=true
theorem HX {a:Array Value} (h:∀v∈a.toList,one v=true) {i:Nat} {v:Value} (hv:a[i]? = some v):one v=true:=h v (by
 rw[<-Array.getElem?_toList]at hv;exact List.mem_of_getElem? hv)
theorem GY {cs c1 cc:List GV} {a:Array Value} {off sz:Nat} {x:Value} (hr:Lo ρ cs a) (hx:Rl ρ g x) (hc:g.cells=some cc) (hl:cc.length=sz) (h0:sz≠0) (hp:CO cc off cs=some c1):
  (x.cells.size=sz∧off+x.cells.size<=a.size)∧Lo ρ c1 (x.cells.zipIdx.foldl (fun cs (c,j)=>cs.setIfInBounds (off+j) c) a):=by
 obtain⟨vs,e,hvs,h1⟩:=hx.cells hc
 obtain⟨p1,p2,p3⟩:=EL hp
 have hne:cc≠[]:=by intro e;subst e;exact h0 hl.symm
 have p1:=p1 hne
 have hlen:cc.length=vs.length:=hvs.len
 have hsz:cs.length=a.size:=by have:=hr.r.len;simpa using this
 rw[e]
 have hfit:off+0+vs.length<=a.size:=by omega
 obtain⟨f1,f2⟩:=LC off vs 0 a hfit
 have ef:(vs.toArray.zipIdx.foldl (fun cs (c,j)=>cs.setIfInBounds (off+j) c) a)=((vs.zipIdx 0).foldl (fun cs p=>cs.setIfInBounds (off+p.2) p.1) a):=by
  simp
 refine⟨⟨by simp;omega,by simp;omega⟩,?_⟩
 rw[ef]
 refine⟨⟨by simp[f1,p2,hsz],fun i b c hb hc=> ?_⟩,fun y hy=> ?_⟩
 ·rw[p3 i]at hb
  rw[Array.getElem?_toList,f2 i]at hc
  simp only[Nat.add_zero]at hc
  by_cases hi:off<=i∧i<off+cc.length
  ·rw[if_pos hi]at hb
   rw[if_pos (by omega)]at hc
   exact hvs.at' _ _ _ hb hc
  ·rw[if_neg hi]at hb
   rw[if_neg (by omega)]at hc
   exact hr.r.at' i b c hb (by rw[Array.getElem?_toList];exact hc)
 ·obtain⟨i,hi⟩:=List.mem_iff_getElem?.1 hy
  rw[Array.getElem?_toList,f2 i]at hi
  split at hi
  ·exact h1 y (List.mem_of_getElem? hi)
  ·exact HX hr.one hi
theorem Bz {sz:Nat}:∀{l:List (Nat×GV)} {parts:List (Nat×Value)} {cs cs':List GV} {a:Array Value},Ux ρ l parts->Lo ρ cs a->DG sz l cs=some cs'->
  ∃a',Instr.fill (fun i=>some (i*sz,sz)) a parts=some a'∧Lo ρ cs' a'
 | [],parts,cs,cs',a,hp,hr,h=>by
  have:parts=[]:=by have:=hp.1;simpa using this.symm
  subst this;cases h;exact⟨a,rfl,hr⟩
 | p :: l, parts, cs, cs', a, hp, hr, h => by
  cases parts with
  |nil=>have:=hp.1;simp at this
  |cons q parts=>
   obtain⟨e1,e2⟩:=hp
   simp only[List.map_cons,List.cons.injEq]at e1
   obtain⟨y,ys,e3,h1,h2⟩:=e2.of_cons
   simp only[List.map_cons,List.cons.injEq]at e3
   obtain⟨rfl,rfl⟩:=e3
   obtain⟨cc,hcc,h⟩:=aE.1 (show ob p.2.cells (fun cc=>bif Nat.beq cc.length sz then(bif Nat.beq sz 0 then none else ob (CO cc (Nat.mul p.1 sz) cs) (DG sz l))else none)=some cs' from h)
   obtain⟨hl,h⟩:=bL.1 h
   obtain⟨h0,h⟩:=jV.1 h
   obtain⟨c1,hg,h⟩:=aE.1 h
   have h0:sz≠0:=fun e=>by rw[e]at h0;cases h0
   obtain⟨⟨s1,s2⟩,s3⟩:=GY hr h1 hcc (Nat.eq_of_beq_eq_true hl) h0 hg
   obtain⟨a',f1,f2⟩:=Bz ⟨e1.2,h2⟩ s3 h
   refine⟨a',?_,f2⟩
   have e:Nat.mul p.1 sz=q.1*sz:=by rw[<-e1.1];rfl
   rw[e]at s2 s3 f1
   show Instr.fill _ a ((q.1,q.2)::parts)=_
   unfold Instr.fill
   simp only
   rw[if_neg (by simp only[ne_eq,Bool.or_eq_true,decide_eq_true_eq,not_or,Decidable.not_not];omega)]
   exact f1
theorem G_ {ps:List (Nat×Nat)}:∀{l:List (Nat×GV)} {parts:List (Nat×Value)} {cs cs':List GV} {a:Array Value},Ux ρ l parts->Lo ρ cs a->KE ps l cs=some cs'->
  ∃a',Instr.fill (ps.toArray[·]?) a parts=some a'∧Lo ρ cs' a'
 | [],parts,cs,cs',a,hp,hr,h=>by
  have:parts=[]:=by have:=hp.1;simpa using this.symm
  subst this;cases h;exact⟨a,rfl,hr⟩
 | p :: l, parts, cs, cs', a, hp, hr, h => by
  cases parts with
  |nil=>have:=hp.1;simp at this
  |cons q parts=>
   obtain⟨e1,e2⟩:=hp
   simp only[List.map_cons,List.cons.injEq]at e1
   obtain⟨y,ys,e3,h1,h2⟩:=e2.of_cons
   simp only[List.map_cons,List.cons.injEq]at e3
   obtain⟨rfl,rfl⟩:=e3
   obtain⟨pl,hpl,h⟩:=aE.1 (show ob (Dn ps p.1) (fun q=>ob p.2.cells fun cc=>bif Nat.beq cc.length q.2 then(bif Nat.beq q.2 0 then none else ob (CO cc q.1 cs) (KE ps l))else none)=some cs' from h)
   obtain⟨cc,hcc,h⟩:=aE.1 h
   obtain⟨hl,h⟩:=bL.1 h
   obtain⟨h0,h⟩:=jV.1 h
   obtain⟨c1,hg,h⟩:=aE.1 h
   have h0:pl.2≠0:=fun e=>by rw[e]at h0;cases h0
   obtain⟨⟨s1,s2⟩,s3⟩:=GY hr h1 hcc (Nat.eq_of_beq_eq_true hl) h0 hg
   obtain⟨a',f1,f2⟩:=G_ ⟨e1.2,h2⟩ s3 h
   refine⟨a',?_,f2⟩
   rw[rE,e1.1]at hpl
   show Instr.fill _ a ((q.1,q.2)::parts)=_
   unfold Instr.fill
   have:ps.toArray[q.1]? = some pl:=by simpa using hpl
   simp only[this]
   rw[if_neg (by simp only[ne_eq,Bool.or_eq_true,decide_eq_true_eq,not_or,Decidable.not_not];omega)]
   exact f1
theorem rA (hG:eB P tb) {T:TypeId} {zc:List GV} (h:zG tb T=some zc):∃d,tb T=some d∧pE P T d∧Lo ρ zc d.zero.cells:=by
 obtain⟨d,hd,h⟩:=aE.1 (show ob (tb T) _=some zc from h)
 obtain⟨z,hz,h⟩:=aE.1 h
 obtain⟨vs,e,hr,h1⟩:=(KR (ρ:=ρ) hz).cells h
 exact⟨d,hd,hG.tab hd,by rw[e];exact⟨hr,h1⟩⟩
theorem FQ (hG:eB P tb):∀{fs:List Field} {pl:List (Nat×Nat)},Ir tb fs=some pl->fs.mapM (fun f=>(P.info? f.type).map fun i=>(f.offset,i.size))=some pl
 | [],pl,h=>by cases h;rfl
 |f::fs,pl,h=>by
  obtain⟨t,ht,h⟩:=aE.1 (show ob (tb f.type) (fun t=>ob (Ir tb fs) fun r=>some ((f.offset,t.size)::r))=some pl from h)
  obtain⟨r,hr,h⟩:=aE.1 h
  cases h
  obtain⟨i,hi,hs,_,_⟩:=(hG.tab ht).info
  simp[List.mapM_cons,hi,hs,FQ hG hr]
theorem Ho (hG:eB P tb) {T:TypeId} {l:List (Nat×GV)} {parts:List (Nat×Value)} (hp:Ux ρ l parts) (h:Lg tb T l=some g):zZ P ρ (Instr.build T parts.toArray) g:=by
 obtain⟨t,ht,h⟩:=aE.1 (show ob (tb T) _=some g from h)
 obtain⟨zc,hz,h⟩:=aE.1 h
 obtain⟨d,hd,hT,hC⟩:=rA (ρ:=ρ) hG hz
 rw[ht]at hd;cases hd
 obtain⟨i,hi,hs,_,hzero⟩:=hT.info
 have hu:=hT.und
 suffices hh:∃a',P.built T parts=some a'∧∃cs',g = .agg cs'∧Lo ρ cs' a' by
  obtain⟨a',hb,cs',rfl,hC'⟩:=hh
  refine⟨.agg a',?_,fun w=>run_build w T parts.toArray a' (by simpa using hb)⟩
  have:=ED hC'.r hC'.one
  simpa using this
 cases hf:Wh t.desc with
 | some fs =>
  rw[hf]at h
  obtain⟨pl,hpl,h⟩:=aE.1 (show ob (Jt tb T) _=some g from h)
  obtain⟨cs,hfill,h⟩:=aE.1 h
  cases h
  obtain⟨fl,hfl,hpl⟩:=aE.1 (show ob (nI tb T) _=some pl from hpl)
  have hfl':fl=fs.toList:=by
   obtain⟨t',ht',h'⟩:=aE.1 (show ob (tb T) _=some fl from hfl)
   rw[ht]at ht';cases ht'
   obtain⟨fs',hfs',h'⟩:=aE.1 h'
   rw[hf]at hfs';cases hfs';cases h';rfl
  subst hfl'
  obtain⟨a',f1,f2⟩:=G_ hp hC hfill
  refine⟨a',?_,cs,rfl,f2⟩
  rw[IB hf]at hu
  unfold Program.built
  simp only[hi,hu,hzero,FQ hG hpl]
  exact f1
 |none=>
  rw[hf]at h
  obtain⟨e,he,h⟩:=aE.1 (show ob (Ur t.desc) _=some g from h)
  obtain⟨te,hte,h⟩:=aE.1 h
  obtain⟨cs,hfill,h⟩:=aE.1 h
  cases h
  obtain⟨a',f1,f2⟩:=Bz hp hC hfill
  refine⟨a',?_,cs,rfl,f2⟩
  rw[Ld he]at hu
  obtain⟨ie,hie,hse,_,_⟩:=(hG.tab hte).info
  unfold Program.built
  simp only[hi,hu,hzero,hie,hse]
  exact f1
end
def AB (ρ:eL) (w:World) (l:Ka):GO->Prop
 | .cells cs=>∃(cur:Array Value) (T:TypeId),w.heap[l.b]? = some (.cells cur T (0,0))∧cur.size=l.size∧l.off+cs.length<=l.size∧∀(i:Nat) g,cs[i]? = some g->∃v,cur[l.off+i]? = some v∧Rl ρ g v∧one v=true
 | .mp es=>∃(en:Array MapEntry) (clock:Nat),w.heap[l.b]? = some (.map en clock)∧en.size=es.length∧∀(i:Nat) e,es[i]? = some e->∃m,en[i]? = some m∧Rl ρ e.1 m.key∧Rl ρ e.2 m.val
theorem AB.lt {ρ:eL} {w:World} {l:Ka} {o:GO} (h:AB ρ w l o):l.b<w.heap.size:=by
 cases o with
 |cells cs=>obtain⟨cur,T,h,_⟩:=h;exact(Array.getElem?_eq_some_iff.1 h).1
 |mp es=>obtain⟨cur,T,h,_⟩:=h;exact(Array.getElem?_eq_some_iff.1 h).1
theorem AB.move {ρ ρ':eL} {w w':World} {l:Ka} {o:GO} (h:AB ρ w l o) (hl:ρ.le ρ') (e:w'.heap[l.b]? = w.heap[l.b]?):AB ρ' w' l o:=by
 cases o with
 |cells cs=>obtain⟨cur,T,h1,h2,h3,h4⟩:=h;exact⟨cur,T,by rw[e];exact h1,h2,h3,fun i g hg=>let ⟨v,a,b,c⟩:=h4 i g hg;⟨v,a,b.le hl,c⟩⟩
 |mp es=>obtain⟨en,cl,h1,h2,h3⟩:=h;exact⟨en,cl,by rw[e];exact h1,h2,fun i g hg=>let ⟨m,a,b,c⟩:=h3 i g hg;⟨m,a,b.le hl,c.le hl⟩⟩
structure zH where
 obs:List (Nat×Obj)
 env:List Value
def IF (gs:zH) (w:World) (O:Nat->Prop):Prop:=∀p∈gs.obs,w.heap[p.1]? = some p.2∧¬O p.1
structure fU (gs:zH) where
 w:World
 O:Nat->Prop
 ok:IF gs w O
def fU.mine {gs:zH} (b:fU gs) (k:Nat):Prop:=b.w.heap.size<=k∨b.O k
structure gJ {gs:zH} (w0:fU gs) (ρ:eL) (H:GH) (w:World):Prop where
 ext:AQ w0.O w0.w w
 live:∀h o,H.get h=some o->∃l,ρ h=some l∧w0.mine l.b∧AB ρ w l o
 inj:∀h h' o o' l l',H.get h=some o->H.get h'=some o'->ρ h=some l->ρ h'=some l'->l.b=l'.b->h=h'
 fresh:∀h,H.n<=h->ρ h=none
 dense:∀h,h<H.n->∃l,ρ h=some l
 /-- the block holds what was written last -/
 vers:∀h v l,H.ver h=some v->ρ h=some l->∃lv,ρ v=some lv∧w.heap[l.b]? = some lv.x∧H.get h=some lv.o
 /-- the first handles stand for the open values -/
 env:∀i v,gs.env[i]? = some v->∃l,ρ i=some l∧l.x = .cells #[v] 0 (0,0)
theorem gJ.lt {gs:zH} {w0:fU gs} {w:World} {ρ:eL} {H:GH} (R:gJ w0 ρ H w) {h:Nat} {o:GO} (hg:H.get h=some o):h<H.n:=by
 rcases Nat.lt_or_ge h H.n with h'|h'
 ·exact h'
 ·obtain⟨l,hl,_⟩:=R.live h o hg
  rw[R.fresh h h']at hl;cases hl
def Hw (P:Program) {gs:zH} (w0:fU gs) (ρ:eL) (s:Sem Value) (w:World) (g:GV) (H':GH):Prop:=∃v w' ρ',s.run P w = .ok v w'∧ρ.le ρ'∧gJ w0 ρ' H' w'∧Rl ρ' g v
def eL.upd (ρ:eL) (h:Nat) (l:Ka):eL:=fun k=>if k=h then some l else ρ k
theorem yC {ρ:eL} {h:Nat} {l:Ka} (hf:ρ h=none):ρ.le (ρ.upd h l):=fun k x hx=>by
 unfold eL.upd
 by_cases e:k=h
 ·subst e;rw[hf]at hx;cases hx
 ·rw[if_neg e];exact hx
theorem gJ.new {gs:zH} {w0:fU gs} {w w':World} {ρ:eL} {H:GH} (R:gJ w0 ρ H w) {o:GO} {l:Ka} (he:AQ w0.O w0.w w') (hb:∀h o' l',H.get h=some o'->ρ h=some l'->w'.heap[l'.b]? = w.heap[l'.b]? ∧ l'.b≠l.b) (h0:w0.mine l.b)
    (ho:AB (ρ.upd H.n l) w' l o) (hx:w'.heap[l.b]? = some l.x) (hlo:l.o=o:=by rfl):ρ.le (ρ.upd H.n l)∧gJ w0 (ρ.upd H.n l) (H.new o) w':=by
  have hle:ρ.le (ρ.upd H.n l):=yC (R.fresh _ (Nat.le_refl _))
  have hne:∀h o',H.get h=some o'->h≠H.n:=fun h o' hg=>Nat.ne_of_lt (R.lt hg)
  have hsame:∀h,h≠H.n->(ρ.upd H.n l) h=ρ h:=fun h hh=>by simp[eL.upd,hh]
  have hself:(ρ.upd H.n l) H.n=some l:=by simp[eL.upd]
  refine⟨hle,he,?_,?_,?_,?_,?_,fun i v e=>let ⟨l,a,b⟩:=R.env i v e;⟨l,hle _ _ a,b⟩⟩
  · intro h o' hg
    rw[o_]at hg
    by_cases e:h=H.n
    · subst e;rw[if_pos rfl]at hg;cases hg;exact⟨l,hself,h0,ho⟩
    · rw[if_neg e]at hg
      obtain⟨l',hl',hb',ho'⟩:=R.live h o' hg
      exact⟨l',by rw[hsame h e];exact hl',hb',ho'.move hle (hb h o' l' hg hl').1⟩
  · intro h h' o1 o2 l1 l2 hg hg' hl hl' hbb
    rw[o_]at hg hg'
    by_cases e:h=H.n
    · by_cases e':h'=H.n
      · rw[e,e']
      · rw[if_neg e']at hg'
        rw[hsame h' e']at hl'
        subst e;rw[hself]at hl;cases hl
        exact absurd hbb.symm (hb h' o2 l2 hg' hl').2
    · rw[if_neg e]at hg
      rw[hsame h e]at hl
      by_cases e':h'=H.n
      · subst e';rw[hself]at hl';cases hl'
        exact absurd hbb (hb h o1 l1 hg hl).2
      · rw[if_neg e']at hg'
        rw[hsame h' e']at hl'
        exact R.inj h h' o1 o2 l1 l2 hg hg' hl hl' hbb
  · intro h hh
    have : h ≠ H.n := by
        have : H.n + 1 ≤ h := hh
        omega
    rw[hsame h this]
    exact R.fresh h (by
        have : H.n + 1 ≤ h := hh
        omega)
  · intro h hh
    have hh:h<H.n+1:=hh
    by_cases e:h=H.n
    · subst e;exact⟨l,hself⟩
    · rw[hsame h e];exact R.dense h (by omega)
  · intro h v l' hv hl'
    rw[Ki]at hv
    by_cases e:h=H.n
    · subst e;rw[if_pos rfl]at hv;cases hv
      rw[hself]at hl';cases hl'
      exact⟨l,hself,hx,by rw[o_,if_pos rfl,hlo]⟩
    · rw[if_neg e]at hv
      rw[hsame h e]at hl'
      obtain⟨lv,h1,h2,h3⟩:=R.vers h v l' hv hl'
      obtain⟨p,hp,_⟩:=aE.1 (show ob (H.t.get h) _=some v from hv)
      exact⟨lv,hle _ _ h1,by rw[(hb h p.2 l' (by unfold GH.get;rw[hp];rfl) hl').1];exact h2,by rw[o_,if_neg e];exact h3⟩
theorem gJ.set {gs:zH} {w0:fU gs} {w w':World} {ρ:eL} {H:GH} (R:gJ w0 ρ H w) {h:Nat} {o o':GO} {l:Ka} {X:Obj} (hg:H.get h=some o) (hl:ρ h=some l) (he:AQ w0.O w0.w w') (hb:∀k,k≠l.b->w'.heap[k]? = w.heap[k]?) (ho:AB ρ w' l o') (hx:w'.heap[l.b]? = some X):
  ρ.le (ρ.upd H.n ⟨l.b,l.off,l.size,X,o'⟩)∧gJ w0 (ρ.upd H.n ⟨l.b,l.off,l.size,X,o'⟩) (H.set h o') w':=by
 have hle:ρ.le (ρ.upd H.n ⟨l.b,l.off,l.size,X,o'⟩):=yC (R.fresh _ (Nat.le_refl _))
 have hsame:∀k,k≠H.n->(ρ.upd H.n ⟨l.b,l.off,l.size,X,o'⟩) k=ρ k:=fun k hk=>by simp[eL.upd,hk]
 have hself:(ρ.upd H.n ⟨l.b,l.off,l.size,X,o'⟩) H.n=some ⟨l.b,l.off,l.size,X,o'⟩:=by simp[eL.upd]
 have key:∀k x,(if k=h then some o' else H.get k)=some x->∃y,H.get k=some y:=fun k x hx=>by
  by_cases e:k=h
  ·subst e;exact⟨o,hg⟩
  ·rw[if_neg e]at hx;exact⟨x,hx⟩
 refine⟨hle,he,?_,?_,?_,?_,?_,fun i v e=>let ⟨l,a,b⟩:=R.env i v e;⟨l,hle _ _ a,b⟩⟩
 ·intro k x hk
  rw[pA]at hk
  by_cases e:k=h
  ·subst e;rw[if_pos rfl]at hk;cases hk
   obtain⟨l',hl',h0,_⟩:=R.live k o hg
   rw[hl]at hl';cases hl'
   exact⟨l,hle _ _ hl,h0,ho.move hle rfl⟩
  ·rw[if_neg e]at hk
   obtain⟨l',hl',h0,ho'⟩:=R.live k x hk
   refine⟨l',hle _ _ hl',h0,ho'.move hle (hb _ fun e'=>e (R.inj k h x o l' l hk hg hl' hl e'))⟩
 ·intro k k' o1 o2 l1 l2 h1 h2 hl1 hl2 hbb
  rw[pA]at h1 h2
  obtain⟨y1,hy1⟩:=key k o1 h1
  obtain⟨y2,hy2⟩:=key k' o2 h2
  rw[hsame k (Nat.ne_of_lt (R.lt hy1))]at hl1
  rw[hsame k' (Nat.ne_of_lt (R.lt hy2))]at hl2
  exact R.inj k k' y1 y2 l1 l2 hy1 hy2 hl1 hl2 hbb
 ·intro k hk
  have hk':H.n+1<=k:=hk
  rw[hsame k (by omega)]
  exact R.fresh k (by omega)
 ·intro k hk
  have hk:k<H.n+1:=hk
  by_cases e:k=H.n
  ·subst e;exact⟨_,hself⟩
  ·rw[hsame k e];exact R.dense k (by omega)
 ·intro k v l' hv hl'
  rw[Kj]at hv
  by_cases e:k=h
  ·subst e;rw[if_pos rfl]at hv;cases hv
   rw[hsame k (Nat.ne_of_lt (R.lt hg)),hl]at hl';cases hl'
   exact⟨_,hself,hx,by rw[pA,if_pos rfl]⟩
  ·rw[if_neg e]at hv
   obtain⟨p,hp,_⟩:=aE.1 (show ob (H.t.get k) _=some v from hv)
   have hgk:H.get k=some p.2:=by unfold GH.get;rw[hp];rfl
   rw[hsame k (Nat.ne_of_lt (R.lt hgk))]at hl'
   obtain⟨lv,h1,h2,h3⟩:=R.vers k v l' hv hl'
   exact⟨lv,hle _ _ h1,by rw[hb l'.b fun e'=>e (R.inj k h p.2 o l' l hgk hg hl' hl e')];exact h2,by rw[pA,if_neg e];exact h3⟩
theorem gJ.del {gs:zH} {w0:fU gs} {w:World} {ρ:eL} {H:GH} (R:gJ w0 ρ H w) (h:Nat):gJ w0 ρ (H.del h) w:=by
 have key:∀k x,(H.del h).get k=some x->H.get k=some x:=fun k x hx=>by
  rw[BY]at hx
  by_cases e:k=h
  ·rw[if_pos e]at hx;cases hx
  ·rw[if_neg e]at hx;exact hx
 exact⟨R.ext,fun k x hx=>R.live k x (key k x hx),fun k k' o1 o2 l1 l2 h1 h2=>R.inj k k' o1 o2 l1 l2 (key _ _ h1) (key _ _ h2),R.fresh,R.dense,fun k v l hv hl=>by
  rw[Kh]at hv
  by_cases e:k=h
  ·rw[if_pos e]at hv;cases hv
  ·rw[if_neg e]at hv
   obtain⟨lv,h1,h2,h3⟩:=R.vers k v l hv hl
   exact⟨lv,h1,h2,by rw[BY,if_neg e];exact h3⟩,R.env⟩
theorem gJ.ext' {gs:zH} {w0:fU gs} {w w':World} {ρ:eL} {H:GH} (R:gJ w0 ρ H w) (e:J_ w w'):gJ w0 ρ H w':=
 ⟨R.ext.trans e,fun h o hg=>let ⟨l,a,b,c⟩:=R.live h o hg;⟨l,a,b,c.move (eL.le_refl _) (e.block _ c.lt)⟩,R.inj,R.fresh,R.dense,fun h v l hv hl=>by
  obtain⟨lv,h1,h2,h3⟩:=R.vers h v l hv hl
  exact⟨lv,h1,(by rw[e.block _ (Array.getElem?_eq_some_iff.1 h2).1];exact h2),h3⟩,R.env⟩
theorem gJ.mono {gs gs':zH} {w0:fU gs} {w0':fU gs'} {w w':World} {ρ ρ':eL} {H H':GH} (R:gJ w0 ρ H w) (R':gJ w0' ρ' H' w') (hle:ρ.le ρ'):H.n<=H'.n:=by
 rcases Nat.lt_or_ge H'.n H.n with h|h
 ·obtain⟨l,hl⟩:=R.dense _ h
  have:=R'.fresh _ (Nat.le_refl _)
  rw[hle _ _ hl]at this;cases this
 ·exact h
def NP (ρ:eL) (H:GH) (k:Nat):Prop:=∃h o l,H.get h=some o∧ρ h=some l∧l.b=k
theorem gJ.glo {gs:zH} {w0:fU gs} {w:World} {ρ:eL} {H:GH} (R:gJ w0 ρ H w):IF gs w (NP ρ H):=fun p hp=>by
 obtain⟨h1,h2⟩:=w0.ok p hp
 have hlt:p.1<w0.w.heap.size:=(Array.getElem?_eq_some_iff.1 h1).1
 refine⟨by rw[R.ext.block p.1 hlt h2];exact h1,fun⟨h,o,l,hg,hl,e⟩=> ?_⟩
 obtain⟨l',hl',hb,_⟩:=R.live h o hg
 rw[hl]at hl';cases hl'
 rw[e]at hb
 rcases hb with hb|hb
 ·omega
 ·exact h2 hb
def gJ.base {gs:zH} {w0:fU gs} {w:World} {ρ:eL} {H:GH} (R:gJ w0 ρ H w):fU gs:=⟨w,NP ρ H,R.glo⟩
def fU.of {gs:zH} (w:World) (h:IF gs w fun _=>False):fU gs:=⟨w,fun _=>False,h⟩
def Ve:zH:=⟨[],[]⟩
def fU.one (w:World):fU Ve:= .of w fun _ h=>absurd h List.not_mem_nil
theorem gJ.rebase {gs:zH} {w0:fU gs} {w:World} {ρ:eL} {H:GH} (R:gJ w0 ρ H w):gJ R.base ρ H w:=
 ⟨AQ.refl _,fun h o hg=>let ⟨l,a,_,c⟩:=R.live h o hg;⟨l,a,.inr ⟨h,o,l,hg,a,rfl⟩,c⟩,R.inj,R.fresh,R.dense,R.vers,R.env⟩
theorem gJ.back {gs:zH} {w0:fU gs} {w w':World} {ρ ρ':eL} {H H':GH} (R:gJ w0 ρ H w) (R':gJ R.base ρ' H' w'):gJ w0 ρ' H' w'∧∀k,k<w.heap.size->¬NP ρ H k->w'.heap[k]? = w.heap[k]?:=by
 have hm:∀k,NP ρ H k->w0.mine k:=fun k ⟨h,o,l,hg,hl,e⟩=>by
  obtain⟨l',hl',hb,_⟩:=R.live h o hg
  rw[hl]at hl';cases hl'
  rw[<-e];exact hb
 refine⟨⟨⟨R'.ext.os.trans R.ext.os,R'.ext.tape.trans R.ext.tape,R'.ext.output.trans R.ext.output,Nat.le_trans R.ext.size R'.ext.size,fun k hk hO=> ?_⟩,fun h o hg=> ?_,R'.inj,R'.fresh,R'.dense,R'.vers,R'.env⟩,fun k hk hh=>R'.ext.block k hk hh⟩
 ·rw[R'.ext.block k (Nat.lt_of_lt_of_le hk R.ext.size) (fun hh=>by rcases hm k hh with h|h;exact absurd h (by omega);exact hO h)]
  exact R.ext.block k hk hO
 ·obtain⟨l,hl,hb,ho⟩:=R'.live h o hg
  refine⟨l,hl,?_,ho⟩
  rcases hb with hb|hb
  ·exact .inl (Nat.le_trans R.ext.size hb)
  ·exact hm _ hb
section
variable {P:Program} {tb:TB} {ρ:eL} {V U W:Value} {v u t g:GV} {gs:zH} {w0:fU gs} {w:World} {H H':GH}
theorem gJ.alloc (R:gJ w0 ρ H w) {cs:List GV} {a:Array Value} (T:TypeId) (hr:Lo ρ cs a):
  ∃ρ',ρ.le ρ'∧ρ'=ρ.upd H.n ⟨w.heap.size,0,a.size,.cells a T,.cells cs⟩∧gJ w0 ρ' (H.new (.cells cs)) (w.alloc (.cells a T)):=by
 have e:J_ w (w.alloc (.cells a T)):=(Below.refl _ _).alloc (Nat.le_refl _) _
 have h:=R.new (o:= .cells cs) (l:=⟨w.heap.size,0,a.size,.cells a T,.cells cs⟩) (R.ext.trans e) (fun h o' l' hg hl=>by
  obtain⟨l,hl',_,ho⟩:=R.live h o' hg
  rw[hl]at hl';cases hl'
  exact⟨e.block _ ho.lt,Nat.ne_of_lt ho.lt⟩) (.inl R.ext.size) (by
  refine⟨a,T,heap_alloc_new w _,rfl,by have:=hr.r.len;simp at this;simp[this],fun i g hg=> ?_⟩
  obtain⟨x,hx,hrx⟩:=hr.r.get hg
  rw[Array.getElem?_toList]at hx
  exact⟨x,by simpa using hx,hrx.le (yC (R.fresh _ (Nat.le_refl _))),HX hr.one hx⟩) (heap_alloc_new w _)
 exact⟨_,h.1,rfl,h.2⟩
theorem RJ {T:TypeId} (R:gJ w0 ρ H w) (hv:Rl ρ v V) (h:Dk v H=some (g,H')):Hw P w0 ρ (Instr.box T V) w g H':=by
 obtain⟨vc,hc,h⟩:=aE.1 (show ob v.cells _=some (g,H')from h)
 rw[gN]at h;cases h
 obtain⟨vs,e,hr,h1⟩:=hv.cells hc
 obtain⟨ρ',hle,rfl,R'⟩:=R.alloc T (cs:=vc) (a:=V.cells) (by rw[e];exact⟨hr,h1⟩)
 refine⟨_,_,_,?_,hle,R',.ptr (l:=⟨w.heap.size,0,V.cells.size,.cells V.cells T,.cells vc⟩) 0 (by simp[eL.upd])⟩
 simp[Instr.box,newVar,newRow]
theorem DY (hG:eB P tb) {T:TypeId} (R:gJ w0 ρ H w) (h:oO tb T H=some (g,H')):Hw P w0 ρ (Instr.alloc T true (.tuple #[])) w g H':=by
 obtain⟨zc,hz,h⟩:=aE.1 (show ob (zG tb T) _=some (g,H')from h)
 rw[gN]at h;cases h
 obtain⟨d,hd,hT,hC⟩:=rA (ρ:=ρ) hG hz
 obtain⟨ρ',hle,rfl,R'⟩:=R.alloc T hC
 exact⟨_,_,_,DN w hT,hle,R',.ptr (l:=⟨w.heap.size,0,d.zero.cells.size,.cells d.zero.cells T,.cells zc⟩) 0 (by simp[eL.upd])⟩
theorem gJ.cells (R:gJ w0 ρ H w) {h:Nat} {cs:List GV} (hc:H.cells h=some cs) {l:Ka} (hl:ρ h=some l):AB ρ w l (.cells cs):=by
 obtain⟨l',hl',_,ho⟩:=R.live h _ (gA.1 hc)
 rw[hl]at hl';cases hl';exact ho
theorem Ge (hG:eB P tb) {T:TypeId} (R:gJ w0 ρ H w) (hv:Rl ρ v V) (h:tJ tb T v H=some g):∃(x:Value) (p:Nat×Nat) (l:Ka),v = .ptr p.1 p.2∧ρ p.1=some l∧(∃o,H.get p.1=some o)∧Rl ρ g x∧∀w',w'.heap[l.b]? = w.heap[l.b]? -> (Instr.loadAt T V).run P w' = .ok x w':=by
 obtain⟨p,hp,h⟩:=aE.1 (show ob v.asP _=some g from h)
 obtain⟨cs,hcs,h⟩:=aE.1 h
 obtain⟨t,ht,h⟩:=aE.1 h
 have hpe:=AY hp
 have hg0:=gA.1 hcs
 rw[AY hp]at hv
 obtain⟨l,hl,rfl⟩:=hv.ptr_inv
 obtain⟨cur,T',hb,hsz,hfit,hcell⟩:=R.cells hcs hl
 have hT:=hG.tab ht
 unfold yX at h
 cases ha:xO t.desc with
 | true =>
  rw[ha]at h
  obtain⟨r,hs,h⟩:=aE.1 h
  cases h
  obtain⟨hbnd,rfl⟩:=Is hs
  let vs:=((cur.toList.drop (l.off+p.2)).take t.size)
  have hlen:vs.length=t.size:=by simp[vs];omega
  have hrel:tP ρ ((cs.drop p.2).take t.size) vs:=⟨by rw[hlen];simp;omega,fun i a b hai hbi=>by
   simp only[vs]at hbi
   rw[List.getElem?_take]at hai hbi
   by_cases hi:i<t.size
   ·rw[if_pos hi,List.getElem?_drop]at hai hbi
    obtain⟨x,h1,h2,_⟩:=hcell _ _ hai
    rw[Array.getElem?_toList,show l.off+p.2+i=l.off+(p.2+i) by omega,h1]at hbi
    cases hbi;exact h2
   ·rw[if_neg hi]at hai;cases hai⟩
  have hone:∀x∈vs,one x=true:=fun x hx=>by
   obtain⟨i,hi⟩:=List.mem_iff_getElem?.1 hx
   have hlt:=aV hi
   have hai:((cs.drop p.2).take t.size)[i]? = some (cs[p.2+i]'(by omega)):=by
    rw[List.getElem?_take,if_pos (by omega),List.getElem?_drop,List.getElem?_eq_getElem (by omega)]
   simp only[vs]at hi
   rw[List.getElem?_take,if_pos (by omega),List.getElem?_drop,Array.getElem?_toList,show l.off+p.2+i=l.off+(p.2+i) by omega]at hi
   obtain⟨y,h1,_,h3⟩:=hcell (p.2+i) _ (List.getElem?_eq_getElem (by omega))
   rw[h1]at hi;cases hi;exact h3
  refine⟨_,p,l,hpe,hl,⟨_,hg0⟩,ED hrel hone,fun w' hw'=> ?_⟩
  rw[hb]at hw'
  refine yY hT ha hlen (fun j x hx=> ?_)
  rw[dS]
  have hlt:=aV hx
  simp only[vs]at hx
  rw[List.getElem?_take,if_pos (by omega),List.getElem?_drop,Array.getElem?_toList]at hx
  simp[World.cell?,hw',hx]
 |false=>
  rw[ha]at h
  rw[cond_false,rE]at h
  obtain⟨x,h1,h2,_⟩:=hcell _ _ h
  exact⟨x,p,l,hpe,hl,⟨_,hg0⟩,h2,fun w' hw'=>zU hT ha (by rw[hb]at hw';simp[World.cell?,hw',h1])⟩
theorem DZ (hG:eB P tb) {T:TypeId} (R:gJ w0 ρ H w) (hv:Rl ρ v V) (hu:Rl ρ u U) (h:qG tb T v u H=some (g,H')):g = .un∧∃w' ρ',(Instr.storeAt T V U).run P w = .ok () w'∧ρ.le ρ'∧gJ w0 ρ' H' w':=by
 obtain⟨p,hp,h⟩:=aE.1 (show ob v.asP _=some (g,H')from h)
 obtain⟨cs,hcs,h⟩:=aE.1 h
 obtain⟨t,ht,h⟩:=aE.1 h
 obtain⟨uc,huc,h⟩:=aE.1 h
 obtain⟨hl1,h⟩:=bL.1 h
 obtain⟨h0,h⟩:=jV.1 h
 obtain⟨c1,hput,h⟩:=aE.1 h
 rw[vJ]at h
 cases h
 refine⟨rfl,?_⟩
 rw[AY hp]at hv
 obtain⟨l,hl,rfl⟩:=hv.ptr_inv
 obtain⟨cur,T',hb,hsz,hfit,hcell⟩:=R.cells hcs hl
 obtain⟨us,eU,hus,hone⟩:=hu.cells huc
 have hT:=hG.tab ht
 have hlen:uc.length=t.size:=Nat.eq_of_beq_eq_true hl1
 have hul:uc.length=us.length:=hus.len
 have hne:uc≠[]:=by intro e;rw[e]at hlen;simp at hlen;rw[<-hlen]at h0;cases h0
 obtain⟨p1,p2,p3⟩:=EL hput
 have p1:=p1 hne
 have hst:=run_storeCells_at P l.b (l.off+p.2) T' us 0 cur w hb (by omega) (fun x hx=>k_ (hone x hx))
 simp only[Nat.add_zero]at hst
 refine⟨w.setRow l.b (cur.toList.take (l.off+p.2)++us++cur.toList.drop (l.off+p.2+us.length)).toArray,_,?_,R.set (gA.1 hcs) hl ?_ (fun k hk=>setRow_other w l.b k _ hk) ?_ (setRow_heap w l.b _ _ T' _ hb)⟩
 ·have hs:=hT.run_size w
  simp only[Instr.storeAt,Instr.sureAddr,storeVar,eU]
  have e:us.toArray.size=t.size:=by simp;omega
  simp[hs,e,hst]
 ·obtain⟨l',hl',hbase,_⟩:=R.live _ _ (gA.1 hcs)
  rw[hl]at hl';cases hl'
  exact⟨R.ext.os,R.ext.tape,R.ext.output,by simpa using R.ext.size,fun k hk hO=>by
   rw[setRow_other w l.b k _ (fun e=>by subst e;rcases hbase with hbase|hbase;exact absurd hbase (by omega);exact hO hbase)];exact R.ext.block k hk hO⟩
 ·refine⟨_,T',setRow_heap w l.b _ _ T' _ hb,?_,by omega,fun i x hx=> ?_⟩
  ·simp;omega
  ·rw[p3 i]at hx
   have hcl:cur.toList.length=cur.size:=by simp
   have key:(cur.toList.take (l.off+p.2)++us++cur.toList.drop (l.off+p.2+us.length)).toArray[l.off+i]? = if p.2<=i∧i<p.2+us.length then us[i - p.2]? else cur[l.off+i]?:=by
    rw[List.getElem?_toArray,List.append_assoc]
    by_cases hi:i<p.2
    ·rw[if_neg (by omega),List.getElem?_append_left (by simp;omega),List.getElem?_take,if_pos (by omega),Array.getElem?_toList]
    ·rw[List.getElem?_append_right (by simp;omega),List.length_take]
     have e1:min (l.off+p.2) cur.toList.length=l.off+p.2:=by omega
     rw[e1]
     by_cases hi2:i<p.2+us.length
     ·rw[if_pos (by omega),List.getElem?_append_left (by omega)]
      congr 1;omega
     ·rw[if_neg (by omega),List.getElem?_append_right (by omega),List.getElem?_drop,Array.getElem?_toList]
      congr 1;omega
   by_cases hi:p.2<=i∧i<p.2+uc.length
   ·rw[if_pos hi]at hx
    obtain⟨y,hy,hr⟩:=hus.get hx
    exact⟨y,by rw[key,if_pos (by omega)];exact hy,hr,hone y (List.mem_of_getElem? hy)⟩
   ·rw[if_neg hi]at hx
    obtain⟨y,hy,hr⟩:=hcell i x hx
    exact⟨y,by rw[key,if_neg (by omega)];exact hy,hr⟩
end
end
end Go.Gx
end
