/- Models and proofs. Conditions: none. -/
import Derived.Test.YthnplbmmlbnelaaGreatZCLy2
set_option linter.unusedVariables false
set_option linter.unusedSimpArgs false
set_option maxHeartbeats 4000000
set_option maxRecDepth 20000
section
namespace Go.Proofs.YthnplbmmlbnelaaGreat
open Go.Sx
section
def kO (U:Nat) (p0:zX) (p1:Int) (a9:Bool):Option fZ:=
 if a9=true then(some ((0:Int),(wI .i64 (p1+(1:Int)))))else(Option.bind (kY U ((p0.1,p0.2)) ((((at' p0.1 p1).1),((at' p0.1 p1).2)))) fun r12=>(some (r12,(wI .i64 (p1+(1:Int))))))
def fS (U:Nat) (p0:zX) (p1:Int) (a27:Int×Int×Int×Int):Option fZ:=
 Option.bind (iU U ((at' p0.1 p1).1) ((a27.2.1,a27.2.2.1,a27.2.2.2))) fun r29=>(some (r29,a27.1))
def eG (a41:Int×Int×Int×Int×Int) (ag40:(Int×Int×Int×Int×Int)->Option fZ) (a49:Int×Int×Int×Int):Option fZ:=
 ag40 (a49.1,(wI .i64 (a41.2.1+(1:Int))),a49.2.1,a49.2.2.1,a49.2.2.2)
def bN (U:Nat) (p0:zX) (p1:Int) (rc:(cA×bV)->Int->Bool->Option fZ) (a20:Bool) (r32:Int) (a41:Int×Int×Int×Int×Int) (ag40:(Int×Int×Int×Int×Int)->Option fZ):Option fZ:=
 if a41.2.1<r32 then(Option.bind (rc ((p0.1,p0.2)) a41.1 a20) fun r51=>(ck (0<=a41.2.1∧a41.2.1<((3:Nat):Int)) (if a41.2.1=(0:Int)then(eG a41 ag40 (r51.2,r51.1,a41.2.2.2.1,a41.2.2.2.2))else(if a41.2.1=(1:Int)then(eG a41 ag40 (r51.2,a41.2.2.1,r51.1,a41.2.2.2.2))else(eG a41 ag40 (r51.2,a41.2.2.1,a41.2.2.2.1,r51.1))))))else(fS U p0 p1 (a41.1,a41.2.2.1,a41.2.2.2.1,a41.2.2.2.2))
def dP (U:Nat) (p0:zX) (p1:Int) (rc:(cA×bV)->Int->Bool->Option fZ) (a20:Bool):Option fZ:=
 Option.bind (nF U ((at' p0.1 p1).1)) fun r32=>(bH (bN U p0 p1 rc a20 r32) U ((wI .i64 (p1+(1:Int))),(0:Int),(0:Int),(0:Int),(0:Int)))
def dJ (rc:(cA×bV)->Int->Bool->Option fZ) (U:Nat) (p0:zX) (p1:Int) (p2:Bool):Option fZ:=
 ck (0<=p1∧p1<(List.length p0.1:Int)) (Option.bind (nF U ((at' p0.1 p1).1)) fun r4=>(if r4=(0:Int)then(Option.bind (yV U ((at' p0.1 p1).1)) fun r15=>(if r15=true then(kO U p0 p1 ((!p2)))else(kO U p0 p1 (false))))else(if p2=true then(dP U p0 p1 rc (true))else(Option.bind (lY U ((at' p0.1 p1).1)) fun r58=>(dP U p0 p1 rc (r58))))))
def cK:Nat->(cA×bV)->Int->Bool->Option fZ
 |0,_,_,_=>none
 |U+1,p0,p1,p2=>dJ (cK U) U p0 p1 p2
theorem Lt:bE Tryz.prog 130:=Tryz.call130
theorem Au (rc:(cA×bV)->Int->Bool->Option fZ) (U:Nat) (hrc:∀{p0:zX} {p1:Int} {p2:Bool} (v0:Value)  (v1:Value) (r:lO),rc p0 p1 p2=some r->aZ Tryz.prog 130 #[Value.agg #[v0,v1],vI (p1),vB (p2)] [Sl aY v0 p0.1,Sl lH v1 p0.2] (fun x:Unit=>Value.tuple #[vI (r.1),vI (r.2)]) (fun x l=>l) (fun _ l=>l)) {p0:zX} {p1:Int} {p2:Bool} (v0:Value)  (v1:Value) (r:lO) (h:dJ rc U p0 p1 p2=some r):
  aZ Tryz.prog 130 #[Value.agg #[v0,v1],vI (p1),vB (p2)] [Sl aY v0 p0.1,Sl lH v1 p0.2] (fun x:Unit=>Value.tuple #[vI (r.1),vI (r.2)]) (fun x l=>l) (fun _ l=>l):=by
 refine aZ.of Tryz.func130 rfl Tryz.ntmps130 rfl fun c=>?_
 refine aT<|aN (aR.box (cs:=[v0,v1]) rfl rfl) rfl fun b1=>aB rfl<|aB rfl<|aL<|aT<|bQ rfl<|cM 0 rfl<|aA rfl<|eO h fun j2 h=>aD (aU rfl rfl (dB rfl) rfl rfl j2) rfl<|aD (fO (cs:=[vI ((at' p0.1 p1).1),vI ((at' p0.1 p1).2)]) rfl (dB rfl) dI rfl rfl rfl rfl j2) rfl<|aN (aR.alloc (cs:=[vI (0:Int),vI (0:Int)]) rfl rfl) rfl fun b3=>cC 0 (vs:=[vI ((at' p0.1 p1).1),vI ((at' p0.1 p1).2)]) rfl rfl rfl rfl rfl rfl<|aL<|aT<|aA rfl<|cU rfl<|aB rfl<|aL<|aI<|aT<|bQ rfl<|cM 0 rfl<|eM h fun r4 w5 h=>aN (aR.callQ HM (xY U  r4 w5) rfl .nil) rfl fun x6=>cH rfl<|aL ?_
 refine fG h rfl (fun h=>?_) fun h=>?_
 ·refine aI<|aI<|cF (fun a9=>kO U p0 p1 a9=some r) (fun a9 b10=>[(3,vP b1),(7,vI (wI .i64 (p1+(1:Int)))),(8,vP b3),(29,vB (a9))]) (fun a9 b10=>[dD b3 [vI ((at' p0.1 p1).1),vI ((at' p0.1 p1).2)] 84,dD b1 [v0,v1] 151]) ?_ ?_
  ·refine aH<|bQ rfl<|cM 0 rfl<|eM h fun r15 w16 h=>aN (aR.callQ QF (JF U  r15 w16) rfl .nil) rfl fun x17=>aA rfl ?_
   refine e_ (by exact rfl) (by exact rfl) (fun hp18=>?_) (fun hp18=>?_)
   ·have h:=Ak hp18 h
    refine bM rfl<|aF rfl (eC rfl) rfl<|bO rfl<|aL ?_
    exact b_ ((!p2)) () h SF rfl
   have h:=rI hp18 h
   refine aC rfl<|aC rfl<|bR rfl<|aL ?_
   exact b_ (false) () h SF rfl
  intro a9 b10 h
  refine eY h rfl (fun _ h=>?_) fun _ h=>?_
  ·refine aT<|aA rfl<|aB rfl<|aB rfl<|aL<|aS<|aG<|aG ?_
   cases h
   exact eV () rfl rfl (RV.tmp rfl) (RV.tmp rfl) .nil aO.nil
  refine bJ<|aT<|l_ 1 rfl<|l_ 0 rfl<|eM h fun r12 w13 h=>aN (aR.callQ QG (Bh U v0 v1 r12 w13) rfl (hI [0,1] rfl)) rfl fun x14=>aA rfl<|aB rfl<|aB rfl<|aL<|aS<|aG ?_
  cases h
  exact eV () rfl rfl (RV.tmp rfl) (RV.tmp rfl) .nil aO.nil
 refine bJ<|aI<|cF (fun a20=>dP U p0 p1 rc a20=some r) (fun a20 b21=>[(3,vP b1),(7,vI (wI .i64 (p1+(1:Int)))),(8,vP b3),(9,vB (a20))]) (fun a20 b21=>[dD b3 [vI ((at' p0.1 p1).1),vI ((at' p0.1 p1).2)] 84,dD b1 [v0,v1] 151]) ?_ ?_
 ·refine aH<|aA rfl<|aA rfl ?_
  refine e_ (by exact rfl) (by exact rfl) (fun hp57=>?_) (fun hp57=>?_)
  ·have h:=Ak hp57 h
   refine aC rfl<|aC rfl<|aC rfl<|bO rfl<|aB rfl<|aL ?_
   exact b_ (true) () h SF rfl
  have h:=rI hp57 h
  refine aF rfl (bW rfl rfl rfl rfl rfl) rfl<|aF rfl (cI 0 rfl rfl rfl rfl rfl) rfl<|eM h fun r58 w59 h=>fA rfl (aR.callQ Oy (zV U  r58 w59) rfl .nil) rfl fun x60=>bR rfl<|aB rfl<|aL ?_
  exact b_ (r58) () h SF rfl
 intro a20 b21 h
 refine aT<|aN (aR.alloc (cs:=[vI (0:Int),vI (0:Int),vI (0:Int)]) rfl rfl) rfl fun b22=>aL<|aI<|cF (fun a27=>fS U p0 p1 a27=some r) (fun a27 b28=>[(7,vI (a27.1)),(8,vP b3),(10,vP b22)]) (fun a27 b28=>[dD b22 [vI (a27.2.1),vI (a27.2.2.1),vI (a27.2.2.2)] 162,dD b3 [vI ((at' p0.1 p1).1),vI ((at' p0.1 p1).2)] 84]) ?_ ?_
 ·refine aT<|bQ rfl<|cM 1 rfl<|eM h fun r32 w33 h=>aN (aR.callQ HM (xY U  r32 w33) rfl .nil) rfl fun x34=>aA rfl<|aL<|aP<|eH (bN U p0 p1 rc a20 r32) (fun a41 b42=>[(3,vP b1),(7,vI (a41.1)),(8,vP b3),(9,vB (a20)),(10,vP b22),(43,vI (r32)),(44,vI (a41.2.1))]) (fun a41 b42=>[dD b22 [vI (a41.2.2.1),vI (a41.2.2.2.1),vI (a41.2.2.2.2)] 162,dD b3 [vI ((at' p0.1 p1).1),vI ((at' p0.1 p1).2)] 84,dD b1 [v0,v1] 151]) ((wI .i64 (p1+(1:Int))),(0:Int),(0:Int),(0:Int),(0:Int)) () h SF (bK.refl _) ?_
  intro k43 a41 b42 h
  refine aT<|cZ rfl<|aL<|aI ?_
  refine fG h rfl (fun h=>?_) fun h=>?_
  ·refine bJ<|aI<|cF (fun a49=>eG a41 (bH (bN U p0 p1 rc a20 r32) k43) a49=some r) (fun a49 b50=>[(3,vP b1),(7,vI (a49.1)),(8,vP b3),(9,vB (a20)),(10,vP b22),(43,vI (r32)),(44,vI (a41.2.1))]) (fun a49 b50=>[dD b22 [vI (a49.2.1),vI (a49.2.2.1),vI (a49.2.2.2)] 162,dD b3 [vI ((at' p0.1 p1).1),vI ((at' p0.1 p1).2)] 84,dD b1 [v0,v1] 151]) ?_ ?_
   ·refine aP<|aT<|aA rfl<|aB rfl<|aL<|aH<|aA rfl<|l_ 2 rfl<|aA rfl<|aA rfl<|eM h fun r51 w52 h=>aN (aR.callQ Lt (hrc v0 v1 r51 w52) rfl (hI [0,1] rfl)) rfl fun x53=>aA rfl<|gI rfl<|gI rfl<|eO h fun j54 h=>?_
    by_cases hq55:a41.2.1=(0:Int)
    ·have h:=Ak hq55 h
     refine aD (AV 0 rfl rfl rfl rfl rfl hq55 rfl) rfl<|pC 0 rfl rfl rfl rfl rfl rfl<|aB rfl<|fF<|kB ?_
     exact b_ (r51.2,r51.1,a41.2.2.2.1,a41.2.2.2.2) () h SF rfl
    have h:=TI hq55 h
    by_cases hq56:a41.2.1=(1:Int)
    ·have h:=Ak hq56 h
     refine aD (AV 1 rfl rfl rfl rfl rfl hq56 rfl) rfl<|pC 0 rfl rfl rfl rfl rfl rfl<|aB rfl<|fF<|kB ?_
     exact b_ (r51.2,a41.2.2.1,r51.1,a41.2.2.2.2) () h SF rfl
    have h:=TI hq56 h
    refine aD (AV 2 rfl rfl rfl rfl rfl (by omega) rfl) rfl ?_
    refine pC 0 rfl rfl rfl rfl rfl rfl<|aB rfl<|fF<|kB ?_
    exact b_ (r51.2,a41.2.2.1,a41.2.2.2.1,r51.1) () h SF rfl
   intro a49 b50 h
   unfold eG at h
   refine aH<|cU rfl<|aA rfl<|aL ?_
   exact AC (a49.1,(wI .i64 (a41.2.1+(1:Int))),a49.2.1,a49.2.2.1,a49.2.2.2) () h SF rfl
  refine dY ?_
  exact bS (a41.1,a41.2.2.1,a41.2.2.2.1,a41.2.2.2.2) () h SF (bK.ix [0,1] rfl rfl) (aO.refl _ _)
 intro a27 b28 h
 refine aT<|bQ rfl<|cM 1 rfl<|l_ 0 rfl<|eM h fun r29 w30 h=>aN (aR.callQ QI (Gb U  r29 w30) rfl .nil) rfl fun x31=>aA rfl<|aB rfl<|aB rfl<|aL<|aS ?_
 cases h
 exact eV () rfl rfl (RV.tmp rfl) (RV.tmp rfl) .nil aO.nil
theorem Bi (U:Nat):∀{p0:zX} {p1:Int} {p2:Bool} (v0:Value)  (v1:Value) (r:lO),cK U p0 p1 p2=some r->
  aZ Tryz.prog 130 #[Value.agg #[v0,v1],vI (p1),vB (p2)] [Sl aY v0 p0.1,Sl lH v1 p0.2] (fun x:Unit=>Value.tuple #[vI (r.1),vI (r.2)]) (fun x l=>l) (fun _ l=>l):=by
 induction U with
 |zero=>intros;rename_i h;cases h
 |succ U ih=>exact fun v0 v1 r h=>Au (cK U) U ih v0 v1 r h
end
section
def zC (U:Nat) (p0:cA) (p1:bV) (p2:Bool) (a2:Unit):Option fZ:=
 Option.bind (gQ U p0 (List.length p1:Int)) fun r4=>(if(!r4)=true then(some ((0:Int),(7:Int)))else(Option.bind (cK U ((p0,p1)) (0:Int) p2) fun r13=>(if r13.1=(0:Int)then(some ((0:Int),(6:Int)))else(some (r13.1,(0:Int))))))
def jT (U:Nat) (p0:cA) (p1:bV) (p2:Bool) (a19:Int) (ag18:(Int)->Option fZ):Option fZ:=
 if a19<(List.length p1:Int)then(ck (0<=a19∧a19<(List.length p1:Int)) (Option.bind (lZ U (at' p1 a19)) fun r24=>(if(!r24)=true then(some ((0:Int),(7:Int)))else(ag18 (wI .i64 (a19+(1:Int)))))))else(zC U p0 p1 p2 (()))
def vQ (U:Nat) (p0:cA) (p1:bV) (p2:Bool):Option fZ:=
 if(6:Int)<(List.length p1:Int)then(some ((0:Int),(7:Int)))else(bH (jT U p0 p1 p2) U (0:Int))
theorem Lr:bE Tryz.prog 109:=Tryz.call109
theorem F_ (U:Nat) {p0:cA} {p1:bV} {p2:Bool} (v0:Value)  (v1:Value) (r:lO) (h:vQ U p0 p1 p2=some r):
  aZ Tryz.prog 109 #[v0,v1,vB (p2)] [Sl aY v0 p0,Sl lH v1 p1] (fun x:Unit=>Value.tuple #[vI (r.1),vI (r.2)]) (fun x l=>l) (fun _ l=>l):=by
 refine aZ.of Tryz.func109 rfl Tryz.ntmps109 rfl fun c=>?_
 refine aT<|aB rfl<|aB rfl<|aL<|aI<|aT<|aA rfl<|cY (eZ rfl) rfl<|aD (pF rfl rfl) rfl<|aL ?_
 refine fG h rfl (fun h=>?_) fun h=>?_
 ·refine aT<|aB rfl<|aB rfl<|aL<|aS<|aG ?_
  cases h
  exact eV () rfl rfl (RV.tmp rfl) (RV.tmp rfl) (bK.refl _) aO.nil
 refine bJ<|aI<|cF (fun a2=>zC U p0 p1 p2 a2=some r) (fun a2 b3=>[(0,v0),(1,v1),(2,vB (p2))]) (fun a2 b3=>[]) ?_ ?_
 ·refine aT<|aA rfl<|cY (eZ rfl) rfl<|aA rfl<|aL<|aP<|eH (jT U p0 p1 p2) (fun a19 b20=>[(0,v0),(1,v1),(2,vB (p2)),(16,v1),(17,vI (List.length p1:Int)),(18,vI (a19))]) (fun a19 b20=>[]) (0:Int) () h SF (bK.refl _) ?_
  intro k21 a19 b20 h
  refine aT<|cZ rfl<|aL<|aI ?_
  refine fG h rfl (fun h=>?_) fun h=>?_
  ·refine bJ<|aI<|aP<|aT<|eO h fun j23 h=>aD (aU rfl rfl (eZ rfl) rfl rfl j23) rfl<|aD (fN rfl (eZ rfl) rfl rfl rfl jP j23) rfl<|aB rfl<|aL<|aT<|aA rfl<|eM h fun r24 w25 h=>aN (aR.callQ Lq (zW U  r24 w25) rfl .nil) rfl fun x26=>aD (eC rfl) rfl<|aL ?_
   refine eY h rfl (fun _ h=>?_) fun _ h=>?_
   ·refine aT<|aB rfl<|aB rfl<|aL<|aS<|bP<|aG<|aG<|bP<|aG ?_
    cases h
    exact eV () rfl rfl (RV.tmp rfl) (RV.tmp rfl) (bK.refl _) aO.nil
   refine cS<|kB<|aH<|cU rfl<|aA rfl<|aL ?_
   exact AC (wI .i64 (a19+(1:Int))) () h SF rfl
  refine dY ?_
  exact b_ () (()) h SF rfl
 intro a2 b3 h
 refine aI<|aT<|aA rfl<|aA rfl<|cY (eZ rfl) rfl<|eM h fun r4 w5 h=>aN (aR.callQ Fg (uU U v0 r4 w5) rfl (hI [0] rfl)) rfl fun x6=>aD (eC rfl) rfl<|aL ?_
 refine eY h rfl (fun _ h=>?_) fun _ h=>?_
 ·refine aT<|aB rfl<|aB rfl<|aL<|aS<|aG ?_
  cases h
  exact eV () rfl rfl (RV.tmp rfl) (RV.tmp rfl) (bK.refl _) aO.nil
 refine bJ<|aT<|aA rfl<|aA rfl<|dG (Know.one ((dB rfl))) fun ho8=>dG (Know.one ((eZ rfl))) fun ho9=>?_
 refine aD (Kt (r:=Value.agg #[v0,v1]) rfl rfl (by intro w;simp[Instr.build,Instr.fill,iD,gC,fL,iF,iG,gE,jW,yB ho8,yB ho9])) rfl ?_
 refine aN (aR.alloc (cs:=[oI,oI]) rfl rfl) rfl fun b10=>dG (Know.one ((dB rfl))) fun ho11=>dG (Know.one ((eZ rfl))) fun ho12=>cC 0 (vs:=[v0,v1]) rfl rfl (fE ho11 (fE ho12 rfl)) rfl rfl rfl<|aL<|aT<|l_ 0 rfl<|aA rfl<|eM h fun r13 w14 h=>aN (aR.callQ Lt (Bi U v0 v1 r13 w14) rfl (hI [0,1] rfl)) rfl fun x15=>aA rfl<|gI rfl<|gI rfl<|aB rfl<|aB rfl<|aL<|aI<|aT<|aA rfl<|cH rfl<|aL ?_
 refine fG h rfl (fun h=>?_) fun h=>?_
 ·refine aT<|aB rfl<|aB rfl<|aL<|aS<|aG ?_
  cases h
  exact eV () rfl rfl (RV.tmp rfl) (RV.tmp rfl) .nil aO.nil
 refine bJ<|aT<|aA rfl<|aB rfl<|aB rfl<|aL<|aS ?_
 cases h
 exact eV () rfl rfl (RV.tmp rfl) (RV.tmp rfl) .nil aO.nil
end
section
def wR (p0:lO) (p1:bV) (a15:Bool):Option (Int):=
 if a15=true then(ck (0<=p0.2∧p0.2<(List.length p1:Int)) (some (at' p1 p0.2)))else(some (1:Int))
def sE (p0:lO) (p1:bV) (a11:Bool):Option (Int):=
 if a11=true then(some (3:Int))else(if p0.1=(5:Int)then(wR p0 p1 (decide (p0.1=(5:Int))))else(wR p0 p1 (decide (p0.1=(12:Int)))))
def oF (p0:lO) (p1:bV) (a7:Bool):Option (Int):=
 if a7=true then(some (2:Int))else(if p0.1=(4:Int)then(sE p0 p1 (decide (p0.1=(4:Int))))else(if p0.1=(11:Int)then(sE p0 p1 (decide (p0.1=(11:Int))))else(sE p0 p1 (decide (p0.1=(17:Int))))))
def sD (p0:lO) (p1:bV) (a3:Bool):Option (Int):=
 if a3=true then(some (0:Int))else(if p0.1=(2:Int)then(oF p0 p1 (decide (p0.1=(2:Int))))else(if p0.1=(3:Int)then(oF p0 p1 (decide (p0.1=(3:Int))))else(if p0.1=(10:Int)then(oF p0 p1 (decide (p0.1=(10:Int))))else(oF p0 p1 (decide (p0.1=(15:Int)))))))
def uD (U:Nat) (p0:lO) (p1:bV) (p2:Bool):Option (Int):=
 if(!p2)=true then(if p0.1=(11:Int)then(sD p0 p1 (true))else(sD p0 p1 (decide ((12:Int)<=p0.1))))else(sD p0 p1 (false))
theorem QD:bE Tryz.prog 134:=Tryz.call134
theorem Ix (U:Nat) {p0:lO} {p1:bV} {p2:Bool} (v0:Value) (r:Int) (h:uD U p0 p1 p2=some r):
  aZ Tryz.prog 134 #[Value.agg #[vI (p0.1),vI (p0.2)],v0,vB (p2)] [Sl lH v0 p1] (fun x:Unit=>vI (r)) (fun x l=>l) (fun _ l=>l):=by
 refine aZ.of Tryz.func134 rfl Tryz.ntmps134 rfl fun c=>?_
 unfold uD at h
 refine aT<|aN (aR.box (cs:=[vI (p0.1),vI (p0.2)]) rfl rfl) rfl fun b1=>aB rfl<|aL<|aI<|aI<|cF (fun a3=>sD p0 p1 a3=some r) (fun a3 b4=>[(1,v0),(3,vP b1),(18,vB (a3))]) (fun a3 b4=>[dD b1 [vI (p0.1),vI (p0.2)] 84]) ?_ ?_
 ·refine aH<|aA rfl<|aD (eC rfl) rfl<|aA rfl ?_
  refine e_ (by exact rfl) (by exact rfl) (fun hp25=>?_) (fun hp25=>?_)
  ·have h:=Ak hp25 h
   refine aF rfl (bW rfl rfl rfl rfl rfl) rfl<|aF rfl (cI 0 rfl rfl rfl rfl rfl) rfl<|aF rfl (kP rfl rfl) rfl<|bM rfl ?_
   refine mW h rfl (fun _ h=>?_) fun _ h=>?_
   ·refine aC rfl<|aC rfl<|aC rfl<|aF rfl (vT rfl rfl) rfl<|bO rfl<|aL ?_
    exact b_ (true) () h SF rfl
   refine aF rfl (bW rfl rfl rfl rfl rfl) rfl<|aF rfl (cI 0 rfl rfl rfl rfl rfl) rfl<|aF rfl (lL rfl rfl) rfl<|aF rfl (qI rfl rfl) rfl<|bO rfl<|aL ?_
   exact b_ (decide ((12:Int)<=p0.1)) () h SF rfl
  have h:=rI hp25 h
  refine aC rfl<|aC rfl<|aC rfl<|aC rfl<|BE (h:= ?_)
  refine BE (h:= ?_)
  refine BE (h:= ?_)
  refine aC rfl<|bR rfl<|aL ?_
  exact b_ (false) () h SF rfl
 intro a3 b4 h
 refine eY h rfl (fun _ h=>?_) fun _ h=>?_
 ·refine aT<|aB rfl<|aL<|aS<|aG ?_
  cases h
  exact vF rfl
 refine bJ<|aI<|aT<|bQ rfl<|cM 0 rfl<|aL<|aP<|aI<|cF (fun a7=>oF p0 p1 a7=some r) (fun a7 b8=>[(1,v0),(3,vP b1),(20,vI (p0.1)),(21,vB (a7))]) (fun a7 b8=>[dD b1 [vI (p0.1),vI (p0.2)] 84]) ?_ ?_
 ·refine aT<|cH rfl<|aB rfl<|aL ?_
  refine fG h rfl (fun h=>?_) fun h=>?_
  ·refine bJ ?_
   exact b_ (decide (p0.1=(2:Int))) () h SF rfl
  refine aT<|cH rfl<|aB rfl<|aL ?_
  refine fG h rfl (fun h=>?_) fun h=>?_
  ·refine bJ ?_
   exact b_ (decide (p0.1=(3:Int))) () h SF rfl
  refine aT<|cH rfl<|aB rfl<|aL ?_
  refine fG h rfl (fun h=>?_) fun h=>?_
  ·refine bJ ?_
   exact b_ (decide (p0.1=(10:Int))) () h SF rfl
  refine aH<|cH rfl<|aB rfl<|aL ?_
  exact b_ (decide (p0.1=(15:Int))) () h SF rfl
 intro a7 b8 h
 refine eY h rfl (fun _ h=>?_) fun _ h=>?_
 ·refine aT<|aB rfl<|aL<|aS<|bP<|aG ?_
  cases h
  exact vF rfl
 refine aI<|cF (fun a11=>sE p0 p1 a11=some r) (fun a11 b12=>[(1,v0),(3,vP b1),(20,vI (p0.1)),(26,vB (a11))]) (fun a11 b12=>[dD b1 [vI (p0.1),vI (p0.2)] 84]) ?_ ?_
 ·refine aT<|cH rfl<|aB rfl<|aL ?_
  refine fG h rfl (fun h=>?_) fun h=>?_
  ·refine bJ ?_
   exact b_ (decide (p0.1=(4:Int))) () h SF rfl
  refine aT<|cH rfl<|aB rfl<|aL ?_
  refine fG h rfl (fun h=>?_) fun h=>?_
  ·refine bJ ?_
   exact b_ (decide (p0.1=(11:Int))) () h SF rfl
  refine aH<|cH rfl<|aB rfl<|aL ?_
  exact b_ (decide (p0.1=(17:Int))) () h SF rfl
 intro a11 b12 h
 refine eY h rfl (fun _ h=>?_) fun _ h=>?_
 ·refine aT<|aB rfl<|aL<|aS<|bP<|aG ?_
  cases h
  exact vF rfl
 refine aI<|cF (fun a15=>wR p0 p1 a15=some r) (fun a15 b16=>[(1,v0),(3,vP b1),(30,vB (a15))]) (fun a15 b16=>[dD b1 [vI (p0.1),vI (p0.2)] 84]) ?_ ?_
 ·refine aT<|cH rfl<|aB rfl<|aL ?_
  refine fG h rfl (fun h=>?_) fun h=>?_
  ·refine bJ ?_
   exact b_ (decide (p0.1=(5:Int))) () h SF rfl
  refine aH<|cH rfl<|aB rfl<|aL ?_
  exact b_ (decide (p0.1=(12:Int))) () h SF rfl
 intro a15 b16 h
 refine eY h rfl (fun _ h=>?_) fun _ h=>?_
 ·refine aT<|aA rfl<|bQ rfl<|cM 0 rfl<|eO h fun j18 h=>aD (aU rfl rfl (dB rfl) rfl rfl j18) rfl<|aD (fN rfl (dB rfl) rfl rfl rfl jP j18) rfl<|aB rfl<|aL<|aS<|bP<|aG ?_
  cases h
  exact vF rfl
 refine cS<|kB<|aT<|aB rfl<|aL<|aS ?_
 cases h
 exact vF rfl
end
section
def kX (p1:Int) (a3:lO):Option (Int):=
 if p1≠a3.2 then(some (0:Int))else(some (a3.1))
def nS (p0:Int) (p1:Int) (a7:Bool):Option (Int):=
 if a7=true then(kX p1 ((2:Int),(2:Int)))else(if p0=(22:Int)then(kX p1 ((1:Int),(2:Int)))else(if p0=(23:Int)then(kX p1 ((3:Int),(2:Int)))else(kX p1 ((1:Int),(1:Int)))))
def pO (U:Nat) (p0:Int) (p1:Int):Option (Int):=
 if p0=(19:Int)then(nS p0 p1 (decide (p0=(19:Int))))else(if p0=(20:Int)then(nS p0 p1 (decide (p0=(20:Int))))else(nS p0 p1 (decide (p0=(21:Int)))))
theorem Lv:bE Tryz.prog 135:=Tryz.call135
theorem Bq (U:Nat) {p0:Int} {p1:Int} (r:Int) (h:pO U p0 p1=some r):
  aZ Tryz.prog 135 #[vI (p0),vI (p1)] [] (fun x:Unit=>vI (r)) (fun x l=>l) (fun _ l=>l):=by
 refine aZ.of Tryz.func135 rfl Tryz.ntmps135 rfl fun c=>?_
 refine aT<|aB rfl<|aL<|aT<|aB rfl<|aB rfl<|aL<|aI<|cF (fun a3=>kX p1 a3=some r) (fun a3 b4=>[(1,vI (p1)),(5,vI (a3.2)),(6,vI (a3.1))]) (fun a3 b4=>[]) ?_ ?_
 ·refine aT<|aA rfl<|aL<|aP<|aI<|cF (fun a7=>nS p0 p1 a7=some r) (fun a7 b8=>[(1,vI (p1)),(5,vI (1:Int)),(6,vI (1:Int)),(7,vI (p0)),(8,vB (a7))]) (fun a7 b8=>[]) ?_ ?_
  ·refine aT<|cH rfl<|aB rfl<|aL ?_
   refine fG h rfl (fun h=>?_) fun h=>?_
   ·refine bJ ?_
    exact b_ (decide (p0=(19:Int))) () h SF rfl
   refine aT<|cH rfl<|aB rfl<|aL ?_
   refine fG h rfl (fun h=>?_) fun h=>?_
   ·refine bJ ?_
    exact b_ (decide (p0=(20:Int))) () h SF rfl
   refine aH<|cH rfl<|aB rfl<|aL ?_
   exact b_ (decide (p0=(21:Int))) () h SF rfl
  intro a7 b8 h
  refine eY h rfl (fun _ h=>?_) fun _ h=>?_
  ·refine aH<|aB rfl<|aB rfl<|fF<|kB ?_
   exact b_ ((2:Int),(2:Int)) () h SF rfl
  refine aT<|cH rfl<|aB rfl<|aL ?_
  refine fG h rfl (fun h=>?_) fun h=>?_
  ·refine aH<|aB rfl<|fF<|kB ?_
   exact b_ ((1:Int),(2:Int)) () h SF rfl
  refine aT<|cH rfl<|aB rfl<|aL ?_
  refine fG h rfl (fun h=>?_) fun h=>?_
  ·refine aH<|aB rfl<|aB rfl<|fF<|kB ?_
   exact b_ ((3:Int),(2:Int)) () h SF rfl
  refine cS<|kB ?_
  exact b_ ((1:Int),(1:Int)) () h SF rfl
 intro a3 b4 h
 refine aI<|aT<|aA rfl<|aA rfl<|rV rfl<|aL ?_
 refine fG h rfl (fun h=>?_) fun h=>?_
 ·refine aT<|aB rfl<|aL<|aS<|aG ?_
  cases h
  exact gU rfl
 refine bJ<|aT<|aA rfl<|aB rfl<|aL<|aS ?_
 cases h
 exact gU rfl
end
section
def sX  (a6:Bool):Option (Int):=
 if a6=true then(some (0:Int))else(some (2:Int))
def sZ  (a15:Bool):Option (Int):=
 if a15=true then(some (0:Int))else(some (2:Int))
def tA  (a24:Bool):Option (Int):=
 if a24=true then(some (2:Int))else(some (1:Int))
def s_ (p0:Int) (a20:Bool):Option (Int):=
 if a20=true then(some (0:Int))else(if(37:Int)<=p0 then(tA  (decide (p0<=(40:Int))))else(tA  (false)))
def sY (p0:Int) (p1:Int) (p2:Int) (a11:Bool):Option (Int):=
 if a11=true then(if p1≠(2:Int)then(sZ  (true))else(sZ  (decide (p2≠(2:Int)))))else(if p1≠(1:Int)then(s_ p0 (true))else(s_ p0 (decide (p2≠(1:Int)))))
def sW (p0:Int) (p1:Int) (p2:Int) (a2:Bool):Option (Int):=
 if a2=true then(if p1≠p2 then(sX  (true))else(sX  (decide (p1=(0:Int)))))else(if p0=(41:Int)then(sY p0 p1 p2 (true))else(sY p0 p1 p2 (decide (p0=(42:Int)))))
def uB (U:Nat) (p0:Int) (p1:Int) (p2:Int):Option (Int):=
 if p0=(35:Int)then(sW p0 p1 p2 (true))else(sW p0 p1 p2 (decide (p0=(36:Int))))
theorem QE:bE Tryz.prog 136:=Tryz.call136
theorem FV (U:Nat) {p0:Int} {p1:Int} {p2:Int} (r:Int) (h:uB U p0 p1 p2=some r):
  aZ Tryz.prog 136 #[vI (p0),vI (p1),vI (p2)] [] (fun x:Unit=>vI (r)) (fun x l=>l) (fun _ l=>l):=by
 refine aZ.of Tryz.func136 rfl Tryz.ntmps136 rfl fun c=>?_
 refine aT<|aB rfl<|aL<|aI<|aP<|aI<|cF (fun a2=>sW p0 p1 p2 a2=some r) (fun a2 b3=>[(0,vI (p0)),(1,vI (p1)),(2,vI (p2)),(7,vB (a2))]) (fun a2 b3=>[]) ?_ ?_
 ·refine aH<|aA rfl<|cH rfl<|aA rfl ?_
  refine mW h rfl (fun _ h=>?_) fun _ h=>?_
  ·refine aC rfl<|aC rfl<|bO rfl<|aB rfl<|aL ?_
   exact b_ (true) () h SF rfl
  refine bM rfl<|aF rfl (kP rfl rfl) rfl<|bR rfl<|aB rfl<|aL ?_
  exact b_ (decide (p0=(36:Int))) () h SF rfl
 intro a2 b3 h
 refine eY h rfl (fun _ h=>?_) fun _ h=>?_
 ·refine aI<|aI<|cF (fun a6=>sX  a6=some r) (fun a6 b7=>[(20,vB (a6))]) (fun a6 b7=>[]) ?_ ?_
  ·refine aH<|aA rfl<|aA rfl<|rV rfl<|aA rfl ?_
   refine mW h rfl (fun _ h=>?_) fun _ h=>?_
   ·refine aC rfl<|aC rfl<|bO rfl<|aL ?_
    exact b_ (true) () h SF rfl
   refine bM rfl<|aF rfl (kP rfl rfl) rfl<|bR rfl<|aL ?_
   exact b_ (decide (p1=(0:Int))) () h SF rfl
  intro a6 b7 h
  refine eY h rfl (fun _ h=>?_) fun _ h=>?_
  ·refine aT<|aB rfl<|aL<|aS<|aG<|bP<|aG ?_
   cases h
   exact gU rfl
  refine bJ<|aT<|aB rfl<|aL<|aS<|bP<|aG ?_
  cases h
  exact gU rfl
 refine aI<|cF (fun a11=>sY p0 p1 p2 a11=some r) (fun a11 b12=>[(0,vI (p0)),(1,vI (p1)),(2,vI (p2)),(21,vB (a11))]) (fun a11 b12=>[]) ?_ ?_
 ·refine aH<|aA rfl<|cH rfl<|aA rfl ?_
  refine mW h rfl (fun _ h=>?_) fun _ h=>?_
  ·refine aC rfl<|aC rfl<|bO rfl<|aB rfl<|aL ?_
   exact b_ (true) () h SF rfl
  refine bM rfl<|aF rfl (kP rfl rfl) rfl<|bR rfl<|aB rfl<|aL ?_
  exact b_ (decide (p0=(42:Int))) () h SF rfl
 intro a11 b12 h
 refine eY h rfl (fun _ h=>?_) fun _ h=>?_
 ·refine aI<|aI<|cF (fun a15=>sZ  a15=some r) (fun a15 b16=>[(33,vB (a15))]) (fun a15 b16=>[]) ?_ ?_
  ·refine aH<|aA rfl<|rV rfl<|aA rfl ?_
   refine mW h rfl (fun _ h=>?_) fun _ h=>?_
   ·refine aC rfl<|aC rfl<|bO rfl<|aL ?_
    exact b_ (true) () h SF rfl
   refine bM rfl<|aF rfl (xB rfl rfl) rfl<|bR rfl<|aL ?_
   exact b_ (decide (p2≠(2:Int))) () h SF rfl
  intro a15 b16 h
  refine eY h rfl (fun _ h=>?_) fun _ h=>?_
  ·refine aT<|aB rfl<|aL<|aS<|aG<|bP<|aG ?_
   cases h
   exact gU rfl
  refine bJ<|aT<|aB rfl<|aL<|aS<|bP<|aG ?_
  cases h
  exact gU rfl
 refine aI<|cF (fun a20=>s_ p0 a20=some r) (fun a20 b21=>[(0,vI (p0)),(34,vB (a20))]) (fun a20 b21=>[]) ?_ ?_
 ·refine aH<|aA rfl<|rV rfl<|aA rfl ?_
  refine mW h rfl (fun _ h=>?_) fun _ h=>?_
  ·refine aC rfl<|aC rfl<|bO rfl<|aB rfl<|aL ?_
   exact b_ (true) () h SF rfl
  refine bM rfl<|aF rfl (xB rfl rfl) rfl<|bR rfl<|aB rfl<|aL ?_
  exact b_ (decide (p2≠(1:Int))) () h SF rfl
 intro a20 b21 h
 refine eY h rfl (fun _ h=>?_) fun _ h=>?_
 ·refine aT<|aB rfl<|aL<|aS<|bP<|aG ?_
  cases h
  exact gU rfl
 refine aI<|cF (fun a24=>tA  a24=some r) (fun a24 b25=>[(41,vB (a24))]) (fun a24 b25=>[]) ?_ ?_
 ·refine aH<|aA rfl<|aD (lL rfl rfl) rfl<|aA rfl ?_
  refine mW h rfl (fun _ h=>?_) fun _ h=>?_
  ·refine bM rfl<|aF rfl (oP rfl rfl) rfl<|bO rfl<|aB rfl<|aL ?_
   exact b_ (decide (p0<=(40:Int))) () h SF rfl
  refine aC rfl<|aC rfl<|bR rfl<|aB rfl<|aL ?_
  exact b_ (false) () h SF rfl
 intro a24 b25 h
 refine eY h rfl (fun _ h=>?_) fun _ h=>?_
 ·refine aT<|aB rfl<|aL<|aS<|bP<|aG ?_
  cases h
  exact gU rfl
 refine cS<|kB<|aT<|aB rfl<|aL<|aS ?_
 cases h
 exact gU rfl
end
section
def qV  (a6:Int):Option (Int):=
 some (a6)
def fM (U:Nat) (p0:cA) (p2:Int) (a11:lO) (ag10:fZ->Option (Int)):Option (Int):=
 if a11.2<p2 then(Option.bind (tH U p0 a11.1) fun r15=>(ag10 (r15,(wI .i64 (a11.2+(1:Int))))))else(qV  (a11.1))
def mB (U:Nat) (p0:cA) (p1:Int) (p2:Int) (a2:Bool):Option (Int):=
 if a2=true then(some (-1:Int))else(bH (fM U p0 p2) U ((wI .i64 (p1+(1:Int))),(0:Int)))
def kU (U:Nat) (p0:cA) (p1:Int) (p2:Int):Option (Int):=
 Option.bind (tH U p0 p1) fun r18=>(if r18<(0:Int)then(mB U p0 p1 p2 (true))else(if p2<(0:Int)then(mB U p0 p1 p2 (true))else(ck (0<=p1∧p1<(List.length p0:Int)) (Option.bind (lJ U ((at' p0 p1).1)) fun r24=>(mB U p0 p1 p2 (decide (r24<=p2)))))))
theorem HK:bE Tryz.prog 137:=Tryz.call137
theorem xI (U:Nat) {p0:cA} {p1:Int} {p2:Int} (v0:Value) (r:Int) (h:kU U p0 p1 p2=some r):
  aZ Tryz.prog 137 #[v0,vI (p1),vI (p2)] [Sl aY v0 p0] (fun x:Unit=>vI (r)) (fun x l=>l) (fun _ l=>l):=by
 refine aZ.of Tryz.func137 rfl Tryz.ntmps137 rfl fun c=>?_
 refine aT<|aB rfl<|aL<|aI<|aI<|cF (fun a2=>mB U p0 p1 p2 a2=some r) (fun a2 b3=>[(0,v0),(1,vI (p1)),(2,vI (p2)),(26,vB (a2))]) (fun a2 b3=>[]) ?_ ?_
 ·refine aH<|aA rfl<|aA rfl<|eM h fun r18 w19 h=>aN (aR.callQ Ky (Bm U v0 r18 w19) rfl (hI [0] rfl)) rfl fun x20=>cZ rfl<|aA rfl ?_
  refine mW h rfl (fun _ h=>?_) fun _ h=>?_
  ·refine aC rfl<|aC rfl<|bO rfl<|aA rfl<|aC rfl<|aC rfl<|aC rfl<|aC rfl<|aC rfl<|aC rfl<|aC rfl<|aC rfl<|bO rfl<|aL ?_
   exact b_ (true) () h SF rfl
  refine bM rfl<|aF rfl (IY rfl rfl) rfl<|bR rfl<|aA rfl ?_
  refine mW h rfl (fun _ h=>?_) fun _ h=>?_
  ·refine aC rfl<|aC rfl<|aC rfl<|aC rfl<|aC rfl<|aC rfl<|aC rfl<|aC rfl<|bO rfl<|aL ?_
   exact b_ (true) () h SF rfl
  refine bM rfl<|bM rfl<|bM rfl<|eO h fun j23 h=>aF rfl (aU rfl rfl (dB rfl) rfl rfl j23) rfl<|aF rfl (cB rfl rfl rfl rfl rfl) rfl<|aF rfl (eQ rfl (dB rfl) rfl rfl rfl j_ j23) rfl<|eM h fun r24 w25 h=>fA rfl (aR.callQ HN (wU U  r24 w25) rfl .nil) rfl fun x26=>aF rfl (lL rfl rfl) rfl<|bR rfl<|aL ?_
  exact b_ (decide (r24<=p2)) () h SF rfl
 intro a2 b3 h
 refine eY h rfl (fun _ h=>?_) fun _ h=>?_
 ·refine aT<|aB rfl<|aL<|aS<|aG ?_
  cases h
  exact gU rfl
 refine bJ<|aT<|aA rfl<|cU rfl<|aB rfl<|aL<|aI<|cF (fun a6=>qV  a6=some r) (fun a6 b7=>[(7,vI (a6))]) (fun a6 b7=>[]) ?_ ?_
 ·refine aT<|aB rfl<|aL<|aP<|eH (fM U p0 p2) (fun a11 b12=>[(0,v0),(2,vI (p2)),(7,vI (a11.1)),(8,vI (a11.2))]) (fun a11 b12=>[]) ((wI .i64 (p1+(1:Int))),(0:Int)) () h SF (bK.refl _) ?_
  intro k13 a11 b12 h
  refine aI<|aT<|aA rfl<|aA rfl<|cZ rfl<|aL ?_
  refine fG h rfl (fun h=>?_) fun h=>?_
  ·refine bJ<|aI<|aP<|aH<|aA rfl<|aA rfl<|eM h fun r15 w16 h=>aN (aR.callQ Ky (Bm U v0 r15 w16) rfl (hI [0] rfl)) rfl fun x17=>aB rfl<|fF<|kB<|aH<|aA rfl<|cU rfl<|aB rfl<|aL ?_
   exact AC (r15,(wI .i64 (a11.2+(1:Int)))) () h SF rfl
  refine dY ?_
  exact b_ (a11.1) () h SF rfl
 intro a6 b7 h
 unfold qV at h
 refine aT<|aA rfl<|aB rfl<|aL<|aS ?_
 cases h
 exact gU rfl
end
section
def sC  (a12:Int):Option (Int):=
 some (a12)
def wQ (r49:Int) (a59:Bool):Option (Int):=
 if a59=true then(some (0:Int))else(some (r49))
def iP (rc:cA->Int->bV->Bool->Option (Int)) (U:Nat) (p0:cA) (p1:Int) (p2:bV) (p3:Bool):Option (Int):=
 ck (0<=p1∧p1<(List.length p0:Int)) (Option.bind (lJ U ((at' p0 p1).1)) fun r2=>(if r2=(0:Int)then(ck (0<=p1∧p1<(List.length p0:Int)) (Option.bind (uD U ((((at' p0 p1).1),((at' p0 p1).2))) p2 p3) fun r7=>(some (r7))))else(if r2=(1:Int)then(if p3=true then(Option.bind (rc p0 (wI .i64 (p1+(1:Int))) p2 true) fun r15=>(Option.bind (pO U ((at' p0 p1).1) r15) fun r18=>(sC  (r18))))else(Option.bind (kZ U ((at' p0 p1).1)) fun r21=>(Option.bind (rc p0 (wI .i64 (p1+(1:Int))) p2 r21) fun r24=>(Option.bind (pO U ((at' p0 p1).1) r24) fun r27=>(sC  (r27))))))else(if r2=(2:Int)then(Option.bind (rc p0 (wI .i64 (p1+(1:Int))) p2 p3) fun r31=>(Option.bind (kU U p0 p1 (1:Int)) fun r34=>(Option.bind (rc p0 r34 p2 p3) fun r37=>(Option.bind (uB U ((at' p0 p1).1) r31 r37) fun r40=>(some (r40))))))else(Option.bind (rc p0 (wI .i64 (p1+(1:Int))) p2 p3) fun r43=>(Option.bind (kU U p0 p1 (1:Int)) fun r46=>(Option.bind (rc p0 r46 p2 p3) fun r49=>(Option.bind (kU U p0 p1 (2:Int)) fun r52=>(Option.bind (rc p0 r52 p2 p3) fun r55=>(if r43≠(2:Int)then(wQ r49 (true))else(wQ r49 (decide (r49≠r55)))))))))))))
def eS:Nat->cA->Int->bV->Bool->Option (Int)
 |0,_,_,_,_=>none
 |U+1,p0,p1,p2,p3=>iP (eS U) U p0 p1 p2 p3
theorem xP:bE Tryz.prog 112:=Tryz.call112
theorem FX (rc:cA->Int->bV->Bool->Option (Int)) (U:Nat) (hrc:∀{p0:cA} {p1:Int} {p2:bV} {p3:Bool} (v0:Value)  (v1:Value) (r:Int),rc p0 p1 p2 p3=some r->aZ Tryz.prog 112 #[v0,vI (p1),v1,vB (p3)] [Sl aY v0 p0,Sl lH v1 p2] (fun x:Unit=>vI (r)) (fun x l=>l) (fun _ l=>l)) {p0:cA} {p1:Int} {p2:bV} {p3:Bool} (v0:Value)  (v1:Value) (r:Int) (h:iP rc U p0 p1 p2 p3=some r):
  aZ Tryz.prog 112 #[v0,vI (p1),v1,vB (p3)] [Sl aY v0 p0,Sl lH v1 p2] (fun x:Unit=>vI (r)) (fun x l=>l) (fun _ l=>l):=by
 refine aZ.of Tryz.func112 rfl Tryz.ntmps112 rfl fun c=>?_
 refine aT<|aB rfl<|aL<|aT<|aA rfl<|aA rfl<|eO h fun j1 h=>aD (aU rfl rfl (dB rfl) rfl rfl j1) rfl<|aD (cB rfl rfl rfl rfl rfl) rfl<|aD (eQ rfl (dB rfl) rfl rfl rfl j_ j1) rfl<|aB rfl<|aL<|aI<|aT<|aA rfl<|eM h fun r2 w3 h=>aN (aR.callQ HN (wU U  r2 w3) rfl .nil) rfl fun x4=>aL<|aP<|aT<|cH rfl<|aB rfl<|aL ?_
 refine fG h rfl (fun h=>?_) fun h=>?_
 ·refine aT<|aA rfl<|aA rfl<|eO h fun j6 h=>aD (aU rfl rfl (dB rfl) rfl rfl j6) rfl<|aD (fO (cs:=[vI ((at' p0 p1).1),vI ((at' p0 p1).2)]) rfl (dB rfl) dI rfl rfl rfl rfl j6) rfl<|aA rfl<|aA rfl<|eM h fun r7 w8 h=>aN (aR.callQ QD (Ix U v1 r7 w8) rfl (hI [1] rfl)) rfl fun x9=>aB rfl<|aL<|aS<|bP<|aG ?_
  cases h
  exact gU rfl
 refine aT<|cH rfl<|aB rfl<|aL ?_
 refine fG h rfl (fun h=>?_) fun h=>?_
 ·refine aI<|cF (fun a12=>sC  a12=some r) (fun a12 b13=>[(8,vI (a12))]) (fun a12 b13=>[]) ?_ ?_
  ·refine aH<|aA rfl<|aA rfl<|aA rfl<|cU rfl<|aA rfl<|aA rfl<|aA rfl ?_
   refine e_ (by exact rfl) (by exact rfl) (fun hp14=>?_) (fun hp14=>?_)
   ·have h:=Ak hp14 h
    refine aC rfl<|aC rfl<|bO rfl<|eM h fun r15 w16 h=>aN (aR.callQ xP (hrc v0 v1 r15 w16) rfl (hI [0,1] rfl)) rfl fun x17=>eM h fun r18 w19 h=>aN (aR.callQ Lv (Bq U  r18 w19) rfl .nil) rfl fun x20=>aB rfl<|aL ?_
    exact b_ (r18) () h SF rfl
   have h:=rI hp14 h
   refine bM rfl<|eM h fun r21 w22 h=>fA rfl (aR.callQ Oz (yZ U  r21 w22) rfl .nil) rfl fun x23=>bR rfl<|eM h fun r24 w25 h=>aN (aR.callQ xP (hrc v0 v1 r24 w25) rfl (hI [0,1] rfl)) rfl fun x26=>eM h fun r27 w28 h=>aN (aR.callQ Lv (Bq U  r27 w28) rfl .nil) rfl fun x29=>aB rfl<|aL ?_
   exact b_ (r27) () h SF rfl
  intro a12 b13 h
  unfold sC at h
  refine aS<|bP<|aG ?_
  cases h
  exact gU rfl
 refine aT<|cH rfl<|aB rfl<|aL ?_
 refine fG h rfl (fun h=>?_) fun h=>?_
 ·refine aT<|aA rfl<|aA rfl<|aA rfl<|cU rfl<|aA rfl<|aA rfl<|eM h fun r31 w32 h=>aN (aR.callQ xP (hrc v0 v1 r31 w32) rfl (hI [0,1] rfl)) rfl fun x33=>aA rfl<|aA rfl<|aA rfl<|eM h fun r34 w35 h=>aN (aR.callQ HK (xI U v0 r34 w35) rfl (hI [0] rfl)) rfl fun x36=>aA rfl<|aA rfl<|eM h fun r37 w38 h=>aN (aR.callQ xP (hrc v0 v1 r37 w38) rfl (hI [0,1] rfl)) rfl fun x39=>eM h fun r40 w41 h=>aN (aR.callQ QE (FV U  r40 w41) rfl .nil) rfl fun x42=>aB rfl<|aL<|aS<|bP<|aG ?_
  cases h
  exact gU rfl
 refine cS<|kB<|aT<|aA rfl<|aA rfl<|cU rfl<|aA rfl<|aA rfl<|eM h fun r43 w44 h=>aN (aR.callQ xP (hrc v0 v1 r43 w44) rfl (hI [0,1] rfl)) rfl fun x45=>aA rfl<|aA rfl<|aA rfl<|eM h fun r46 w47 h=>aN (aR.callQ HK (xI U v0 r46 w47) rfl (hI [0] rfl)) rfl fun x48=>aA rfl<|aA rfl<|eM h fun r49 w50 h=>aN (aR.callQ xP (hrc v0 v1 r49 w50) rfl (hI [0,1] rfl)) rfl fun x51=>aA rfl<|aA rfl<|aA rfl<|eM h fun r52 w53 h=>aN (aR.callQ HK (xI U v0 r52 w53) rfl (hI [0] rfl)) rfl fun x54=>aA rfl<|aA rfl<|eM h fun r55 w56 h=>aN (aR.callQ xP (hrc v0 v1 r55 w56) rfl (hI [0,1] rfl)) rfl fun x57=>aB rfl<|aB rfl<|aB rfl<|aL<|aI<|aI<|cF (fun a59=>wQ r49 a59=some r) (fun a59 b60=>[(11,vI (r49)),(86,vB (a59))]) (fun a59 b60=>[]) ?_ ?_
 ·refine aH<|aA rfl<|rV rfl<|aA rfl ?_
  refine mW h rfl (fun _ h=>?_) fun _ h=>?_
  ·refine aC rfl<|aC rfl<|aC rfl<|bO rfl<|aL ?_
   exact b_ (true) () h SF rfl
  refine bM rfl<|bM rfl<|aF rfl (xB rfl rfl) rfl<|bR rfl<|aL ?_
  exact b_ (decide (r49≠r55)) () h SF rfl
 intro a59 b60 h
 refine eY h rfl (fun _ h=>?_) fun _ h=>?_
 ·refine aT<|aB rfl<|aL<|aS<|aG ?_
  cases h
  exact gU rfl
 refine bJ<|aT<|aA rfl<|aB rfl<|aL<|aS ?_
 cases h
 exact gU rfl
theorem Dh (U:Nat):∀{p0:cA} {p1:Int} {p2:bV} {p3:Bool} (v0:Value)  (v1:Value) (r:Int),eS U p0 p1 p2 p3=some r->
  aZ Tryz.prog 112 #[v0,vI (p1),v1,vB (p3)] [Sl aY v0 p0,Sl lH v1 p2] (fun x:Unit=>vI (r)) (fun x l=>l) (fun _ l=>l):=by
 induction U with
 |zero=>intros;rename_i h;cases h
 |succ U ih=>exact fun v0 v1 r h=>FX (eS U) U ih v0 v1 r h
end
end Go.Proofs.YthnplbmmlbnelaaGreat
end
section
namespace Go.Proofs.YthnplbmmlbnelaaGreat
open Go Go.Sx
def Jk (ks:bV) (t:TM):Int:=if t.1=2∨t.1=3∨t.1=10∨t.1=15 then 2 else if t.1=4∨t.1=11∨t.1=17 then 3 else if t.1=5∨t.1=12 then at' ks t.2 else 1
def Nr (o a:Int):Int:=if o=19∨o=20∨o=21 then(if a=2 then 2 else 0)else if o=22 then(if a=2 then 1 else 0)else if o=23 then(if a=2 then 3 else 0)else if a=1 then 1 else 0
def MV (o a b:Int):Int:=if o=35∨o=36 then(if a=b∧a≠0 then 2 else 0)else if o=41∨o=42 then(if a=2∧b=2 then 2 else 0)else if a=1∧b=1 then(if 37<=o∧o<=40 then 2 else 1)else 0
def PR (c a b:Int):Int:=if c=2∧a=b then a else 0
def X.ty (ks:bV):Bool->X->Int
 |b,lf t=>if b=false∧11<=t.1 then 0 else Jk ks t
 |b,un t x=>Nr t.1 (x.ty ks (b||agg t.1))
 |b,bi t x y=>MV t.1 (x.ty ks b) (y.ty ks b)
 |b,tr t x y z=>PR (x.ty ks b) (y.ty ks b) (z.ty ks b)
theorem Oe {o:Int} (h:AD o=some 0):1<=o∧o<=17:=by
 unfold AD at h
 split at h
 ·cases h
 ·split at h
  ·omega
  ·split at h
   ·cases h
   ·split at h<;>cases h
theorem R_ {o:Int} (h:AD o=some 1):18<=o∧o<=29:=by
 unfold AD at h
 split at h
 ·cases h
 ·split at h
  ·cases h
  ·split at h
   ·omega
   ·split at h<;>cases h
theorem Sa {o:Int} (h:AD o=some 2):30<=o∧o<=42:=by
 unfold AD at h
 split at h
 ·cases h
 ·split at h
  ·cases h
  ·split at h
   ·cases h
   ·split at h
    ·omega
    ·cases h
theorem UL {o:Int} (h:AD o=some 3):o=43:=by
 unfold AD at h
 split at h
 ·cases h
 ·split at h
  ·cases h
  ·split at h
   ·cases h
   ·split at h
    ·cases h
    ·omega
theorem VM (F:Nat) {o:Int} (h:AD o=some 1) (a:Int):iU F o (a,0,0)=some (Nr o a):=by
 have:=R_ h
 have:o=18∨o=19∨o=20∨o=21∨o=22∨o=23∨o=24∨o=25∨o=26∨o=27∨o=28∨o=29:=by omega
 rcases this with rfl|rfl|rfl|rfl|rfl|rfl|rfl|rfl|rfl|rfl|rfl|rfl<;>simp[iU,eT,jI,cT,Nr]<;>split<;>rfl
theorem VN (F:Nat) {o:Int} (h:AD o=some 2) (a b:Int):iU F o (a,b,0)=some (MV o a b):=by
 have:=Sa h
 have:o=30∨o=31∨o=32∨o=33∨o=34∨o=35∨o=36∨o=37∨o=38∨o=39∨o=40∨o=41∨o=42:=by omega
 rcases this with rfl|rfl|rfl|rfl|rfl|rfl|rfl|rfl|rfl|rfl|rfl|rfl|rfl<;>simp[iU,eT,jI,h_,nX,nY,nZ,jJ,n_,oA,mS,cT,MV]<;>repeat' split<;>simp_all
theorem VO (F:Nat) (a b c:Int):iU F 43 (a,b,c)=some (PR a b c):=by
 simp[iU,eT,jI,h_,nY,jJ,oA,mT,cT,PR]
 repeat' split
 all_goals simp_all
theorem Vs (F:Nat) {o:Int} (h:AD o=some 1) (a:Int):pO F o a=some (Nr o a):=by
 have:=R_ h
 have:o=18∨o=19∨o=20∨o=21∨o=22∨o=23∨o=24∨o=25∨o=26∨o=27∨o=28∨o=29:=by omega
 rcases this with rfl|rfl|rfl|rfl|rfl|rfl|rfl|rfl|rfl|rfl|rfl|rfl<;>simp[pO,kX,nS,Nr]<;>split<;>rfl
theorem W_ (F:Nat) {o:Int} (h:AD o=some 2) (a b:Int):uB F o a b=some (MV o a b):=by
 have:=Sa h
 have:o=30∨o=31∨o=32∨o=33∨o=34∨o=35∨o=36∨o=37∨o=38∨o=39∨o=40∨o=41∨o=42:=by omega
 rcases this with rfl|rfl|rfl|rfl|rfl|rfl|rfl|rfl|rfl|rfl|rfl|rfl|rfl<;>simp[uB,sW,sX,sY,sZ,s_,tA,MV]<;>repeat' split<;>simp_all
theorem tS {vars:Int} {t:TM} (h:yQ vars t=true) (h5:t.1=5∨t.1=12):0<=t.2∧t.2<vars:=by
 unfold yQ at h
 rw[if_neg (by omega),if_pos h5]at h
 simpa using h
theorem VE (F:Nat) {T:List TM} {ks:bV} {t:TM} (h:AD t.1=some 0) (hA:yQ ks.length t=true):kY F (T,ks) t=some (Jk ks t):=by
 have:=Oe h
 obtain⟨o,a⟩:=t
 simp only at this h
 have hix:=fun h5=>tS hA h5
 simp only at hix
 have:o=1∨o=2∨o=3∨o=4∨o=5∨o=6∨o=7∨o=8∨o=9∨o=10∨o=11∨o=12∨o=13∨o=14∨o=15∨o=16∨o=17:=by omega
 rcases this with rfl|rfl|rfl|rfl|rfl|rfl|rfl|rfl|rfl|rfl|rfl|rfl|rfl|rfl|rfl|rfl|rfl<;>simp[kY,fR,iB,kN,Jk]<;>exact eF (hix (by decide)) _
theorem Sj (F:Nat) {ks:bV} {t:TM} (h:AD t.1=some 0) (hA:yQ ks.length t=true) (b:Bool):uD F t ks b=some (if b=false∧11<=t.1 then 0 else Jk ks t):=by
 have:=Oe h
 obtain⟨o,a⟩:=t
 simp only at this h
 have hix:=fun h5=>tS hA h5
 simp only at hix
 have:o=1∨o=2∨o=3∨o=4∨o=5∨o=6∨o=7∨o=8∨o=9∨o=10∨o=11∨o=12∨o=13∨o=14∨o=15∨o=16∨o=17:=by omega
 cases b<;>rcases this with rfl|rfl|rfl|rfl|rfl|rfl|rfl|rfl|rfl|rfl|rfl|rfl|rfl|rfl|rfl|rfl|rfl<;>simp[uD,sD,oF,sE,wR,Jk]<;>exact eF (hix (by decide)) _
theorem VG (F:Nat) {o:Int} (h:AD o=some 0):yV F o=some (decide (11<=o)):=by
 have:=Oe h
 unfold yV uV
 by_cases h1:11<=o
 ·rw[if_pos h1];simp[h1];omega
 ·rw[if_neg h1];simp[h1]
section
variable {f:Nat} {q:List TM×List Int} {p n n' r a b d t:Int} {c:Bool} {rc:(List TM×List Int)->Int->Bool->Option (Int×Int)} {ag:(Int×Int×Int×Int×Int)->Option (Int×Int)}
theorem Uc (h:rc q n c=some (t,n')) (hr:0<r):bN f q p rc c r (n,0,a,b,d) ag=ag (n',1,t,b,d):=by
 unfold bN eG
 dsimp only
 rw[if_pos hr,bF h,eF (by decide),if_pos rfl,wr (by decide) (by decide)];rfl
theorem Vu (h:rc q n c=some (t,n')) (hr:1<r):bN f q p rc c r (n,1,a,b,d) ag=ag (n',2,a,t,d):=by
 unfold bN eG
 dsimp only
 rw[if_pos hr,bF h,eF (by decide),if_neg (by decide),if_pos rfl,wr (by decide) (by decide)];rfl
theorem Xe (h:rc q n c=some (t,n')) (hr:2<r):bN f q p rc c r (n,2,a,b,d) ag=ag (n',3,a,b,t):=by
 unfold bN eG
 dsimp only
 rw[if_pos hr,bF h,eF (by decide),if_neg (by decide),if_neg (by decide),wr (by decide) (by decide)];rfl
theorem Ud {j:Int} (hr:¬j<r):bN f q p rc c r (n,j,a,b,d) ag=fS f q p (n,a,b,d):=by
 unfold bN
 dsimp only
 rw[if_neg hr]
end
theorem FS (ks:List Int) {T:List TM} (hl:T.length<=900):∀(x:X),x.ok->(∀t∈x.ts,yQ ks.length t=true)->∀(pre post:List TM) (b:Bool) (fuel:Nat),T=pre++(x.ts++post)->x.depth+5<=fuel->
  cK fuel (T,ks) ((pre.length:Nat):Int) b=some (x.ty ks b,((pre.length+x.ts.length:Nat):Int))
 | .lf t, hx, hA, pre, post, b, fuel, hT, hf => by
  obtain⟨f,rfl⟩:∃f,fuel=f+1:=⟨fuel - 1,by omega⟩
  have hlt:pre.length<T.length:=by rw[hT];simp[X.ts]
  have hat:at' T ((pre.length:Nat):Int)=t:=by rw[hT];exact fD pre post t _ rfl
  have ht:=VE f (T:=T) (ks:=ks) hx (hA t (by simp[X.ts]))
  show dJ (cK f) f (T,ks) _ b=_
  unfold dJ kO
  dsimp only
  have w:wI .i64 (((pre.length:Nat):Int)+1)=((pre.length+1:Nat):Int):=by rw[wr (by omega) (by omega)];omega
  rw[eF (by omega),hat,bF (Iu f t.1),gX hx,if_pos (by omega),bF (VG f hx),w]
  simp only[X.ty,X.ts,List.length_cons,List.length_nil]
  by_cases h11:11<=t.1
  ·rw[if_pos (by simpa using h11)]
   cases b with
   |false=>rw[if_pos (by decide),if_pos ⟨rfl,h11⟩]
   |true=>rw[if_neg (by decide),bF ht,if_neg (by simp)]
  ·rw[if_neg (by simpa using h11),if_neg (by decide),bF ht,if_neg (by omega)]
 | .un t x, hx, hA, pre, post, b, fuel, hT, hf => by
  simp only[X.depth]at hf
  obtain⟨f,rfl⟩:∃f,fuel=f+1:=⟨fuel - 1,by omega⟩
  have hlen:=congrArg List.length hT
  simp only[X.ts,List.length_append,List.length_cons]at hlen
  have hat:at' T ((pre.length:Nat):Int)=t:=by rw[hT];exact fD pre (x.ts++post) t _ rfl
  have ih:=fun b=>FS ks hl x hx.2 (fun t ht=>hA t (by simp[X.ts,ht])) (pre++[t]) post b f (by rw[hT];simp[X.ts]) (by omega)
  show dJ (cK f) f (T,ks) _ b=_
  generalize hrc:cK f=rc at ih ⊢
  unfold dJ
  dsimp only
  rw[eF (by omega),hat,bF (Iu f t.1),gX hx.1,if_neg (by omega)]
  have key:∀c:Bool,dP f (T,ks) ((pre.length:Nat):Int) rc c=some (Nr t.1 (x.ty ks c),((pre.length+(x.ts.length+1):Nat):Int)):=by
   intro c
   unfold dP
   dsimp only
   rw[hat,bF (Iu f t.1),gX hx.1,wr (by omega) (by omega)]
   obtain⟨f,rfl⟩:∃q,f=q+1+1:=⟨f - 2,by omega⟩
   have i1:=ih c
   rw[show(((pre++[t]).length:Nat):Int)=((pre.length:Nat):Int)+1 by simp]at i1
   show bN _ _ _ _ _ _ _ (bH _ _)=_
   rw[Uc i1 (by decide)]
   show bN _ _ _ _ _ _ _ _=_
   rw[Ud (by decide)]
   unfold fS
   dsimp only
   rw[hat,bF (VM _ hx.1 _)]
   congr 2;simp;omega
  cases b with
  |true=>rw[if_pos rfl,key];simp[X.ty,X.ts]
  |false=>rw[if_neg (by decide),bF (RB f t.1),key];simp[X.ty,X.ts]
 | .bi t x y, hx, hA, pre, post, b, fuel, hT, hf => by
  simp only[X.depth]at hf
  obtain⟨f,rfl⟩:∃f,fuel=f+1:=⟨fuel - 1,by omega⟩
  have hlen:=congrArg List.length hT
  simp only[X.ts,List.length_append,List.length_cons]at hlen
  have hat:at' T ((pre.length:Nat):Int)=t:=by rw[hT];exact fD pre (x.ts++y.ts++post) t _ rfl
  have i1:=FS ks hl x hx.2.1 (fun t ht=>hA t (by simp[X.ts,ht])) (pre++[t]) (y.ts++post) b f (by rw[hT];simp[X.ts]) (by omega)
  have i2:=FS ks hl y hx.2.2 (fun t ht=>hA t (by simp[X.ts,ht])) (pre++t::x.ts) post b f (by rw[hT];simp[X.ts]) (by omega)
  show dJ (cK f) f (T,ks) _ b=_
  generalize hrc:cK f=rc at i1 i2 ⊢
  unfold dJ
  dsimp only
  rw[eF (by omega),hat,bF (Iu f t.1),gX hx.1,if_neg (by omega)]
  have key:dP f (T,ks) ((pre.length:Nat):Int) rc b=some (MV t.1 (x.ty ks b) (y.ty ks b),((pre.length+(x.ts.length+y.ts.length+1):Nat):Int)):=by
   unfold dP
   dsimp only
   rw[hat,bF (Iu f t.1),gX hx.1,wr (by omega) (by omega)]
   obtain⟨f,rfl⟩:∃q,f=q+1+1+1:=⟨f - 3,by omega⟩
   rw[show(((pre++[t]).length:Nat):Int)=((pre.length:Nat):Int)+1 by simp]at i1
   rw[show(((pre++t::x.ts).length:Nat):Int)=(((pre++[t]).length+x.ts.length:Nat):Int) by simp;omega]at i2
   show bN _ _ _ _ _ _ _ (bH _ _)=_
   rw[Uc i1 (by decide)]
   show bN _ _ _ _ _ _ _ (bH _ _)=_
   rw[Vu i2 (by decide)]
   show bN _ _ _ _ _ _ _ _=_
   rw[Ud (by decide)]
   unfold fS
   dsimp only
   rw[hat,bF (VN _ hx.1 _ _)]
   congr 2;simp;omega
  have hb:=yU hx.1 (by decide)
  cases b with
  |true=>rw[if_pos rfl,key];simp[X.ty,X.ts]
  |false=>rw[if_neg (by decide),bF (RB f t.1),hb,key];simp[X.ty,X.ts]
 | .tr t x y z, hx, hA, pre, post, b, fuel, hT, hf => by
  simp only[X.depth]at hf
  obtain⟨f,rfl⟩:∃f,fuel=f+1:=⟨fuel - 1,by omega⟩
  have hlen:=congrArg List.length hT
  simp only[X.ts,List.length_append,List.length_cons]at hlen
  have hat:at' T ((pre.length:Nat):Int)=t:=by rw[hT];exact fD pre (x.ts++(y.ts++z.ts)++post) t _ rfl
  have i1:=FS ks hl x hx.2.1 (fun t ht=>hA t (by simp[X.ts,ht])) (pre++[t]) (y.ts++z.ts++post) b f (by rw[hT];simp[X.ts]) (by omega)
  have i2:=FS ks hl y hx.2.2.1 (fun t ht=>hA t (by simp[X.ts,ht])) (pre++t::x.ts) (z.ts++post) b f (by rw[hT];simp[X.ts]) (by omega)
  have i3:=FS ks hl z hx.2.2.2 (fun t ht=>hA t (by simp[X.ts,ht])) (pre++t::(x.ts++y.ts)) post b f (by rw[hT];simp[X.ts]) (by omega)
  show dJ (cK f) f (T,ks) _ b=_
  generalize hrc:cK f=rc at i1 i2 i3 ⊢
  unfold dJ
  dsimp only
  rw[eF (by omega),hat,bF (Iu f t.1),gX hx.1,if_neg (by omega)]
  have key:dP f (T,ks) ((pre.length:Nat):Int) rc b=some (PR (x.ty ks b) (y.ty ks b) (z.ty ks b),((pre.length+(x.ts.length+(y.ts.length+z.ts.length)+1):Nat):Int)):=by
   unfold dP
   dsimp only
   rw[hat,bF (Iu f t.1),gX hx.1,wr (by omega) (by omega)]
   obtain⟨f,rfl⟩:∃q,f=q+1+1+1+1:=⟨f - 4,by omega⟩
   rw[show(((pre++[t]).length:Nat):Int)=((pre.length:Nat):Int)+1 by simp]at i1
   rw[show(((pre++t::x.ts).length:Nat):Int)=(((pre++[t]).length+x.ts.length:Nat):Int) by simp;omega]at i2
   rw[show(((pre++t::(x.ts++y.ts)).length:Nat):Int)=(((pre++t::x.ts).length+y.ts.length:Nat):Int) by simp;omega]at i3
   show bN _ _ _ _ _ _ _ (bH _ _)=_
   rw[Uc i1 (by decide)]
   show bN _ _ _ _ _ _ _ (bH _ _)=_
   rw[Vu i2 (by decide)]
   show bN _ _ _ _ _ _ _ (bH _ _)=_
   rw[Xe i3 (by decide)]
   show bN _ _ _ _ _ _ _ _=_
   rw[Ud (by decide)]
   unfold fS
   dsimp only
   rw[hat,UL hx.1,bF (VO _ _ _ _)]
   congr 2;simp;omega
  have hb:=yU hx.1 (by decide)
  cases b with
  |true=>rw[if_pos rfl,key];simp[X.ty,X.ts]
  |false=>rw[if_neg (by decide),bF (RB f t.1),hb,key];simp[X.ty,X.ts]
end Go.Proofs.YthnplbmmlbnelaaGreat
end
section
namespace Go.Proofs.YthnplbmmlbnelaaGreat
open Go.Sx
section
def qF  (a6:Unit):Option (Bool):=
 some (true)
def mU (U:Nat) (p0:oM) (p1:bV) (a10:Int) (ag9:(Int)->Option (Bool)):Option (Bool):=
 if a10<(List.length p0.2.2:Int)then(ck (0<=a10∧a10<(List.length p0.2.2:Int)) (Option.bind (vQ U ((at' p0.2.2 a10).2) p1 false) fun r18=>(ck (0<=((at' p0.2.2 a10).1)∧((at' p0.2.2 a10).1)<(List.length p1:Int)) (if r18.1≠(at' p1 ((at' p0.2.2 a10).1))then(some (false))else(ag9 (wI .i64 (a10+(1:Int))))))))else(qF  (()))
def wJ (U:Nat) (p0:oM) (p1:bV):Option (Bool):=
 Option.bind (vQ U p0.2.1 p1 false) fun r2=>(if r2.1≠(2:Int)then(some (false))else(bH (mU U p0 p1) U (0:Int)))
theorem Ti:bE Tryz.prog 77:=Tryz.call77
theorem GD (U:Nat) {p0:oM} {p1:bV} (v0:Value)  (v1:Value)  (v2:Value) (r:Bool) (h:wJ U p0 p1=some r):
  aZ Tryz.prog 77 #[Value.agg #[vS (p0.1),v0,v1],v2] [Sl aY v0 p0.2.1,Sl bA v1 p0.2.2,Sl lH v2 p1] (fun x:Unit=>vB (r)) (fun x l=>l) (fun _ l=>l):=by
 refine aZ.of Tryz.func77 rfl Tryz.ntmps77 rfl fun c=>?_
 refine aT<|aN (aR.box (cs:=[vS (p0.1),v0,v1]) rfl rfl) rfl fun b1=>aB rfl<|aL<|aI<|aT<|bQ rfl<|cM 0 rfl<|aA rfl<|eM h fun r2 w3 h=>aN (aR.callQ Lr (F_ U v0 v2 r2 w3) rfl (hI [0,2] rfl)) rfl fun x4=>aA rfl<|gI rfl<|gI rfl<|aB rfl<|aB rfl<|aL<|aT<|aA rfl<|rV rfl<|aL ?_
 refine fG h rfl (fun h=>?_) fun h=>?_
 ·refine aT<|aB rfl<|aL<|aS<|aG ?_
  cases h
  exact vF rfl
 refine bJ<|aI<|cF (fun a6=>qF  a6=some r) (fun a6 b7=>[]) (fun a6 b7=>[]) ?_ ?_
 ·refine aT<|bQ rfl<|cM 0 rfl<|cY (eZ rfl) rfl<|aA rfl<|aL<|aP<|eH (mU U p0 p1) (fun a10 b11=>[(1,v2),(21,v1),(22,vI (List.length p0.2.2:Int)),(23,vI (a10))]) (fun a10 b11=>[]) (0:Int) () h SF .nil ?_
  intro k12 a10 b11 h
  refine aT<|cZ rfl<|aL<|aI ?_
  refine fG h rfl (fun h=>?_) fun h=>?_
  ·refine bJ<|aI<|aP<|aT<|eO h fun j14 h=>aD (aU rfl rfl (eZ rfl) rfl rfl j14) rfl<|oJ (v:=v1) (ds:=p0.2.2) cL (eZ rfl) fun us15=>?_
   refine c_ (bZ ((bY (f:=cG) (eZ rfl) j14.1 (by first|exact j14.2|simpa using j14.2)):aM _ _ (Sl aY (at' us15 a10) ((at' p0.2.2 a10).2)))) ?_
   refine aD (eP (cs:=[vI ((at' p0.2.2 a10).1),at' us15 a10]) rfl (eZ rfl) rfl rfl rfl rfl ⟨j14.1,by first|exact j14.2|simpa using j14.2⟩) rfl<|aN (aR.alloc (cs:=[vI (0:Int),oI]) rfl rfl) rfl fun b16=>dG (Know.one ((dB rfl))) fun ho17=>cC 0 (vs:=[vI ((at' p0.2.2 a10).1),at' us15 a10]) rfl rfl (fE rfl (fE ho17 rfl)) rfl rfl rfl<|aL<|aT<|bQ rfl<|cM 0 rfl<|aA rfl<|eM h fun r18 w19 h=>aN (aR.callQ Lr (F_ U (at' us15 a10) v2 r18 w19) rfl (hI [0,5] rfl)) rfl fun x20=>aA rfl<|gI rfl<|gI rfl<|aB rfl<|aB rfl<|aL<|aT<|aA rfl<|aA rfl<|bQ rfl<|cM 0 rfl<|eO h fun j21 h=>aD (aU rfl rfl (dA 5 rfl) rfl rfl j21) rfl<|aD (fN rfl (dA 5 rfl) rfl rfl rfl jP j21) rfl<|rV rfl<|aL ?_
   refine fG h rfl (fun h=>?_) fun h=>?_
   ·refine aT<|aB rfl<|aL<|aS<|bP<|aG<|aG<|bP<|aG ?_
    cases h
    exact vF rfl
   refine cS<|kB<|aH<|cU rfl<|aA rfl<|aL ?_
   exact eK (wI .i64 (a10+(1:Int))) () h SF .nil (hI [3,4,5] rfl)
  refine dY ?_
  exact b_ () (()) h SF rfl
 intro a6 b7 h
 unfold qF at h
 refine aT<|aB rfl<|aL<|aS ?_
 cases h
 exact gU rfl
end
section
def pW  (a6:Unit):Option (Bool):=
 some (true)
def mJ (U:Nat) (p0:oM) (p1:bV) (a10:Int) (ag9:(Int)->Option (Bool)):Option (Bool):=
 if a10<(List.length p0.2.2:Int)then(ck (0<=a10∧a10<(List.length p0.2.2:Int)) (Option.bind (eS U ((at' p0.2.2 a10).2) (0:Int) p1 false) fun r16=>(ck (0<=a10∧a10<(List.length p0.2.2:Int)) (ck (0<=((at' p0.2.2 a10).1)∧((at' p0.2.2 a10).1)<(List.length p1:Int)) (if r16≠(at' p1 ((at' p0.2.2 a10).1))then(some (false))else(ag9 (wI .i64 (a10+(1:Int)))))))))else(pW  (()))
def wE (U:Nat) (p0:oM) (p1:bV):Option (Bool):=
 Option.bind (eS U p0.2.1 (0:Int) p1 false) fun r2=>(if r2≠(2:Int)then(some (false))else(bH (mJ U p0 p1) U (0:Int)))
theorem Tm:bE Tryz.prog 82:=Tryz.call82
theorem Gy (U:Nat) {p0:oM} {p1:bV} (v0:Value)  (v1:Value)  (v2:Value) (r:Bool) (h:wE U p0 p1=some r):
  aZ Tryz.prog 82 #[Value.agg #[vS (p0.1),v0,v1],v2] [Sl aY v0 p0.2.1,Sl bA v1 p0.2.2,Sl lH v2 p1] (fun x:Unit=>vB (r)) (fun x l=>l) (fun _ l=>l):=by
 refine aZ.of Tryz.func82 rfl Tryz.ntmps82 rfl fun c=>?_
 refine aT<|aN (aR.box (cs:=[vS (p0.1),v0,v1]) rfl rfl) rfl fun b1=>aB rfl<|aL<|aI<|aT<|bQ rfl<|cM 0 rfl<|aA rfl<|eM h fun r2 w3 h=>aN (aR.callQ xP (Dh U v0 v2 r2 w3) rfl (hI [0,2] rfl)) rfl fun x4=>rV rfl<|aL ?_
 refine fG h rfl (fun h=>?_) fun h=>?_
 ·refine aT<|aB rfl<|aL<|aS<|aG ?_
  cases h
  exact vF rfl
 refine bJ<|aI<|cF (fun a6=>pW  a6=some r) (fun a6 b7=>[]) (fun a6 b7=>[]) ?_ ?_
 ·refine aT<|aB rfl<|aL<|aP<|eH (mJ U p0 p1) (fun a10 b11=>[(1,v2),(2,vP b1),(5,vI (a10))]) (fun a10 b11=>[dD b1 [vS (p0.1),v0,v1] 42]) (0:Int) () h SF (bK.refl _) ?_
  intro k12 a10 b11 h
  refine aI<|aT<|aA rfl<|bQ rfl<|cM 0 rfl<|cY (eZ rfl) rfl<|cZ rfl<|aL ?_
  refine fG h rfl (fun h=>?_) fun h=>?_
  ·refine bJ<|aI<|aP<|aI ?_
   refine Gi [0,1,0,7,15,31,0,127,0,0,512,0,3584,7680,15872,32512,65280,131071] 17 mixedOrders ?_
   refine lV rfl<|tO 0 rfl<|cR rfl<|eO h fun j14 h=>cN rfl .nil (lN 1 rfl) (aU rfl rfl (dB rfl) rfl rfl j14) bD.z<|rH rfl (cB rfl rfl rfl rfl rfl)<|tQ (v:=v1) (ds:=p0.2.2) cL (eZ rfl) fun us15=>?_
   refine JR.stp (bZ ((bY (f:=cG) (eZ rfl) j14.1 (by first|exact j14.2|simpa using j14.2)):aM _ _ (Sl aY (at' us15 a10) ((at' p0.2.2 a10).2)))) ?_
   refine cN rfl .nil (lN 1 rfl) (tR (gv:=fun x=>x) rfl (dB rfl) rfl rfl rfl jE ⟨j14.1,by first|exact j14.2|simpa using j14.2⟩) bD.z<|cR rfl<|eM h fun r16 w17 h=>JR.loud rfl rfl rfl (aR.callQ xP (Dh U (at' us15 a10) v2 r16 w17) rfl (hI [0,5] rfl)) rfl (fun x18=>(CJ [] rfl)) fun x18=>rH rfl (fY rfl)<|rH rfl (bW rfl rfl rfl rfl rfl)<|cN rfl (bK.cons 0 rfl .nil) .nil (cI 0 rfl rfl rfl rfl rfl) (bD.h (bK.ix [0] rfl rfl) .nil bD.z)<|rH rfl (fY rfl)<|eO h fun j19 h=>cN rfl .nil (lN 4 rfl) (aU rfl rfl (dB rfl) rfl rfl j19) (bD.h .nil (lN 4 rfl) bD.z)<|rH rfl (cB rfl rfl rfl rfl rfl)<|cN rfl .nil (lN 4 rfl) (eQ rfl (dB rfl) rfl rfl rfl hJ j19) (bD.h .nil (lN 4 rfl) bD.z)<|eO h fun j20 h=>cN rfl .nil (lN 5 rfl) (aU rfl rfl (dB rfl) rfl rfl j20) (bD.h .nil (lN 5 rfl) bD.z)<|cN rfl .nil (lN 5 rfl) (fN rfl (dB rfl) rfl rfl rfl jP j20) (bD.h .nil (lN 5 rfl) bD.z)<|dM 17 rfl rfl<|rV rfl<|aL ?_
   refine fG h rfl (fun h=>?_) fun h=>?_
   ·refine aT<|aB rfl<|aL<|aS<|bP<|aG<|aG<|bP<|aG ?_
    cases h
    exact vF rfl
   refine cS<|kB<|aH<|aA rfl<|cU rfl<|aB rfl<|aL ?_
   exact eK (wI .i64 (a10+(1:Int))) () h SF (bK.refl _) (hI [3,4,5] rfl)
  refine dY ?_
  exact bS () (()) h SF .nil (aO.refl _ _)
 intro a6 b7 h
 unfold pW at h
 refine aT<|aB rfl<|aL<|aS ?_
 cases h
 exact gU rfl
end
section
def mG  (a2:Bool):Option (Bool):=
 some (a2)
def wC (U:Nat) (p0:Int):Option (Bool):=
 if p0=(1:Int)then(mG  (true))else(if p0=(2:Int)then(mG  (true))else(mG  (decide (p0=(3:Int)))))
theorem Qv:bE Tryz.prog 111:=Tryz.call111
theorem Gv (U:Nat) {p0:Int} (r:Bool) (h:wC U p0=some r):
  aZ Tryz.prog 111 #[vI (p0)] [] (fun x:Unit=>vB (r)) (fun x l=>l) (fun _ l=>l):=by
 refine aZ.of Tryz.func111 rfl Tryz.ntmps111 rfl fun c=>?_
 refine aT<|aB rfl<|aL<|aI<|cF (fun a2=>mG  a2=some r) (fun a2 b3=>[(2,vB (a2))]) (fun a2 b3=>[]) ?_ ?_
 ·refine aH<|aA rfl<|cH rfl<|aA rfl ?_
  refine mW h rfl (fun _ h=>?_) fun _ h=>?_
  ·refine aC rfl<|aC rfl<|bO rfl<|aA rfl<|aC rfl<|aC rfl<|bO rfl<|aB rfl<|aL ?_
   exact b_ (true) () h SF rfl
  refine bM rfl<|aF rfl (kP rfl rfl) rfl<|bR rfl<|aA rfl ?_
  refine mW h rfl (fun _ h=>?_) fun _ h=>?_
  ·refine aC rfl<|aC rfl<|bO rfl<|aB rfl<|aL ?_
   exact b_ (true) () h SF rfl
  refine bM rfl<|aF rfl (kP rfl rfl) rfl<|bR rfl<|aB rfl<|aL ?_
  exact b_ (decide (p0=(3:Int))) () h SF rfl
 intro a2 b3 h
 unfold mG at h
 refine aS ?_
 cases h
 exact gU rfl
end
end Go.Proofs.YthnplbmmlbnelaaGreat
end
section
namespace Go.Proofs.YthnplbmmlbnelaaGreat
open Go Go.Sx
theorem T_ (F:Nat) {T pre post:List TM} {t:TM} {w:X} {a k:Nat} (hw:w.ok) (hT:T=pre++(w.ts++post)) (hat:at' T ((pre.length:Nat):Int)=t) (hl:T.length<=400) (hF:450<=F) (ha:AD t.1=some a) (hk:k<a) {e1 e2:Nat} (h1:1<=k->AK T (pre.length+1)=(e1:Int)) (h2:2<=k->AK T e1=(e2:Int)) (he1:e1<=900) (he2:e2<=900):
  kU F T ((pre.length:Nat):Int) (k:Int)=some (if k=0 then((pre.length+1:Nat):Int)else if k=1 then(e1:Int)else(e2:Int)):=by
 have hk3:=Dw ha
 have hp:=w.pos
 have hlen:=congrArg List.length hT
 simp only[List.length_append]at hlen
 unfold kU mB
 rw[bF (TW F T pre.length (by omega) (by omega)),CM hw hT rfl,if_neg (by omega),if_neg (by omega),eF (by omega),hat,bF (KU F t.1),gX ha,if_neg (by simp;omega),wr (by omega) (by omega)]
 obtain⟨F,rfl⟩:∃q,F=q+1+1+1:=⟨F - 3,by omega⟩
 have e0:((pre.length:Nat):Int)+1=((pre.length+1:Nat):Int):=by omega
 rw[e0]
 have st:∀(p:Nat) (j:Int) (ag:fZ->Option Int) (q:Int),AK T p=q->j<(k:Int)->0<=j->fM (F+1+1+1) T (k:Int) (((p:Nat):Int),j) ag=ag (q,j+1):=by
  intro p j ag q hq hj h0
  unfold fM
  dsimp only
  rw[if_pos hj,bF (TW _ T p (by omega) (by omega)),hq,wr (by omega) (by omega)]
 have en:∀(p j:Int) (ag:fZ->Option Int),¬j<(k:Int)->fM (F+1+1+1) T (k:Int) (p,j) ag=some p:=by
  intro p j ag hj
  unfold fM qV
  dsimp only
  rw[if_neg hj]
 show fM _ T _ _ (bH _ (F+1+1))=_
 by_cases k0:k=0
 ·subst k0;rw[en _ _ _ (by decide),if_pos rfl]
 ·rw[if_neg k0,st _ _ _ _ (h1 (by omega)) (by omega) (by omega)]
  show fM _ T _ _ (bH _ (F+1))=_
  by_cases k1:k=1
  ·subst k1;rw[en _ _ _ (by decide),if_pos rfl]
  ·rw[if_neg k1,st _ _ _ _ (h2 (by omega)) (by omega) (by omega)]
   have k2:k=2:=by omega
   subst k2
   show fM _ T _ _ _=_
   rw[en _ _ _ (by decide)]
theorem FL (ks:bV) {T:List TM} (hl:T.length<=400):∀(x:X),x.ok->(∀t∈x.ts,yQ ks.length t=true)->∀(pre post:List TM) (b:Bool) (fuel:Nat),T=pre++(x.ts++post)->x.depth+500<=fuel->
  eS fuel T ((pre.length:Nat):Int) ks b=some (x.ty ks b)
 | .lf t,hx,hA,pre,post,b,fuel,hT,hf=>by
  obtain⟨f,rfl⟩:∃f,fuel=f+1:=⟨fuel - 1,by omega⟩
  have hlt:pre.length<T.length:=by rw[hT];simp[X.ts]
  have hat:at' T ((pre.length:Nat):Int)=t:=by rw[hT];exact fD pre post t _ rfl
  show iP (eS f) f T _ ks b=_
  unfold iP
  rw[eF (by omega),hat,bF (KU f t.1),gX hx,if_pos (by decide),eF (by omega),bF (Sj f (t:=t) hx (hA t (by simp[X.ts])) b)]
  rfl
 | .un t x,hx,hA,pre,post,b,fuel,hT,hf=>by
  simp only[X.depth]at hf
  obtain⟨f,rfl⟩:∃f,fuel=f+1:=⟨fuel - 1,by omega⟩
  have hlen:=congrArg List.length hT
  simp only[X.ts,List.length_append,List.length_cons]at hlen
  have hat:at' T ((pre.length:Nat):Int)=t:=by rw[hT];exact fD pre (x.ts++post) t _ rfl
  have ih:=fun b=>FL ks hl x hx.2 (fun t ht=>hA t (by simp[X.ts,ht])) (pre++[t]) post b f (by rw[hT];simp[X.ts]) (by omega)
  have e1:wI .i64 (((pre.length:Nat):Int)+1)=(((pre++[t]).length:Nat):Int):=by rw[wr (by omega) (by omega)];simp
  show iP (eS f) f T _ ks b=_
  generalize eS f=rc at ih ⊢
  unfold iP sC
  rw[eF (by omega),hat,bF (KU f t.1),gX hx.1,if_neg (by decide),if_pos (by decide),e1]
  cases b with
  |true=>rw[if_pos rfl,bF (ih true),bF (Vs f hx.1 _)];simp[X.ty]
  |false=>rw[if_neg (by decide),bF (Vk f t.1),bF (ih _),bF (Vs f hx.1 _)];simp[X.ty]
 | .bi t x y, hx, hA, pre, post, b, fuel, hT, hf => by
  simp only[X.depth]at hf
  obtain⟨f,rfl⟩:∃f,fuel=f+1:=⟨fuel - 1,by omega⟩
  have hlen:=congrArg List.length hT
  simp only[X.ts,List.length_append,List.length_cons]at hlen
  have hat:at' T ((pre.length:Nat):Int)=t:=by rw[hT];exact fD pre (x.ts++y.ts++post) t _ rfl
  have i1:=FL ks hl x hx.2.1 (fun t ht=>hA t (by simp[X.ts,ht])) (pre++[t]) (y.ts++post) b f (by rw[hT];simp[X.ts]) (by omega)
  have i2:=FL ks hl y hx.2.2 (fun t ht=>hA t (by simp[X.ts,ht])) (pre++t::x.ts) post b f (by rw[hT];simp[X.ts]) (by omega)
  have e1:wI .i64 (((pre.length:Nat):Int)+1)=(((pre++[t]).length:Nat):Int):=by rw[wr (by omega) (by omega)];simp
  have s1:AK T (pre.length+1)=(((pre++t::x.ts).length:Nat):Int):=by
   rw[CM (x:=x) (pre:=pre++[t]) (post:=y.ts++post) hx.2.1 (by rw[hT];simp[X.ts]) (by simp)];simp;omega
  have o1:=T_ f (w:= .bi t x y) (k:=1) (e1:=(pre++t::x.ts).length) (e2:=0) hx hT hat hl (by omega) hx.1 (by decide) (fun _=>s1) (fun h=>by omega) (by simp;omega) (by omega)
  rw[if_neg (by decide),if_pos rfl]at o1
  show iP (eS f) f T _ ks b=_
  generalize eS f=rc at i1 i2 ⊢
  unfold iP
  rw[eF (by omega),hat,bF (KU f t.1),gX hx.1,if_neg (by decide),if_neg (by decide),if_pos (by decide),e1,bF i1,show(1:Int)=((1:Nat):Int)from rfl,bF o1,bF i2,bF (W_ f hx.1 _ _)]
  rfl
 | .tr t x y z, hx, hA, pre, post, b, fuel, hT, hf => by
  simp only[X.depth]at hf
  obtain⟨f,rfl⟩:∃f,fuel=f+1:=⟨fuel - 1,by omega⟩
  have hlen:=congrArg List.length hT
  simp only[X.ts,List.length_append,List.length_cons]at hlen
  have hat:at' T ((pre.length:Nat):Int)=t:=by rw[hT];exact fD pre (x.ts++(y.ts++z.ts)++post) t _ rfl
  have i1:=FL ks hl x hx.2.1 (fun t ht=>hA t (by simp[X.ts,ht])) (pre++[t]) (y.ts++z.ts++post) b f (by rw[hT];simp[X.ts]) (by omega)
  have i2:=FL ks hl y hx.2.2.1 (fun t ht=>hA t (by simp[X.ts,ht])) (pre++t::x.ts) (z.ts++post) b f (by rw[hT];simp[X.ts]) (by omega)
  have i3:=FL ks hl z hx.2.2.2 (fun t ht=>hA t (by simp[X.ts,ht])) (pre++t::(x.ts++y.ts)) post b f (by rw[hT];simp[X.ts]) (by omega)
  have e1:wI .i64 (((pre.length:Nat):Int)+1)=(((pre++[t]).length:Nat):Int):=by rw[wr (by omega) (by omega)];simp
  have s1:AK T (pre.length+1)=(((pre++t::x.ts).length:Nat):Int):=by
   rw[CM (x:=x) (pre:=pre++[t]) (post:=y.ts++z.ts++post) hx.2.1 (by rw[hT];simp[X.ts]) (by simp)];simp;omega
  have s2:AK T (pre++t::x.ts).length=(((pre++t::(x.ts++y.ts)).length:Nat):Int):=by
   rw[CM (x:=y) (pre:=pre++t::x.ts) (post:=z.ts++post) hx.2.2.1 (by rw[hT];simp[X.ts]) rfl];simp;omega
  have o1:=T_ f (w:= .tr t x y z) (k:=1) (e1:=(pre++t::x.ts).length) (e2:=0) hx hT hat hl (by omega) hx.1 (by decide) (fun _=>s1) (fun h=>by omega) (by simp;omega) (by omega)
  have o2:=T_ f (w:= .tr t x y z) (k:=2) (e1:=(pre++t::x.ts).length) (e2:=(pre++t::(x.ts++y.ts)).length) hx hT hat hl (by omega) hx.1 (by decide) (fun _=>s1) (fun _=>s2) (by simp;omega) (by simp;omega)
  rw[if_neg (by decide),if_pos rfl]at o1
  rw[if_neg (by decide),if_neg (by decide)]at o2
  show iP (eS f) f T _ ks b=_
  generalize eS f=rc at i1 i2 i3 ⊢
  unfold iP wQ
  rw[eF (by omega),hat,bF (KU f t.1),gX hx.1,if_neg (by decide),if_neg (by decide),if_neg (by decide),e1,bF i1,show(1:Int)=((1:Nat):Int)from rfl,bF o1,bF i2,show(2:Int)=((2:Nat):Int)from rfl,bF o2,bF i3]
  simp only[X.ty,PR]
  by_cases h1:x.ty ks b=2
  ·rw[if_neg (by simpa using h1)]
   by_cases h2:y.ty ks b=z.ty ks b
   ·rw[if_neg (by simpa using h2),if_pos ⟨h1,h2⟩]
   ·rw[if_pos (by simpa using h2),if_neg (fun h=>h2 h.2)]
  ·rw[if_pos (by simpa using h1),if_pos trivial,if_neg (fun h=>h1 h.1)]
def KL (k:Int):Bool:=decide (k=1∨k=2∨k=3)
theorem VK (F:Nat) (k:Int):lZ F k=some (KL k):=by
 unfold lZ jC KL
 by_cases h1:k=1
 ·simp[h1]
 ·by_cases h2:k=2
  ·simp[h2]
  ·simp[h1,h2]
theorem TY (F:Nat) (k:Int):wC F k=some (KL k):=by
 unfold wC mG KL
 by_cases h1:k=1
 ·simp[h1]
 ·by_cases h2:k=2
  ·simp[h2]
  ·simp[h1,h2]
theorem RF (F:Nat) (e:List TM) (ks:bV) (b:Bool):∀(l pre:bV) (fuel:Nat),ks=pre++l->ks.length<=900->(∀k∈l,KL k=true)->l.length<fuel->bH (jT F e ks b) fuel ((pre.length:Nat):Int)=zC F e ks b ():=by
 intro l
 induction l with
 |nil=>
  intro pre fuel h hl hk hf
  obtain⟨f,rfl⟩:∃f,fuel=f+1:=⟨fuel - 1,by omega⟩
  show jT F e ks b _ _=_
  unfold jT
  rw[if_neg (by rw[h];simp)]
 |cons k l ih=>
  intro pre fuel h hl hk hf
  simp only[List.length_cons]at hf
  obtain⟨f,rfl⟩:∃f,fuel=f+1:=⟨fuel - 1,by omega⟩
  have hlt:pre.length<ks.length:=by rw[h];simp
  have ih':=ih (pre++[k]) f (by rw[h];simp) hl (fun k hk'=>hk k (by simp[hk'])) (by omega)
  show jT F e ks b _ (bH (jT F e ks b) f)=_
  generalize bH (jT F e ks b) f=ag at ih' ⊢
  unfold jT
  rw[if_pos (by omega),eF (by omega),show at' ks ((pre.length:Nat):Int)=k by rw[h];exact fD pre l k _ rfl,bF (VK F k),hk k (by simp),if_neg (by decide),wr (by omega) (by omega),show(((pre.length:Nat):Int)+1)=(((pre++[k]).length:Nat):Int) by simp,ih']
theorem tOf (F:Nat) {e:List TM} {x:X} {ks:bV} (h:XV ks.length e x) (hk:∀k∈ks,KL k=true) (h6:ks.length<=6) (b:Bool) (hF:1000<=F):vQ F e ks b=some (x.ty ks b,if x.ty ks b=0 then 6 else 0):=by
 have hx:=h
 obtain⟨h200,hok,hT,hd,hn,hA⟩:=hx
 unfold vQ
 have hrun:bH (jT F e ks b) F (0:Int)=_:=RF F e ks b ks [] F rfl (by omega) hk (by omega)
 rw[if_neg (by omega),hrun]
 unfold zC
 obtain⟨v,hv,_,hiff⟩:=Cu F e ks.length (by omega) hF
 have hv1:=hiff.2 ⟨x,h⟩
 subst hv1
 have hr:cK F (e,ks) (0:Int) b=some (x.ty ks b,_):=FS ks (T:=e) (by omega) x hok (by rw[<-hT];exact hA) [] [] b F (by simp[hT]) (by omega)
 rw[bF hv,if_neg (by decide),bF hr]
 dsimp only
 by_cases h0:x.ty ks b=0
 ·rw[if_pos h0,if_pos h0,h0]
 ·rw[if_neg h0,if_neg h0]
theorem rKd (F:Nat) {e:List TM} {x:X} {ks:bV} (h:XV ks.length e x) (b:Bool) (hF:1000<=F):eS F e 0 ks b=some (x.ty ks b):=by
 obtain⟨h200,hok,hT,hd,hn,hA⟩:=h
 exact FL ks (T:=e) (by omega) x hok (by rw[<-hT];exact hA) [] [] b F (by simp[hT]) (by omega)
end Go.Proofs.YthnplbmmlbnelaaGreat
end
section
namespace Go.Proofs.YthnplbmmlbnelaaGreat
open Go.Sx
section
def hP  (a2:Bool):Option (Bool):=
 some (a2)
def pL (U:Nat) (p0:Int):Option (Bool):=
 if(97:Int)<=p0 then(if p0<=(122:Int)then(hP  (true))else(if(65:Int)<=p0 then(hP  (decide (p0<=(90:Int))))else(hP  (false))))else(if(65:Int)<=p0 then(hP  (decide (p0<=(90:Int))))else(hP  (false)))
theorem Ls:bE Tryz.prog 116:=Tryz.call116
theorem Bj (U:Nat) {p0:Int} (r:Bool) (h:pL U p0=some r):
  aZ Tryz.prog 116 #[Value.int .u8 (p0)] [] (fun x:Unit=>vB (r)) (fun x l=>l) (fun _ l=>l):=by
 refine aZ.of Tryz.func116 rfl Tryz.ntmps116 rfl fun c=>?_
 refine aT<|aB rfl<|aL<|aI<|cF (fun a2=>hP  a2=some r) (fun a2 b3=>[(2,vB (a2))]) (fun a2 b3=>[]) ?_ ?_
 ·refine aH<|aA rfl<|aD (lL rfl rfl) rfl<|aA rfl ?_
  refine mW h rfl (fun _ h=>?_) fun _ h=>?_
  ·refine bM rfl<|aF rfl (oP rfl rfl) rfl<|bO rfl<|aA rfl ?_
   refine mW h rfl (fun _ h=>?_) fun _ h=>?_
   ·refine aC rfl<|aC rfl<|aC rfl<|BE (h:= ?_)
    refine BE (h:= ?_)
    refine aC rfl<|bO rfl<|aB rfl<|aL ?_
    exact b_ (true) () h SF rfl
   refine bM rfl<|aF rfl (lL rfl rfl) rfl<|bM rfl ?_
   refine mW h rfl (fun _ h=>?_) fun _ h=>?_
   ·refine bM rfl<|aF rfl (oP rfl rfl) rfl<|aF rfl (vT rfl rfl) rfl<|bR rfl<|aB rfl<|aL ?_
    exact b_ (decide (p0<=(90:Int))) () h SF rfl
   refine aC rfl<|aC rfl<|aF rfl (qI rfl rfl) rfl<|bR rfl<|aB rfl<|aL ?_
   exact b_ (false) () h SF rfl
  refine aC rfl<|aC rfl<|bR rfl<|aA rfl<|bM rfl<|aF rfl (lL rfl rfl) rfl<|bM rfl ?_
  refine mW h rfl (fun _ h=>?_) fun _ h=>?_
  ·refine bM rfl<|aF rfl (oP rfl rfl) rfl<|aF rfl (vT rfl rfl) rfl<|bR rfl<|aB rfl<|aL ?_
   exact b_ (decide (p0<=(90:Int))) () h SF rfl
  refine aC rfl<|aC rfl<|aF rfl (qI rfl rfl) rfl<|bR rfl<|aB rfl<|aL ?_
  exact b_ (false) () h SF rfl
 intro a2 b3 h
 unfold hP at h
 refine aS ?_
 cases h
 exact gU rfl
end
section
def pK  (a2:Bool):Option (Bool):=
 some (a2)
def vY (U:Nat) (p0:Int):Option (Bool):=
 if(48:Int)<=p0 then(pK  (decide (p0<=(57:Int))))else(pK  (false))
theorem Qz:bE Tryz.prog 118:=Tryz.call118
theorem Gp (U:Nat) {p0:Int} (r:Bool) (h:vY U p0=some r):
  aZ Tryz.prog 118 #[Value.int .u8 (p0)] [] (fun x:Unit=>vB (r)) (fun x l=>l) (fun _ l=>l):=by
 refine aZ.of Tryz.func118 rfl Tryz.ntmps118 rfl fun c=>?_
 refine aT<|aB rfl<|aL<|aI<|cF (fun a2=>pK  a2=some r) (fun a2 b3=>[(2,vB (a2))]) (fun a2 b3=>[]) ?_ ?_
 ·refine aH<|aA rfl<|aD (lL rfl rfl) rfl<|aA rfl ?_
  refine mW h rfl (fun _ h=>?_) fun _ h=>?_
  ·refine bM rfl<|aF rfl (oP rfl rfl) rfl<|bO rfl<|aB rfl<|aL ?_
   exact b_ (decide (p0<=(57:Int))) () h SF rfl
  refine aC rfl<|aC rfl<|bR rfl<|aB rfl<|aL ?_
  exact b_ (false) () h SF rfl
 intro a2 b3 h
 unfold pK at h
 refine aS ?_
 cases h
 exact gU rfl
end
section
def kT  (a2:Bool):Option (Bool):=
 some (a2)
def tZ (U:Nat) (p0:Int):Option (Bool):=
 Option.bind (pL U p0) fun r4=>(if r4=true then(kT  (true))else(Option.bind (vY U p0) fun r8=>(if r8=true then(kT  (true))else(kT  (decide (p0=(95:Int)))))))
theorem Qy:bE Tryz.prog 117:=Tryz.call117
theorem FU (U:Nat) {p0:Int} (r:Bool) (h:tZ U p0=some r):
  aZ Tryz.prog 117 #[Value.int .u8 (p0)] [] (fun x:Unit=>vB (r)) (fun x l=>l) (fun _ l=>l):=by
 refine aZ.of Tryz.func117 rfl Tryz.ntmps117 rfl fun c=>?_
 refine aT<|aB rfl<|aL<|aI<|cF (fun a2=>kT  a2=some r) (fun a2 b3=>[(2,vB (a2))]) (fun a2 b3=>[]) ?_ ?_
 ·refine aH<|aA rfl<|eM h fun r4 w5 h=>aN (aR.callQ Ls (Bj U  r4 w5) rfl .nil) rfl fun x6=>aA rfl ?_
  refine e_ (by exact rfl) (by exact rfl) (fun hp7=>?_) (fun hp7=>?_)
  ·have h:=Ak hp7 h
   refine aC rfl<|aC rfl<|bO rfl<|aA rfl<|aC rfl<|aC rfl<|bO rfl<|aB rfl<|aL ?_
   exact b_ (true) () h SF rfl
  have h:=rI hp7 h
  refine bM rfl<|eM h fun r8 w9 h=>fA rfl (aR.callQ Qz (Gp U  r8 w9) rfl .nil) rfl fun x10=>bR rfl<|aA rfl ?_
  refine e_ (by exact rfl) (by exact rfl) (fun hp11=>?_) (fun hp11=>?_)
  ·have h:=Ak hp11 h
   refine aC rfl<|aC rfl<|bO rfl<|aB rfl<|aL ?_
   exact b_ (true) () h SF rfl
  have h:=rI hp11 h
  refine bM rfl<|aF rfl (kP rfl rfl) rfl<|bR rfl<|aB rfl<|aL ?_
  exact b_ (decide (p0=(95:Int))) () h SF rfl
 intro a2 b3 h
 unfold kT at h
 refine aS ?_
 cases h
 exact gU rfl
end
section
def dK  (a10:Bool):Option (Bool):=
 if a10=true then(some (true))else(some (false))
def dV (p0:ByteArray) (a6:Bool):Option (Bool):=
 if a6=true then(some (true))else(if(dC p0 (ByteArray.mk #[97,108,108]))=true then(dK  ((dC p0 (ByteArray.mk #[97,108,108]))))else(if(dC p0 (ByteArray.mk #[115,111,109,101]))=true then(dK  ((dC p0 (ByteArray.mk #[115,111,109,101]))))else(if(dC p0 (ByteArray.mk #[99,111,117,110,116]))=true then(dK  ((dC p0 (ByteArray.mk #[99,111,117,110,116]))))else(if(dC p0 (ByteArray.mk #[102,105,114,115,116]))=true then(dK  ((dC p0 (ByteArray.mk #[102,105,114,115,116]))))else(if(dC p0 (ByteArray.mk #[109,105,110]))=true then(dK  ((dC p0 (ByteArray.mk #[109,105,110]))))else(if(dC p0 (ByteArray.mk #[109,97,120]))=true then(dK  ((dC p0 (ByteArray.mk #[109,97,120]))))else(if(dC p0 (ByteArray.mk #[115,117,109]))=true then(dK  ((dC p0 (ByteArray.mk #[115,117,109]))))else(if(dC p0 (ByteArray.mk #[109,101,120]))=true then(dK  ((dC p0 (ByteArray.mk #[109,101,120]))))else(if(dC p0 (ByteArray.mk #[115,101,99,111,110,100]))=true then(dK  ((dC p0 (ByteArray.mk #[115,101,99,111,110,100]))))else(dK  ((dC p0 (ByteArray.mk #[104,101,97,100])))))))))))))
def dU (p0:ByteArray) (a2:Bool):Option (Bool):=
 if a2=true then(some (true))else(if(dC p0 (ByteArray.mk #[110]))=true then(dV p0 ((dC p0 (ByteArray.mk #[110]))))else(if(dC p0 (ByteArray.mk #[105,100,115]))=true then(dV p0 ((dC p0 (ByteArray.mk #[105,100,115]))))else(if(dC p0 (ByteArray.mk #[105,100]))=true then(dV p0 ((dC p0 (ByteArray.mk #[105,100]))))else(if(dC p0 (ByteArray.mk #[100,101,103]))=true then(dV p0 ((dC p0 (ByteArray.mk #[100,101,103]))))else(if(dC p0 (ByteArray.mk #[114,111,111,116]))=true then(dV p0 ((dC p0 (ByteArray.mk #[114,111,111,116]))))else(if(dC p0 (ByteArray.mk #[113]))=true then(dV p0 ((dC p0 (ByteArray.mk #[113]))))else(if(dC p0 (ByteArray.mk #[119,101,105,103,104,116]))=true then(dV p0 ((dC p0 (ByteArray.mk #[119,101,105,103,104,116]))))else(dV p0 ((dC p0 (ByteArray.mk #[98,97,99,107])))))))))))
def qN (U:Nat) (p0:ByteArray):Option (Bool):=
 if(dC p0 (ByteArray.mk #[112,114,111,103,114,97,109]))=true then(dU p0 ((dC p0 (ByteArray.mk #[112,114,111,103,114,97,109]))))else(if(dC p0 (ByteArray.mk #[118,97,114]))=true then(dU p0 ((dC p0 (ByteArray.mk #[118,97,114]))))else(if(dC p0 (ByteArray.mk #[114,117,108,101]))=true then(dU p0 ((dC p0 (ByteArray.mk #[114,117,108,101]))))else(if(dC p0 (ByteArray.mk #[98,111,111,108]))=true then(dU p0 ((dC p0 (ByteArray.mk #[98,111,111,108]))))else(if(dC p0 (ByteArray.mk #[112,111,114,116]))=true then(dU p0 ((dC p0 (ByteArray.mk #[112,111,114,116]))))else(if(dC p0 (ByteArray.mk #[116,114,117,101]))=true then(dU p0 ((dC p0 (ByteArray.mk #[116,114,117,101]))))else(if(dC p0 (ByteArray.mk #[102,97,108,115,101]))=true then(dU p0 ((dC p0 (ByteArray.mk #[102,97,108,115,101]))))else(dU p0 ((dC p0 (ByteArray.mk #[110,111,110,101]))))))))))
theorem QA:bE Tryz.prog 129:=Tryz.call129
theorem DT (U:Nat) {p0:ByteArray} (r:Bool) (h:qN U p0=some r):
  aZ Tryz.prog 129 #[vS (p0)] [] (fun x:Unit=>vB (r)) (fun x l=>l) (fun _ l=>l):=by
 refine aZ.of Tryz.func129 rfl Tryz.ntmps129 rfl fun c=>?_
 refine aT<|aB rfl<|aL<|aI<|aT<|aA rfl<|aL<|aP<|aI<|cF (fun a2=>dU p0 a2=some r) (fun a2 b3=>[(3,vS (p0)),(4,vB (a2))]) (fun a2 b3=>[]) ?_ ?_
 ·refine aT<|aD (cX rfl rfl) rfl<|aB rfl<|aL ?_
  refine eY h rfl (fun _ h=>?_) fun _ h=>?_
  ·refine bJ ?_
   exact b_ ((dC p0 (ByteArray.mk #[112,114,111,103,114,97,109]))) () h SF rfl
  refine aT<|aD (cX rfl rfl) rfl<|aB rfl<|aL ?_
  refine eY h rfl (fun _ h=>?_) fun _ h=>?_
  ·refine bJ ?_
   exact b_ ((dC p0 (ByteArray.mk #[118,97,114]))) () h SF rfl
  refine aT<|aD (cX rfl rfl) rfl<|aB rfl<|aL ?_
  refine eY h rfl (fun _ h=>?_) fun _ h=>?_
  ·refine bJ ?_
   exact b_ ((dC p0 (ByteArray.mk #[114,117,108,101]))) () h SF rfl
  refine aT<|aD (cX rfl rfl) rfl<|aB rfl<|aL ?_
  refine eY h rfl (fun _ h=>?_) fun _ h=>?_
  ·refine bJ ?_
   exact b_ ((dC p0 (ByteArray.mk #[98,111,111,108]))) () h SF rfl
  refine aT<|aD (cX rfl rfl) rfl<|aB rfl<|aL ?_
  refine eY h rfl (fun _ h=>?_) fun _ h=>?_
  ·refine bJ ?_
   exact b_ ((dC p0 (ByteArray.mk #[112,111,114,116]))) () h SF rfl
  refine aT<|aD (cX rfl rfl) rfl<|aB rfl<|aL ?_
  refine eY h rfl (fun _ h=>?_) fun _ h=>?_
  ·refine bJ ?_
   exact b_ ((dC p0 (ByteArray.mk #[116,114,117,101]))) () h SF rfl
  refine aT<|aD (cX rfl rfl) rfl<|aB rfl<|aL ?_
  refine eY h rfl (fun _ h=>?_) fun _ h=>?_
  ·refine bJ ?_
   exact b_ ((dC p0 (ByteArray.mk #[102,97,108,115,101]))) () h SF rfl
  refine aH<|aD (cX rfl rfl) rfl<|aB rfl<|aL ?_
  exact b_ ((dC p0 (ByteArray.mk #[110,111,110,101]))) () h SF rfl
 intro a2 b3 h
 refine eY h rfl (fun _ h=>?_) fun _ h=>?_
 ·refine aT<|aB rfl<|aL<|aS<|bP<|aG ?_
  cases h
  exact gU rfl
 refine aI<|cF (fun a6=>dV p0 a6=some r) (fun a6 b7=>[(3,vS (p0)),(13,vB (a6))]) (fun a6 b7=>[]) ?_ ?_
 ·refine aT<|aD (cX rfl rfl) rfl<|aB rfl<|aL ?_
  refine eY h rfl (fun _ h=>?_) fun _ h=>?_
  ·refine bJ ?_
   exact b_ ((dC p0 (ByteArray.mk #[110]))) () h SF rfl
  refine aT<|aD (cX rfl rfl) rfl<|aB rfl<|aL ?_
  refine eY h rfl (fun _ h=>?_) fun _ h=>?_
  ·refine bJ ?_
   exact b_ ((dC p0 (ByteArray.mk #[105,100,115]))) () h SF rfl
  refine aT<|aD (cX rfl rfl) rfl<|aB rfl<|aL ?_
  refine eY h rfl (fun _ h=>?_) fun _ h=>?_
  ·refine bJ ?_
   exact b_ ((dC p0 (ByteArray.mk #[105,100]))) () h SF rfl
  refine aT<|aD (cX rfl rfl) rfl<|aB rfl<|aL ?_
  refine eY h rfl (fun _ h=>?_) fun _ h=>?_
  ·refine bJ ?_
   exact b_ ((dC p0 (ByteArray.mk #[100,101,103]))) () h SF rfl
  refine aT<|aD (cX rfl rfl) rfl<|aB rfl<|aL ?_
  refine eY h rfl (fun _ h=>?_) fun _ h=>?_
  ·refine bJ ?_
   exact b_ ((dC p0 (ByteArray.mk #[114,111,111,116]))) () h SF rfl
  refine aT<|aD (cX rfl rfl) rfl<|aB rfl<|aL ?_
  refine eY h rfl (fun _ h=>?_) fun _ h=>?_
  ·refine bJ ?_
   exact b_ ((dC p0 (ByteArray.mk #[113]))) () h SF rfl
  refine aT<|aD (cX rfl rfl) rfl<|aB rfl<|aL ?_
  refine eY h rfl (fun _ h=>?_) fun _ h=>?_
  ·refine bJ ?_
   exact b_ ((dC p0 (ByteArray.mk #[119,101,105,103,104,116]))) () h SF rfl
  refine aH<|aD (cX rfl rfl) rfl<|aB rfl<|aL ?_
  exact b_ ((dC p0 (ByteArray.mk #[98,97,99,107]))) () h SF rfl
 intro a6 b7 h
 refine eY h rfl (fun _ h=>?_) fun _ h=>?_
 ·refine aT<|aB rfl<|aL<|aS<|bP<|aG ?_
  cases h
  exact gU rfl
 refine aI<|cF (fun a10=>dK  a10=some r) (fun a10 b11=>[(22,vB (a10))]) (fun a10 b11=>[]) ?_ ?_
 ·refine aT<|aD (cX rfl rfl) rfl<|aB rfl<|aL ?_
  refine eY h rfl (fun _ h=>?_) fun _ h=>?_
  ·refine bJ ?_
   exact b_ ((dC p0 (ByteArray.mk #[97,108,108]))) () h SF rfl
  refine aT<|aD (cX rfl rfl) rfl<|aB rfl<|aL ?_
  refine eY h rfl (fun _ h=>?_) fun _ h=>?_
  ·refine bJ ?_
   exact b_ ((dC p0 (ByteArray.mk #[115,111,109,101]))) () h SF rfl
  refine aT<|aD (cX rfl rfl) rfl<|aB rfl<|aL ?_
  refine eY h rfl (fun _ h=>?_) fun _ h=>?_
  ·refine bJ ?_
   exact b_ ((dC p0 (ByteArray.mk #[99,111,117,110,116]))) () h SF rfl
  refine aT<|aD (cX rfl rfl) rfl<|aB rfl<|aL ?_
  refine eY h rfl (fun _ h=>?_) fun _ h=>?_
  ·refine bJ ?_
   exact b_ ((dC p0 (ByteArray.mk #[102,105,114,115,116]))) () h SF rfl
  refine aT<|aD (cX rfl rfl) rfl<|aB rfl<|aL ?_
  refine eY h rfl (fun _ h=>?_) fun _ h=>?_
  ·refine bJ ?_
   exact b_ ((dC p0 (ByteArray.mk #[109,105,110]))) () h SF rfl
  refine aT<|aD (cX rfl rfl) rfl<|aB rfl<|aL ?_
  refine eY h rfl (fun _ h=>?_) fun _ h=>?_
  ·refine bJ ?_
   exact b_ ((dC p0 (ByteArray.mk #[109,97,120]))) () h SF rfl
  refine aT<|aD (cX rfl rfl) rfl<|aB rfl<|aL ?_
  refine eY h rfl (fun _ h=>?_) fun _ h=>?_
  ·refine bJ ?_
   exact b_ ((dC p0 (ByteArray.mk #[115,117,109]))) () h SF rfl
  refine aT<|aD (cX rfl rfl) rfl<|aB rfl<|aL ?_
  refine eY h rfl (fun _ h=>?_) fun _ h=>?_
  ·refine bJ ?_
   exact b_ ((dC p0 (ByteArray.mk #[109,101,120]))) () h SF rfl
  refine aT<|aD (cX rfl rfl) rfl<|aB rfl<|aL ?_
  refine eY h rfl (fun _ h=>?_) fun _ h=>?_
  ·refine bJ ?_
   exact b_ ((dC p0 (ByteArray.mk #[115,101,99,111,110,100]))) () h SF rfl
  refine aH<|aD (cX rfl rfl) rfl<|aB rfl<|aL ?_
  exact b_ ((dC p0 (ByteArray.mk #[104,101,97,100]))) () h SF rfl
 intro a10 b11 h
 refine eY h rfl (fun _ h=>?_) fun _ h=>?_
 ·refine aT<|aB rfl<|aL<|aS<|bP<|aG ?_
  cases h
  exact gU rfl
 refine cS<|kB<|aT<|aB rfl<|aL<|aS ?_
 cases h
 exact gU rfl
end
section
def vW (U:Nat) (p0:ByteArray) (a5:Unit):Option (Bool):=
 Option.bind (qN U p0) fun r7=>(some ((!r7)))
def rK (U:Nat) (p0:ByteArray) (a12:Int) (ag11:(Int)->Option (Bool)):Option (Bool):=
 if a12<((ByteArray.size p0:Nat):Int)then(ck (0<=a12∧a12<((ByteArray.size p0:Nat):Int)) (Option.bind (tZ U (Gm p0 a12)) fun r17=>(if(!r17)=true then(some (false))else(ag11 (wI .i64 (a12+(1:Int)))))))else(vW U p0 (()))
def rJ (U:Nat) (p0:ByteArray) (a2:Bool):Option (Bool):=
 if a2=true then(some (false))else(bH (rK U p0) U (0:Int))
def qM (U:Nat) (p0:ByteArray):Option (Bool):=
 if((ByteArray.size p0:Nat):Int)<(1:Int)then(rJ U p0 (true))else(if(24:Int)<((ByteArray.size p0:Nat):Int)then(rJ U p0 (true))else(ck (0<=(0:Int)∧(0:Int)<((ByteArray.size p0:Nat):Int)) (Option.bind (pL U (Gm p0 (0:Int))) fun r24=>(rJ U p0 ((!r24))))))
theorem HG:bE Tryz.prog 106:=Tryz.call106
theorem Av (U:Nat) {p0:ByteArray} (r:Bool) (h:qM U p0=some r):
  aZ Tryz.prog 106 #[vS (p0)] [] (fun x:Unit=>vB (r)) (fun x l=>l) (fun _ l=>l):=by
 refine aZ.of Tryz.func106 rfl Tryz.ntmps106 rfl fun c=>?_
 refine aT<|aB rfl<|aL<|aI<|aI<|cF (fun a2=>rJ U p0 a2=some r) (fun a2 b3=>[(0,vS (p0)),(17,vB (a2))]) (fun a2 b3=>[]) ?_ ?_
 ·refine aH<|aA rfl<|aD (xA rfl rfl) rfl<|cZ rfl<|aA rfl ?_
  refine mW h rfl (fun _ h=>?_) fun _ h=>?_
  ·refine aC rfl<|aC rfl<|aC rfl<|bO rfl<|aA rfl<|aC rfl<|aC rfl<|aC rfl<|aC rfl<|bO rfl<|aL ?_
   exact b_ (true) () h SF rfl
  refine bM rfl<|aF rfl (xA rfl rfl) rfl<|aF rfl (pF rfl rfl) rfl<|bR rfl<|aA rfl ?_
  refine mW h rfl (fun _ h=>?_) fun _ h=>?_
  ·refine aC rfl<|aC rfl<|aC rfl<|aC rfl<|bO rfl<|aL ?_
   exact b_ (true) () h SF rfl
  refine bM rfl<|eO h fun j23 h=>aF rfl (EG rfl rfl rfl j23) rfl<|eM h fun r24 w25 h=>fA rfl (aR.callQ Ls (Bj U  r24 w25) rfl .nil) rfl fun x26=>aF rfl (eC rfl) rfl<|bR rfl<|aL ?_
  exact b_ ((!r24)) () h SF rfl
 intro a2 b3 h
 refine eY h rfl (fun _ h=>?_) fun _ h=>?_
 ·refine aT<|aB rfl<|aL<|aS<|aG ?_
  cases h
  exact gU rfl
 refine bJ<|aI<|cF (fun a5=>vW U p0 a5=some r) (fun a5 b6=>[(0,vS (p0))]) (fun a5 b6=>[]) ?_ ?_
 ·refine aT<|aA rfl<|aD (xA rfl rfl) rfl<|aA rfl<|aL<|aP<|eH (rK U p0) (fun a12 b13=>[(0,vS (p0)),(19,vI ((ByteArray.size p0:Nat):Int)),(20,vI (a12))]) (fun a12 b13=>[]) (0:Int) () h SF (bK.refl _) ?_
  intro k14 a12 b13 h
  refine aT<|cZ rfl<|aL<|aI ?_
  refine fG h rfl (fun h=>?_) fun h=>?_
  ·refine bJ<|aI<|aP<|aT<|aA rfl<|aB rfl<|aL<|aT<|aA rfl<|aA rfl<|eO h fun j16 h=>aD (EG rfl rfl rfl j16) rfl<|eM h fun r17 w18 h=>aN (aR.callQ Qy (FU U  r17 w18) rfl .nil) rfl fun x19=>aD (eC rfl) rfl<|aL ?_
   refine eY h rfl (fun _ h=>?_) fun _ h=>?_
   ·refine aT<|aB rfl<|aL<|aS<|bP<|aG<|aG<|bP<|aG ?_
    cases h
    exact gU rfl
   refine cS<|kB<|aH<|cU rfl<|aA rfl<|aL ?_
   exact AC (wI .i64 (a12+(1:Int))) () h SF rfl
  refine dY ?_
  exact b_ () (()) h SF rfl
 intro a5 b6 h
 refine aT<|aA rfl<|eM h fun r7 w8 h=>aN (aR.callQ QA (DT U  r7 w8) rfl .nil) rfl fun x9=>aD (eC rfl) rfl<|aB rfl<|aL<|aS ?_
 cases h
 exact gU rfl
end
section
def hZ  (a2:Bool):Option (Bool):=
 some (a2)
def pM (U:Nat) (p0:Int):Option (Bool):=
 if(97:Int)<=p0 then(if p0<=(122:Int)then(hZ  (true))else(if(65:Int)<=p0 then(hZ  (decide (p0<=(90:Int))))else(hZ  (false))))else(if(65:Int)<=p0 then(hZ  (decide (p0<=(90:Int))))else(hZ  (false)))
theorem Lu:bE Tryz.prog 131:=Tryz.call131
theorem Bl (U:Nat) {p0:Int} (r:Bool) (h:pM U p0=some r):
  aZ Tryz.prog 131 #[Value.int .u8 (p0)] [] (fun x:Unit=>vB (r)) (fun x l=>l) (fun _ l=>l):=by
 refine aZ.of Tryz.func131 rfl Tryz.ntmps131 rfl fun c=>?_
 refine aT<|aB rfl<|aL<|aI<|cF (fun a2=>hZ  a2=some r) (fun a2 b3=>[(2,vB (a2))]) (fun a2 b3=>[]) ?_ ?_
 ·refine aH<|aA rfl<|aD (lL rfl rfl) rfl<|aA rfl ?_
  refine mW h rfl (fun _ h=>?_) fun _ h=>?_
  ·refine bM rfl<|aF rfl (oP rfl rfl) rfl<|bO rfl<|aA rfl ?_
   refine mW h rfl (fun _ h=>?_) fun _ h=>?_
   ·refine aC rfl<|aC rfl<|aC rfl<|BE (h:= ?_)
    refine BE (h:= ?_)
    refine aC rfl<|bO rfl<|aB rfl<|aL ?_
    exact b_ (true) () h SF rfl
   refine bM rfl<|aF rfl (lL rfl rfl) rfl<|bM rfl ?_
   refine mW h rfl (fun _ h=>?_) fun _ h=>?_
   ·refine bM rfl<|aF rfl (oP rfl rfl) rfl<|aF rfl (vT rfl rfl) rfl<|bR rfl<|aB rfl<|aL ?_
    exact b_ (decide (p0<=(90:Int))) () h SF rfl
   refine aC rfl<|aC rfl<|aF rfl (qI rfl rfl) rfl<|bR rfl<|aB rfl<|aL ?_
   exact b_ (false) () h SF rfl
  refine aC rfl<|aC rfl<|bR rfl<|aA rfl<|bM rfl<|aF rfl (lL rfl rfl) rfl<|bM rfl ?_
  refine mW h rfl (fun _ h=>?_) fun _ h=>?_
  ·refine bM rfl<|aF rfl (oP rfl rfl) rfl<|aF rfl (vT rfl rfl) rfl<|bR rfl<|aB rfl<|aL ?_
   exact b_ (decide (p0<=(90:Int))) () h SF rfl
  refine aC rfl<|aC rfl<|aF rfl (qI rfl rfl) rfl<|bR rfl<|aB rfl<|aL ?_
  exact b_ (false) () h SF rfl
 intro a2 b3 h
 unfold hZ at h
 refine aS ?_
 cases h
 exact gU rfl
end
section
def pP  (a2:Bool):Option (Bool):=
 some (a2)
def vZ (U:Nat) (p0:Int):Option (Bool):=
 if(48:Int)<=p0 then(pP  (decide (p0<=(57:Int))))else(pP  (false))
theorem QJ:bE Tryz.prog 147:=Tryz.call147
theorem Gq (U:Nat) {p0:Int} (r:Bool) (h:vZ U p0=some r):
  aZ Tryz.prog 147 #[Value.int .u8 (p0)] [] (fun x:Unit=>vB (r)) (fun x l=>l) (fun _ l=>l):=by
 refine aZ.of Tryz.func147 rfl Tryz.ntmps147 rfl fun c=>?_
 refine aT<|aB rfl<|aL<|aI<|cF (fun a2=>pP  a2=some r) (fun a2 b3=>[(2,vB (a2))]) (fun a2 b3=>[]) ?_ ?_
 ·refine aH<|aA rfl<|aD (lL rfl rfl) rfl<|aA rfl ?_
  refine mW h rfl (fun _ h=>?_) fun _ h=>?_
  ·refine bM rfl<|aF rfl (oP rfl rfl) rfl<|bO rfl<|aB rfl<|aL ?_
   exact b_ (decide (p0<=(57:Int))) () h SF rfl
  refine aC rfl<|aC rfl<|bR rfl<|aB rfl<|aL ?_
  exact b_ (false) () h SF rfl
 intro a2 b3 h
 unfold pP at h
 refine aS ?_
 cases h
 exact gU rfl
end
section
def mA  (a2:Bool):Option (Bool):=
 some (a2)
def v_ (U:Nat) (p0:Int):Option (Bool):=
 Option.bind (pM U p0) fun r4=>(if r4=true then(mA  (true))else(Option.bind (vZ U p0) fun r8=>(if r8=true then(mA  (true))else(mA  (decide (p0=(95:Int)))))))
theorem QB:bE Tryz.prog 132:=Tryz.call132
theorem Gr (U:Nat) {p0:Int} (r:Bool) (h:v_ U p0=some r):
  aZ Tryz.prog 132 #[Value.int .u8 (p0)] [] (fun x:Unit=>vB (r)) (fun x l=>l) (fun _ l=>l):=by
 refine aZ.of Tryz.func132 rfl Tryz.ntmps132 rfl fun c=>?_
 refine aT<|aB rfl<|aL<|aI<|cF (fun a2=>mA  a2=some r) (fun a2 b3=>[(2,vB (a2))]) (fun a2 b3=>[]) ?_ ?_
 ·refine aH<|aA rfl<|eM h fun r4 w5 h=>aN (aR.callQ Lu (Bl U  r4 w5) rfl .nil) rfl fun x6=>aA rfl ?_
  refine e_ (by exact rfl) (by exact rfl) (fun hp7=>?_) (fun hp7=>?_)
  ·have h:=Ak hp7 h
   refine aC rfl<|aC rfl<|bO rfl<|aA rfl<|aC rfl<|aC rfl<|bO rfl<|aB rfl<|aL ?_
   exact b_ (true) () h SF rfl
  have h:=rI hp7 h
  refine bM rfl<|eM h fun r8 w9 h=>fA rfl (aR.callQ QJ (Gq U  r8 w9) rfl .nil) rfl fun x10=>bR rfl<|aA rfl ?_
  refine e_ (by exact rfl) (by exact rfl) (fun hp11=>?_) (fun hp11=>?_)
  ·have h:=Ak hp11 h
   refine aC rfl<|aC rfl<|bO rfl<|aB rfl<|aL ?_
   exact b_ (true) () h SF rfl
  have h:=rI hp11 h
  refine bM rfl<|aF rfl (kP rfl rfl) rfl<|bR rfl<|aB rfl<|aL ?_
  exact b_ (decide (p0=(95:Int))) () h SF rfl
 intro a2 b3 h
 unfold mA at h
 refine aS ?_
 cases h
 exact gU rfl
end
section
def dL  (a6:Bool):Option (Bool):=
 if a6=true then(some (true))else(some (false))
def cE (p0:ByteArray) (a2:Bool):Option (Bool):=
 if a2=true then(some (true))else(if(dC p0 (ByteArray.mk #[97,108,108]))=true then(dL  ((dC p0 (ByteArray.mk #[97,108,108]))))else(if(dC p0 (ByteArray.mk #[115,111,109,101]))=true then(dL  ((dC p0 (ByteArray.mk #[115,111,109,101]))))else(if(dC p0 (ByteArray.mk #[99,111,117,110,116]))=true then(dL  ((dC p0 (ByteArray.mk #[99,111,117,110,116]))))else(if(dC p0 (ByteArray.mk #[102,105,114,115,116]))=true then(dL  ((dC p0 (ByteArray.mk #[102,105,114,115,116]))))else(if(dC p0 (ByteArray.mk #[109,105,110]))=true then(dL  ((dC p0 (ByteArray.mk #[109,105,110]))))else(if(dC p0 (ByteArray.mk #[109,97,120]))=true then(dL  ((dC p0 (ByteArray.mk #[109,97,120]))))else(if(dC p0 (ByteArray.mk #[115,117,109]))=true then(dL  ((dC p0 (ByteArray.mk #[115,117,109]))))else(if(dC p0 (ByteArray.mk #[109,101,120]))=true then(dL  ((dC p0 (ByteArray.mk #[109,101,120]))))else(if(dC p0 (ByteArray.mk #[115,101,99,111,110,100]))=true then(dL  ((dC p0 (ByteArray.mk #[115,101,99,111,110,100]))))else(dL  ((dC p0 (ByteArray.mk #[104,101,97,100])))))))))))))
def qQ (U:Nat) (p0:ByteArray):Option (Bool):=
 if(dC p0 (ByteArray.mk #[112,114,111,103,114,97,109]))=true then(cE p0 ((dC p0 (ByteArray.mk #[112,114,111,103,114,97,109]))))else(if(dC p0 (ByteArray.mk #[118,97,114]))=true then(cE p0 ((dC p0 (ByteArray.mk #[118,97,114]))))else(if(dC p0 (ByteArray.mk #[114,117,108,101]))=true then(cE p0 ((dC p0 (ByteArray.mk #[114,117,108,101]))))else(if(dC p0 (ByteArray.mk #[98,111,111,108]))=true then(cE p0 ((dC p0 (ByteArray.mk #[98,111,111,108]))))else(if(dC p0 (ByteArray.mk #[112,111,114,116]))=true then(cE p0 ((dC p0 (ByteArray.mk #[112,111,114,116]))))else(if(dC p0 (ByteArray.mk #[116,114,117,101]))=true then(cE p0 ((dC p0 (ByteArray.mk #[116,114,117,101]))))else(if(dC p0 (ByteArray.mk #[102,97,108,115,101]))=true then(cE p0 ((dC p0 (ByteArray.mk #[102,97,108,115,101]))))else(if(dC p0 (ByteArray.mk #[110,111,110,101]))=true then(cE p0 ((dC p0 (ByteArray.mk #[110,111,110,101]))))else(if(dC p0 (ByteArray.mk #[110]))=true then(cE p0 ((dC p0 (ByteArray.mk #[110]))))else(if(dC p0 (ByteArray.mk #[105,100,115]))=true then(cE p0 ((dC p0 (ByteArray.mk #[105,100,115]))))else(if(dC p0 (ByteArray.mk #[105,100]))=true then(cE p0 ((dC p0 (ByteArray.mk #[105,100]))))else(if(dC p0 (ByteArray.mk #[100,101,103]))=true then(cE p0 ((dC p0 (ByteArray.mk #[100,101,103]))))else(if(dC p0 (ByteArray.mk #[114,111,111,116]))=true then(cE p0 ((dC p0 (ByteArray.mk #[114,111,111,116]))))else(if(dC p0 (ByteArray.mk #[113]))=true then(cE p0 ((dC p0 (ByteArray.mk #[113]))))else(if(dC p0 (ByteArray.mk #[119,101,105,103,104,116]))=true then(cE p0 ((dC p0 (ByteArray.mk #[119,101,105,103,104,116]))))else(cE p0 ((dC p0 (ByteArray.mk #[98,97,99,107]))))))))))))))))))
theorem QC:bE Tryz.prog 133:=Tryz.call133
theorem DV (U:Nat) {p0:ByteArray} (r:Bool) (h:qQ U p0=some r):
  aZ Tryz.prog 133 #[vS (p0)] [] (fun x:Unit=>vB (r)) (fun x l=>l) (fun _ l=>l):=by
 refine aZ.of Tryz.func133 rfl Tryz.ntmps133 rfl fun c=>?_
 refine aT<|aB rfl<|aL<|aI<|aT<|aA rfl<|aL<|aP<|aI<|cF (fun a2=>cE p0 a2=some r) (fun a2 b3=>[(3,vS (p0)),(4,vB (a2))]) (fun a2 b3=>[]) ?_ ?_
 ·refine aT<|aD (cX rfl rfl) rfl<|aB rfl<|aL ?_
  refine eY h rfl (fun _ h=>?_) fun _ h=>?_
  ·refine bJ ?_
   exact b_ ((dC p0 (ByteArray.mk #[112,114,111,103,114,97,109]))) () h SF rfl
  refine aT<|aD (cX rfl rfl) rfl<|aB rfl<|aL ?_
  refine eY h rfl (fun _ h=>?_) fun _ h=>?_
  ·refine bJ ?_
   exact b_ ((dC p0 (ByteArray.mk #[118,97,114]))) () h SF rfl
  refine aT<|aD (cX rfl rfl) rfl<|aB rfl<|aL ?_
  refine eY h rfl (fun _ h=>?_) fun _ h=>?_
  ·refine bJ ?_
   exact b_ ((dC p0 (ByteArray.mk #[114,117,108,101]))) () h SF rfl
  refine aT<|aD (cX rfl rfl) rfl<|aB rfl<|aL ?_
  refine eY h rfl (fun _ h=>?_) fun _ h=>?_
  ·refine bJ ?_
   exact b_ ((dC p0 (ByteArray.mk #[98,111,111,108]))) () h SF rfl
  refine aT<|aD (cX rfl rfl) rfl<|aB rfl<|aL ?_
  refine eY h rfl (fun _ h=>?_) fun _ h=>?_
  ·refine bJ ?_
   exact b_ ((dC p0 (ByteArray.mk #[112,111,114,116]))) () h SF rfl
  refine aT<|aD (cX rfl rfl) rfl<|aB rfl<|aL ?_
  refine eY h rfl (fun _ h=>?_) fun _ h=>?_
  ·refine bJ ?_
   exact b_ ((dC p0 (ByteArray.mk #[116,114,117,101]))) () h SF rfl
  refine aT<|aD (cX rfl rfl) rfl<|aB rfl<|aL ?_
  refine eY h rfl (fun _ h=>?_) fun _ h=>?_
  ·refine bJ ?_
   exact b_ ((dC p0 (ByteArray.mk #[102,97,108,115,101]))) () h SF rfl
  refine aT<|aD (cX rfl rfl) rfl<|aB rfl<|aL ?_
  refine eY h rfl (fun _ h=>?_) fun _ h=>?_
  ·refine bJ ?_
   exact b_ ((dC p0 (ByteArray.mk #[110,111,110,101]))) () h SF rfl
  refine aT<|aD (cX rfl rfl) rfl<|aB rfl<|aL ?_
  refine eY h rfl (fun _ h=>?_) fun _ h=>?_
  ·refine bJ ?_
   exact b_ ((dC p0 (ByteArray.mk #[110]))) () h SF rfl
  refine aT<|aD (cX rfl rfl) rfl<|aB rfl<|aL ?_
  refine eY h rfl (fun _ h=>?_) fun _ h=>?_
  ·refine bJ ?_
   exact b_ ((dC p0 (ByteArray.mk #[105,100,115]))) () h SF rfl
  refine aT<|aD (cX rfl rfl) rfl<|aB rfl<|aL ?_
  refine eY h rfl (fun _ h=>?_) fun _ h=>?_
  ·refine bJ ?_
   exact b_ ((dC p0 (ByteArray.mk #[105,100]))) () h SF rfl
  refine aT<|aD (cX rfl rfl) rfl<|aB rfl<|aL ?_
  refine eY h rfl (fun _ h=>?_) fun _ h=>?_
  ·refine bJ ?_
   exact b_ ((dC p0 (ByteArray.mk #[100,101,103]))) () h SF rfl
  refine aT<|aD (cX rfl rfl) rfl<|aB rfl<|aL ?_
  refine eY h rfl (fun _ h=>?_) fun _ h=>?_
  ·refine bJ ?_
   exact b_ ((dC p0 (ByteArray.mk #[114,111,111,116]))) () h SF rfl
  refine aT<|aD (cX rfl rfl) rfl<|aB rfl<|aL ?_
  refine eY h rfl (fun _ h=>?_) fun _ h=>?_
  ·refine bJ ?_
   exact b_ ((dC p0 (ByteArray.mk #[113]))) () h SF rfl
  refine aT<|aD (cX rfl rfl) rfl<|aB rfl<|aL ?_
  refine eY h rfl (fun _ h=>?_) fun _ h=>?_
  ·refine bJ ?_
   exact b_ ((dC p0 (ByteArray.mk #[119,101,105,103,104,116]))) () h SF rfl
  refine aH<|aD (cX rfl rfl) rfl<|aB rfl<|aL ?_
  exact b_ ((dC p0 (ByteArray.mk #[98,97,99,107]))) () h SF rfl
 intro a2 b3 h
 refine eY h rfl (fun _ h=>?_) fun _ h=>?_
 ·refine aT<|aB rfl<|aL<|aS<|bP<|aG ?_
  cases h
  exact gU rfl
 refine aI<|cF (fun a6=>dL  a6=some r) (fun a6 b7=>[(21,vB (a6))]) (fun a6 b7=>[]) ?_ ?_
 ·refine aT<|aD (cX rfl rfl) rfl<|aB rfl<|aL ?_
  refine eY h rfl (fun _ h=>?_) fun _ h=>?_
  ·refine bJ ?_
   exact b_ ((dC p0 (ByteArray.mk #[97,108,108]))) () h SF rfl
  refine aT<|aD (cX rfl rfl) rfl<|aB rfl<|aL ?_
  refine eY h rfl (fun _ h=>?_) fun _ h=>?_
  ·refine bJ ?_
   exact b_ ((dC p0 (ByteArray.mk #[115,111,109,101]))) () h SF rfl
  refine aT<|aD (cX rfl rfl) rfl<|aB rfl<|aL ?_
  refine eY h rfl (fun _ h=>?_) fun _ h=>?_
  ·refine bJ ?_
   exact b_ ((dC p0 (ByteArray.mk #[99,111,117,110,116]))) () h SF rfl
  refine aT<|aD (cX rfl rfl) rfl<|aB rfl<|aL ?_
  refine eY h rfl (fun _ h=>?_) fun _ h=>?_
  ·refine bJ ?_
   exact b_ ((dC p0 (ByteArray.mk #[102,105,114,115,116]))) () h SF rfl
  refine aT<|aD (cX rfl rfl) rfl<|aB rfl<|aL ?_
  refine eY h rfl (fun _ h=>?_) fun _ h=>?_
  ·refine bJ ?_
   exact b_ ((dC p0 (ByteArray.mk #[109,105,110]))) () h SF rfl
  refine aT<|aD (cX rfl rfl) rfl<|aB rfl<|aL ?_
  refine eY h rfl (fun _ h=>?_) fun _ h=>?_
  ·refine bJ ?_
   exact b_ ((dC p0 (ByteArray.mk #[109,97,120]))) () h SF rfl
  refine aT<|aD (cX rfl rfl) rfl<|aB rfl<|aL ?_
  refine eY h rfl (fun _ h=>?_) fun _ h=>?_
  ·refine bJ ?_
   exact b_ ((dC p0 (ByteArray.mk #[115,117,109]))) () h SF rfl
  refine aT<|aD (cX rfl rfl) rfl<|aB rfl<|aL ?_
  refine eY h rfl (fun _ h=>?_) fun _ h=>?_
  ·refine bJ ?_
   exact b_ ((dC p0 (ByteArray.mk #[109,101,120]))) () h SF rfl
  refine aT<|aD (cX rfl rfl) rfl<|aB rfl<|aL ?_
  refine eY h rfl (fun _ h=>?_) fun _ h=>?_
  ·refine bJ ?_
   exact b_ ((dC p0 (ByteArray.mk #[115,101,99,111,110,100]))) () h SF rfl
  refine aH<|aD (cX rfl rfl) rfl<|aB rfl<|aL ?_
  exact b_ ((dC p0 (ByteArray.mk #[104,101,97,100]))) () h SF rfl
 intro a6 b7 h
 refine eY h rfl (fun _ h=>?_) fun _ h=>?_
 ·refine aT<|aB rfl<|aL<|aS<|bP<|aG ?_
  cases h
  exact gU rfl
 refine cS<|kB<|aT<|aB rfl<|aL<|aS ?_
 cases h
 exact gU rfl
end
section
def wK (U:Nat) (p0:ByteArray) (a5:Unit):Option (Bool):=
 Option.bind (qQ U p0) fun r7=>(some ((!r7)))
def rX (U:Nat) (p0:ByteArray) (a12:Int) (ag11:(Int)->Option (Bool)):Option (Bool):=
 if a12<((ByteArray.size p0:Nat):Int)then(ck (0<=a12∧a12<((ByteArray.size p0:Nat):Int)) (Option.bind (v_ U (Gm p0 a12)) fun r17=>(if(!r17)=true then(some (false))else(ag11 (wI .i64 (a12+(1:Int)))))))else(wK U p0 (()))
def rW (U:Nat) (p0:ByteArray) (a2:Bool):Option (Bool):=
 if a2=true then(some (false))else(bH (rX U p0) U (1:Int))
def qP (U:Nat) (p0:ByteArray):Option (Bool):=
 if((ByteArray.size p0:Nat):Int)<(1:Int)then(rW U p0 (true))else(if(24:Int)<((ByteArray.size p0:Nat):Int)then(rW U p0 (true))else(ck (0<=(0:Int)∧(0:Int)<((ByteArray.size p0:Nat):Int)) (Option.bind (pM U (Gm p0 (0:Int))) fun r24=>(rW U p0 ((!r24))))))
theorem HJ:bE Tryz.prog 110:=Tryz.call110
theorem Aw (U:Nat) {p0:ByteArray} (r:Bool) (h:qP U p0=some r):
  aZ Tryz.prog 110 #[vS (p0)] [] (fun x:Unit=>vB (r)) (fun x l=>l) (fun _ l=>l):=by
 refine aZ.of Tryz.func110 rfl Tryz.ntmps110 rfl fun c=>?_
 refine aT<|aB rfl<|aL<|aI<|aI<|cF (fun a2=>rW U p0 a2=some r) (fun a2 b3=>[(0,vS (p0)),(17,vB (a2))]) (fun a2 b3=>[]) ?_ ?_
 ·refine aH<|aA rfl<|aD (xA rfl rfl) rfl<|cZ rfl<|aA rfl ?_
  refine mW h rfl (fun _ h=>?_) fun _ h=>?_
  ·refine aC rfl<|aC rfl<|aC rfl<|bO rfl<|aA rfl<|aC rfl<|aC rfl<|aC rfl<|aC rfl<|bO rfl<|aL ?_
   exact b_ (true) () h SF rfl
  refine bM rfl<|aF rfl (xA rfl rfl) rfl<|aF rfl (pF rfl rfl) rfl<|bR rfl<|aA rfl ?_
  refine mW h rfl (fun _ h=>?_) fun _ h=>?_
  ·refine aC rfl<|aC rfl<|aC rfl<|aC rfl<|bO rfl<|aL ?_
   exact b_ (true) () h SF rfl
  refine bM rfl<|eO h fun j23 h=>aF rfl (EG rfl rfl rfl j23) rfl<|eM h fun r24 w25 h=>fA rfl (aR.callQ Lu (Bl U  r24 w25) rfl .nil) rfl fun x26=>aF rfl (eC rfl) rfl<|bR rfl<|aL ?_
  exact b_ ((!r24)) () h SF rfl
 intro a2 b3 h
 refine eY h rfl (fun _ h=>?_) fun _ h=>?_
 ·refine aT<|aB rfl<|aL<|aS<|aG ?_
  cases h
  exact gU rfl
 refine bJ<|aI<|cF (fun a5=>wK U p0 a5=some r) (fun a5 b6=>[(0,vS (p0))]) (fun a5 b6=>[]) ?_ ?_
 ·refine aT<|aB rfl<|aL<|aP<|eH (rX U p0) (fun a12 b13=>[(0,vS (p0)),(3,vI (a12))]) (fun a12 b13=>[]) (1:Int) () h SF (bK.refl _) ?_
  intro k14 a12 b13 h
  refine aI<|aT<|aA rfl<|aA rfl<|aD (xA rfl rfl) rfl<|cZ rfl<|aL ?_
  refine fG h rfl (fun h=>?_) fun h=>?_
  ·refine bJ<|aI<|aP<|aT<|aA rfl<|aA rfl<|eO h fun j16 h=>aD (EG rfl rfl rfl j16) rfl<|eM h fun r17 w18 h=>aN (aR.callQ QB (Gr U  r17 w18) rfl .nil) rfl fun x19=>aD (eC rfl) rfl<|aL ?_
   refine eY h rfl (fun _ h=>?_) fun _ h=>?_
   ·refine aT<|aB rfl<|aL<|aS<|bP<|aG<|aG<|bP<|aG ?_
    cases h
    exact gU rfl
   refine cS<|kB<|aH<|aA rfl<|cU rfl<|aB rfl<|aL ?_
   exact AC (wI .i64 (a12+(1:Int))) () h SF rfl
  refine dY ?_
  exact b_ () (()) h SF rfl
 intro a5 b6 h
 refine aT<|aA rfl<|eM h fun r7 w8 h=>aN (aR.callQ QC (DV U  r7 w8) rfl .nil) rfl fun x9=>aD (eC rfl) rfl<|aB rfl<|aL<|aS ?_
 cases h
 exact gU rfl
end
section
def oB  (a2:Bool):Option (Bool):=
 some (a2)
def fT (U:Nat) (p0:Int) (p1:Int) (p2:Int):Option (Bool):=
 if p1<=p0 then(oB  (decide (p0<=p2)))else(oB  (false))
theorem Af:bE Tryz.prog 108:=Tryz.call108
theorem kI (U:Nat) {p0:Int} {p1:Int} {p2:Int} (r:Bool) (h:fT U p0 p1 p2=some r):
  aZ Tryz.prog 108 #[vI (p0),vI (p1),vI (p2)] [] (fun x:Unit=>vB (r)) (fun x l=>l) (fun _ l=>l):=by
 refine aZ.of Tryz.func108 rfl Tryz.ntmps108 rfl fun c=>?_
 refine aT<|aB rfl<|aL<|aI<|cF (fun a2=>oB  a2=some r) (fun a2 b3=>[(6,vB (a2))]) (fun a2 b3=>[]) ?_ ?_
 ·refine aH<|aA rfl<|aA rfl<|aD (lL rfl rfl) rfl<|aA rfl ?_
  refine mW h rfl (fun _ h=>?_) fun _ h=>?_
  ·refine bM rfl<|bM rfl<|aF rfl (oP rfl rfl) rfl<|bO rfl<|aB rfl<|aL ?_
   exact b_ (decide (p0<=p2)) () h SF rfl
  refine aC rfl<|aC rfl<|aC rfl<|bR rfl<|aB rfl<|aL ?_
  exact b_ (false) () h SF rfl
 intro a2 b3 h
 unfold oB at h
 refine aS ?_
 cases h
 exact gU rfl
end
section
def iM  (a8:Bool):Option (Bool):=
 some (a8)
def jZ  (a25:Bool):Option (Bool):=
 some (a25)
def q_ (U:Nat) (p0:Gd) (a18:Bool):Option (Bool):=
 if a18=true then(Option.bind (fT U p0.2.2.2.1 (0:Int) (4096:Int)) fun r21=>(some (r21)))else(if p0.2.2.2.2.1=(0:Int)then(Option.bind (fT U p0.2.2.2.1 (-4096:Int) (4096:Int)) fun r28=>(jZ  (r28)))else(if p0.2.2.2.2.2=(0:Int)then(Option.bind (fT U p0.2.2.2.1 (-4096:Int) (4096:Int)) fun r32=>(jZ  (r32)))else(jZ  (false))))
def mR (U:Nat) (p0:Gd) (a14:Bool):Option (Bool):=
 if a14=true then(some (false))else(if p0.2.2.2.2.1=(0:Int)then(q_ U p0 (decide (p0.2.2.2.2.2=(0:Int))))else(q_ U p0 (false)))
def sQ (U:Nat) (p0:Gd):Option (Bool):=
 Option.bind (lZ U p0.2.1) fun r2=>(if(!r2)=true then(some (false))else(if p0.2.1≠(1:Int)then(if p0.2.2.1=(0:Int)then(if p0.2.2.2.1=(0:Int)then(if p0.2.2.2.2.1=(0:Int)then(iM  (decide (p0.2.2.2.2.2=(0:Int))))else(iM  (false)))else(iM  (false)))else(iM  (false)))else(Option.bind (fT U p0.2.2.1 (0:Int) (4096:Int)) fun r36=>(if(!r36)=true then(mR U p0 (true))else(Option.bind (fT U p0.2.2.2.2.1 (0:Int) (255:Int)) fun r40=>(if(!r40)=true then(mR U p0 (true))else(Option.bind (fT U p0.2.2.2.2.2 (0:Int) (255:Int)) fun r44=>(mR U p0 ((!r44))))))))))
theorem Te:bE Tryz.prog 74:=Tryz.call74
theorem EA (U:Nat) {p0:Gd} (r:Bool) (h:sQ U p0=some r):
  aZ Tryz.prog 74 #[Value.agg #[vS (p0.1),vI (p0.2.1),vI (p0.2.2.1),vI (p0.2.2.2.1),vI (p0.2.2.2.2.1),vI (p0.2.2.2.2.2)]] [] (fun x:Unit=>vB (r)) (fun x l=>l) (fun _ l=>l):=by
 refine aZ.of Tryz.func74 rfl Tryz.ntmps74 rfl fun c=>?_
 refine aT<|aN (aR.box (cs:=[vS (p0.1),vI (p0.2.1),vI (p0.2.2.1),vI (p0.2.2.2.1),vI (p0.2.2.2.2.1),vI (p0.2.2.2.2.2)]) rfl rfl) rfl fun b1=>aB rfl<|aL<|aI<|aT<|bQ rfl<|cM 0 rfl<|eM h fun r2 w3 h=>aN (aR.callQ Lq (zW U  r2 w3) rfl .nil) rfl fun x4=>aD (eC rfl) rfl<|aL ?_
 refine eY h rfl (fun _ h=>?_) fun _ h=>?_
 ·refine aT<|aB rfl<|aL<|aS<|aG ?_
  cases h
  exact vF rfl
 refine bJ<|aI<|aT<|bQ rfl<|cM 0 rfl<|rV rfl<|aL ?_
 refine fG h rfl (fun h=>?_) fun h=>?_
 ·refine aI<|cF (fun a8=>iM  a8=some r) (fun a8 b9=>[(2,vB (a8))]) (fun a8 b9=>[]) ?_ ?_
  ·refine aH<|bQ rfl<|cM 0 rfl<|cH rfl<|aA rfl ?_
   refine mW h rfl (fun _ h=>?_) fun _ h=>?_
   ·refine aF rfl (bW rfl rfl rfl rfl rfl) rfl<|aF rfl (cI 0 rfl rfl rfl rfl rfl) rfl<|aF rfl (kP rfl rfl) rfl<|bO rfl<|aA rfl ?_
    refine mW h rfl (fun _ h=>?_) fun _ h=>?_
    ·refine aF rfl (bW rfl rfl rfl rfl rfl) rfl<|aF rfl (cI 0 rfl rfl rfl rfl rfl) rfl<|aF rfl (kP rfl rfl) rfl<|bO rfl<|aA rfl ?_
     refine mW h rfl (fun _ h=>?_) fun _ h=>?_
     ·refine aF rfl (bW rfl rfl rfl rfl rfl) rfl<|aF rfl (cI 0 rfl rfl rfl rfl rfl) rfl<|aF rfl (kP rfl rfl) rfl<|bO rfl<|aB rfl<|aL ?_
      exact bS (decide (p0.2.2.2.2.2=(0:Int))) () h SF .nil (aO.refl _ _)
     refine aC rfl<|aC rfl<|aC rfl<|bR rfl<|aB rfl<|aL ?_
     exact bS (false) () h SF .nil (aO.refl _ _)
    refine aC rfl<|aC rfl<|aC rfl<|bR rfl<|aA rfl<|aC rfl<|aC rfl<|aC rfl<|bR rfl<|aB rfl<|aL ?_
    exact bS (false) () h SF .nil (aO.refl _ _)
   refine aC rfl<|aC rfl<|aC rfl<|bR rfl<|aA rfl<|aC rfl<|aC rfl<|aC rfl<|bR rfl<|aA rfl<|aC rfl<|aC rfl<|aC rfl<|bR rfl<|aB rfl<|aL ?_
   exact bS (false) () h SF .nil (aO.refl _ _)
  intro a8 b9 h
  unfold iM at h
  refine aS<|aG ?_
  cases h
  exact gU rfl
 refine bJ<|aI<|aI<|cF (fun a14=>mR U p0 a14=some r) (fun a14 b15=>[(1,vP b1),(43,vB (a14))]) (fun a14 b15=>[dD b1 [vS (p0.1),vI (p0.2.1),vI (p0.2.2.1),vI (p0.2.2.2.1),vI (p0.2.2.2.2.1),vI (p0.2.2.2.2.2)] 49]) ?_ ?_
 ·refine aH<|bQ rfl<|cM 0 rfl<|eM h fun r36 w37 h=>aN (aR.callQ Af (kI U  r36 w37) rfl .nil) rfl fun x38=>aD (eC rfl) rfl<|aA rfl ?_
  refine e_ (by exact rfl) (by exact rfl) (fun hp39=>?_) (fun hp39=>?_)
  ·have h:=Ak hp39 h
   refine aC rfl<|aC rfl<|aC rfl<|aC rfl<|bO rfl<|aA rfl<|aC rfl<|aC rfl<|aC rfl<|aC rfl<|bO rfl<|aL ?_
   exact b_ (true) () h SF rfl
  have h:=rI hp39 h
  refine aF rfl (bW rfl rfl rfl rfl rfl) rfl<|aF rfl (cI 0 rfl rfl rfl rfl rfl) rfl<|eM h fun r40 w41 h=>fA rfl (aR.callQ Af (kI U  r40 w41) rfl .nil) rfl fun x42=>aF rfl (eC rfl) rfl<|bR rfl<|aA rfl ?_
  refine e_ (by exact rfl) (by exact rfl) (fun hp43=>?_) (fun hp43=>?_)
  ·have h:=Ak hp43 h
   refine aC rfl<|aC rfl<|aC rfl<|aC rfl<|bO rfl<|aL ?_
   exact b_ (true) () h SF rfl
  have h:=rI hp43 h
  refine aF rfl (bW rfl rfl rfl rfl rfl) rfl<|aF rfl (cI 0 rfl rfl rfl rfl rfl) rfl<|eM h fun r44 w45 h=>fA rfl (aR.callQ Af (kI U  r44 w45) rfl .nil) rfl fun x46=>aF rfl (eC rfl) rfl<|bR rfl<|aL ?_
  exact b_ ((!r44)) () h SF rfl
 intro a14 b15 h
 refine eY h rfl (fun _ h=>?_) fun _ h=>?_
 ·refine aT<|aB rfl<|aL<|aS<|aG ?_
  cases h
  exact vF rfl
 refine bJ<|aI<|aI<|cF (fun a18=>q_ U p0 a18=some r) (fun a18 b19=>[(1,vP b1),(51,vB (a18))]) (fun a18 b19=>[dD b1 [vS (p0.1),vI (p0.2.1),vI (p0.2.2.1),vI (p0.2.2.2.1),vI (p0.2.2.2.2.1),vI (p0.2.2.2.2.2)] 49]) ?_ ?_
 ·refine aH<|bQ rfl<|cM 0 rfl<|cH rfl<|aA rfl ?_
  refine mW h rfl (fun _ h=>?_) fun _ h=>?_
  ·refine aF rfl (bW rfl rfl rfl rfl rfl) rfl<|aF rfl (cI 0 rfl rfl rfl rfl rfl) rfl<|aF rfl (kP rfl rfl) rfl<|bO rfl<|aL ?_
   exact b_ (decide (p0.2.2.2.2.2=(0:Int))) () h SF rfl
  refine aC rfl<|aC rfl<|aC rfl<|bR rfl<|aL ?_
  exact b_ (false) () h SF rfl
 intro a18 b19 h
 refine eY h rfl (fun _ h=>?_) fun _ h=>?_
 ·refine aT<|bQ rfl<|cM 0 rfl<|eM h fun r21 w22 h=>aN (aR.callQ Af (kI U  r21 w22) rfl .nil) rfl fun x23=>aB rfl<|aL<|aS<|aG ?_
  cases h
  exact vF rfl
 refine bJ<|aI<|cF (fun a25=>jZ  a25=some r) (fun a25 b26=>[(2,vB (a25))]) (fun a25 b26=>[]) ?_ ?_
 ·refine aH<|bQ rfl<|cM 0 rfl<|cH rfl<|aA rfl ?_
  refine mW h rfl (fun _ h=>?_) fun _ h=>?_
  ·refine aC rfl<|aC rfl<|aC rfl<|bO rfl<|aA rfl<|aF rfl (bW rfl rfl rfl rfl rfl) rfl<|aF rfl (cI 0 rfl rfl rfl rfl rfl) rfl<|eM h fun r28 w29 h=>fA rfl (aR.callQ Af (kI U  r28 w29) rfl .nil) rfl fun x30=>bO rfl<|aB rfl<|aL ?_
   exact bS (r28) () h SF .nil (aO.refl _ _)
  refine aF rfl (bW rfl rfl rfl rfl rfl) rfl<|aF rfl (cI 0 rfl rfl rfl rfl rfl) rfl<|aF rfl (kP rfl rfl) rfl<|bR rfl<|aA rfl ?_
  refine mW h rfl (fun _ h=>?_) fun _ h=>?_
  ·refine aF rfl (bW rfl rfl rfl rfl rfl) rfl<|aF rfl (cI 0 rfl rfl rfl rfl rfl) rfl<|eM h fun r32 w33 h=>fA rfl (aR.callQ Af (kI U  r32 w33) rfl .nil) rfl fun x34=>bO rfl<|aB rfl<|aL ?_
   exact bS (r32) () h SF .nil (aO.refl _ _)
  refine aC rfl<|aC rfl<|aC rfl<|bR rfl<|aB rfl<|aL ?_
  exact bS (false) () h SF .nil (aO.refl _ _)
 intro a25 b26 h
 unfold jZ at h
 refine aS ?_
 cases h
 exact gU rfl
end
section
def xE  (a2:Bool):Option (Bool):=
 some (a2)
def kD (U:Nat) (p0:Int) (p1:Int) (p2:Int):Option (Bool):=
 if p1<=p0 then(xE  (decide (p0<=p2)))else(xE  (false))
theorem A_:bE Tryz.prog 78:=Tryz.call78
theorem pY (U:Nat) {p0:Int} {p1:Int} {p2:Int} (r:Bool) (h:kD U p0 p1 p2=some r):
  aZ Tryz.prog 78 #[vI (p0),vI (p1),vI (p2)] [] (fun x:Unit=>vB (r)) (fun x l=>l) (fun _ l=>l):=by
 refine aZ.of Tryz.func78 rfl Tryz.ntmps78 rfl fun c=>?_
 refine aT<|aB rfl<|aL<|aI<|cF (fun a2=>xE  a2=some r) (fun a2 b3=>[(6,vB (a2))]) (fun a2 b3=>[]) ?_ ?_
 ·refine aH<|aA rfl<|aA rfl<|aD (lL rfl rfl) rfl<|aA rfl ?_
  refine mW h rfl (fun _ h=>?_) fun _ h=>?_
  ·refine bM rfl<|bM rfl<|aF rfl (oP rfl rfl) rfl<|bO rfl<|aB rfl<|aL ?_
   exact b_ (decide (p0<=p2)) () h SF rfl
  refine aC rfl<|aC rfl<|aC rfl<|bR rfl<|aB rfl<|aL ?_
  exact b_ (false) () h SF rfl
 intro a2 b3 h
 unfold xE at h
 refine aS ?_
 cases h
 exact gU rfl
end
section
def gF  (a4:Bool):Option (Bool):=
 some (a4)
def qW (U:Nat) (p0:Gd) (a18:Bool):Option (Bool):=
 if a18=true then(Option.bind (kD U p0.2.2.2.1 (0:Int) (4096:Int)) fun r21=>(some (r21)))else(Option.bind (kD U p0.2.2.2.1 (-4096:Int) (4096:Int)) fun r24=>(some (r24)))
def iK (U:Nat) (p0:Gd) (a14:Bool):Option (Bool):=
 if a14=true then(some (false))else(if p0.2.2.2.2.1=(0:Int)then(qW U p0 (decide (p0.2.2.2.2.2=(0:Int))))else(qW U p0 (false)))
def sO (U:Nat) (p0:Gd):Option (Bool):=
 if p0.2.1≠(1:Int)then(Option.bind (wC U p0.2.1) fun r6=>(if r6=true then(if p0.2.2.1=(0:Int)then(if p0.2.2.2.1=(0:Int)then(if p0.2.2.2.2.1=(0:Int)then(gF  (decide (p0.2.2.2.2.2=(0:Int))))else(gF  (false)))else(gF  (false)))else(gF  (false)))else(gF  (false))))else(Option.bind (kD U p0.2.2.1 (0:Int) (4096:Int)) fun r28=>(if(!r28)=true then(iK U p0 (true))else(Option.bind (kD U p0.2.2.2.2.1 (0:Int) (255:Int)) fun r32=>(if(!r32)=true then(iK U p0 (true))else(Option.bind (kD U p0.2.2.2.2.2 (0:Int) (255:Int)) fun r36=>(if(!r36)=true then(iK U p0 (true))else(if p0.2.2.2.2.1≠(0:Int)then(iK U p0 (decide (p0.2.2.2.2.2≠(0:Int))))else(iK U p0 (false)))))))))
theorem Tk:bE Tryz.prog 80:=Tryz.call80
theorem Ew (U:Nat) {p0:Gd} (r:Bool) (h:sO U p0=some r):
  aZ Tryz.prog 80 #[Value.agg #[vS (p0.1),vI (p0.2.1),vI (p0.2.2.1),vI (p0.2.2.2.1),vI (p0.2.2.2.2.1),vI (p0.2.2.2.2.2)]] [] (fun x:Unit=>vB (r)) (fun x l=>l) (fun _ l=>l):=by
 refine aZ.of Tryz.func80 rfl Tryz.ntmps80 rfl fun c=>?_
 refine aT<|aN (aR.box (cs:=[vS (p0.1),vI (p0.2.1),vI (p0.2.2.1),vI (p0.2.2.2.1),vI (p0.2.2.2.2.1),vI (p0.2.2.2.2.2)]) rfl rfl) rfl fun b1=>aB rfl<|aL<|aI<|aT<|bQ rfl<|cM 0 rfl<|rV rfl<|aL ?_
 refine fG h rfl (fun h=>?_) fun h=>?_
 ·refine aI<|cF (fun a4=>gF  a4=some r) (fun a4 b5=>[(2,vB (a4))]) (fun a4 b5=>[]) ?_ ?_
  ·refine aH<|bQ rfl<|cM 0 rfl<|eM h fun r6 w7 h=>aN (aR.callQ Qv (Gv U  r6 w7) rfl .nil) rfl fun x8=>aA rfl ?_
   refine e_ (by exact rfl) (by exact rfl) (fun hp9=>?_) (fun hp9=>?_)
   ·have h:=Ak hp9 h
    refine aF rfl (bW rfl rfl rfl rfl rfl) rfl<|aF rfl (cI 0 rfl rfl rfl rfl rfl) rfl<|aF rfl (kP rfl rfl) rfl<|bO rfl<|aA rfl ?_
    refine mW h rfl (fun _ h=>?_) fun _ h=>?_
    ·refine aF rfl (bW rfl rfl rfl rfl rfl) rfl<|aF rfl (cI 0 rfl rfl rfl rfl rfl) rfl<|aF rfl (kP rfl rfl) rfl<|bO rfl<|aA rfl ?_
     refine mW h rfl (fun _ h=>?_) fun _ h=>?_
     ·refine aF rfl (bW rfl rfl rfl rfl rfl) rfl<|aF rfl (cI 0 rfl rfl rfl rfl rfl) rfl<|aF rfl (kP rfl rfl) rfl<|bO rfl<|aA rfl ?_
      refine mW h rfl (fun _ h=>?_) fun _ h=>?_
      ·refine aF rfl (bW rfl rfl rfl rfl rfl) rfl<|aF rfl (cI 0 rfl rfl rfl rfl rfl) rfl<|aF rfl (kP rfl rfl) rfl<|bO rfl<|aB rfl<|aL ?_
       exact bS (decide (p0.2.2.2.2.2=(0:Int))) () h SF .nil (aO.refl _ _)
      refine aC rfl<|aC rfl<|aC rfl<|bR rfl<|aB rfl<|aL ?_
      exact bS (false) () h SF .nil (aO.refl _ _)
     refine aC rfl<|aC rfl<|aC rfl<|bR rfl<|aA rfl<|aC rfl<|aC rfl<|aC rfl<|bR rfl<|aB rfl<|aL ?_
     exact bS (false) () h SF .nil (aO.refl _ _)
    refine aC rfl<|aC rfl<|aC rfl<|bR rfl<|aA rfl<|aC rfl<|aC rfl<|aC rfl<|bR rfl<|aA rfl<|aC rfl<|aC rfl<|aC rfl<|bR rfl<|aB rfl<|aL ?_
    exact bS (false) () h SF .nil (aO.refl _ _)
   have h:=rI hp9 h
   refine aC rfl<|aC rfl<|aC rfl<|bR rfl<|aA rfl<|aC rfl<|aC rfl<|aC rfl<|bR rfl<|aA rfl<|aC rfl<|aC rfl<|aC rfl<|bR rfl<|aA rfl<|aC rfl<|aC rfl<|aC rfl<|bR rfl<|aB rfl<|aL ?_
   exact bS (false) () h SF .nil (aO.refl _ _)
  intro a4 b5 h
  unfold gF at h
  refine aS<|aG ?_
  cases h
  exact gU rfl
 refine bJ<|aI<|aI<|cF (fun a14=>iK U p0 a14=some r) (fun a14 b15=>[(1,vP b1),(54,vB (a14))]) (fun a14 b15=>[dD b1 [vS (p0.1),vI (p0.2.1),vI (p0.2.2.1),vI (p0.2.2.2.1),vI (p0.2.2.2.2.1),vI (p0.2.2.2.2.2)] 49]) ?_ ?_
 ·refine aH<|bQ rfl<|cM 0 rfl<|eM h fun r28 w29 h=>aN (aR.callQ A_ (pY U  r28 w29) rfl .nil) rfl fun x30=>aD (eC rfl) rfl<|aA rfl ?_
  refine e_ (by exact rfl) (by exact rfl) (fun hp31=>?_) (fun hp31=>?_)
  ·have h:=Ak hp31 h
   refine aC rfl<|aC rfl<|aC rfl<|aC rfl<|bO rfl<|aA rfl<|aC rfl<|aC rfl<|aC rfl<|aC rfl<|bO rfl<|aA rfl<|aC rfl<|aC rfl<|aC rfl<|aC rfl<|BE (h:= ?_)
   refine BE (h:= ?_)
   refine BE (h:= ?_)
   refine aC rfl<|bO rfl<|aL ?_
   exact b_ (true) () h SF rfl
  have h:=rI hp31 h
  refine aF rfl (bW rfl rfl rfl rfl rfl) rfl<|aF rfl (cI 0 rfl rfl rfl rfl rfl) rfl<|eM h fun r32 w33 h=>fA rfl (aR.callQ A_ (pY U  r32 w33) rfl .nil) rfl fun x34=>aF rfl (eC rfl) rfl<|bR rfl<|aA rfl ?_
  refine e_ (by exact rfl) (by exact rfl) (fun hp35=>?_) (fun hp35=>?_)
  ·have h:=Ak hp35 h
   refine aC rfl<|aC rfl<|aC rfl<|aC rfl<|bO rfl<|aA rfl<|aC rfl<|aC rfl<|aC rfl<|aC rfl<|BE (h:= ?_)
   refine BE (h:= ?_)
   refine BE (h:= ?_)
   refine aC rfl<|bO rfl<|aL ?_
   exact b_ (true) () h SF rfl
  have h:=rI hp35 h
  refine aF rfl (bW rfl rfl rfl rfl rfl) rfl<|aF rfl (cI 0 rfl rfl rfl rfl rfl) rfl<|eM h fun r36 w37 h=>fA rfl (aR.callQ A_ (pY U  r36 w37) rfl .nil) rfl fun x38=>aF rfl (eC rfl) rfl<|bR rfl<|aA rfl ?_
  refine e_ (by exact rfl) (by exact rfl) (fun hp39=>?_) (fun hp39=>?_)
  ·have h:=Ak hp39 h
   refine aC rfl<|aC rfl<|aC rfl<|aC rfl<|BE (h:= ?_)
   refine BE (h:= ?_)
   refine BE (h:= ?_)
   refine aC rfl<|bO rfl<|aL ?_
   exact b_ (true) () h SF rfl
  have h:=rI hp39 h
  refine aF rfl (bW rfl rfl rfl rfl rfl) rfl<|aF rfl (cI 0 rfl rfl rfl rfl rfl) rfl<|aF rfl (xB rfl rfl) rfl<|bM rfl ?_
  refine mW h rfl (fun _ h=>?_) fun _ h=>?_
  ·refine aF rfl (bW rfl rfl rfl rfl rfl) rfl<|aF rfl (cI 0 rfl rfl rfl rfl rfl) rfl<|aF rfl (xB rfl rfl) rfl<|aF rfl (vT rfl rfl) rfl<|bR rfl<|aL ?_
   exact b_ (decide (p0.2.2.2.2.2≠(0:Int))) () h SF rfl
  refine aC rfl<|aC rfl<|aC rfl<|aF rfl (qI rfl rfl) rfl<|bR rfl<|aL ?_
  exact b_ (false) () h SF rfl
 intro a14 b15 h
 refine eY h rfl (fun _ h=>?_) fun _ h=>?_
 ·refine aT<|aB rfl<|aL<|aS<|aG ?_
  cases h
  exact vF rfl
 refine bJ<|aI<|aI<|cF (fun a18=>qW U p0 a18=some r) (fun a18 b19=>[(1,vP b1),(62,vB (a18))]) (fun a18 b19=>[dD b1 [vS (p0.1),vI (p0.2.1),vI (p0.2.2.1),vI (p0.2.2.2.1),vI (p0.2.2.2.2.1),vI (p0.2.2.2.2.2)] 49]) ?_ ?_
 ·refine aH<|bQ rfl<|cM 0 rfl<|cH rfl<|aA rfl ?_
  refine mW h rfl (fun _ h=>?_) fun _ h=>?_
  ·refine aF rfl (bW rfl rfl rfl rfl rfl) rfl<|aF rfl (cI 0 rfl rfl rfl rfl rfl) rfl<|aF rfl (kP rfl rfl) rfl<|bO rfl<|aL ?_
   exact b_ (decide (p0.2.2.2.2.2=(0:Int))) () h SF rfl
  refine aC rfl<|aC rfl<|aC rfl<|bR rfl<|aL ?_
  exact b_ (false) () h SF rfl
 intro a18 b19 h
 refine eY h rfl (fun _ h=>?_) fun _ h=>?_
 ·refine aT<|bQ rfl<|cM 0 rfl<|eM h fun r21 w22 h=>aN (aR.callQ A_ (pY U  r21 w22) rfl .nil) rfl fun x23=>aB rfl<|aL<|aS<|aG ?_
  cases h
  exact vF rfl
 refine bJ<|aT<|bQ rfl<|cM 0 rfl<|eM h fun r24 w25 h=>aN (aR.callQ A_ (pY U  r24 w25) rfl .nil) rfl fun x26=>aB rfl<|aL<|aS ?_
 cases h
 exact vF rfl
end
end Go.Proofs.YthnplbmmlbnelaaGreat
end
section
namespace Go.Proofs.YthnplbmmlbnelaaGreat
open Go Go.Sx
theorem dQ {X R:Type} {step:X->(X->Option R)->Option R} {K bad:Option R} (N:Nat) (q:Nat->Bool) (F:Nat->X) (h1:∀(k:Nat) ag,k<N->step (F k) ag=if q k=true then ag (F (k+1))else bad) (h2:∀ag,step (F N) ag=K) (fuel:Nat) (hf:N<fuel):
  bH step fuel (F 0)=if(List.range N).all q=true then K else bad:=by
 obtain⟨e1,e2⟩:=KH N (fun k=>q k=true) F (fun k ag hk h=>by rw[h1 k ag hk,if_pos h]) (fun k ag hk h=>by rw[h1 k ag hk,if_neg h]) h2 fuel hf
 by_cases h:(List.range N).all q=true
 ·rw[if_pos h];exact e1 fun k hk=>List.all_eq_true.1 h k (List.mem_range.2 hk)
 ·rw[if_neg h];exact e2 fun h'=>h (List.all_eq_true.2 fun k hk=>h' k (List.mem_range.1 hk))
theorem UX {α:Type} {K:Bool->α} {c d:Bool} {R:α} (h:R=K d):(if c=true then K c else R)=K (c||d):=by
 cases c
 ·rw[if_neg (by decide),h];rfl
 ·rfl
def Xi (p:ByteArray):Bool:=((dC p (ByteArray.mk #[112,114,111,103,114,97,109]))||((dC p (ByteArray.mk #[118,97,114]))||((dC p (ByteArray.mk #[114,117,108,101]))||((dC p (ByteArray.mk #[98,111,111,108]))||((dC p (ByteArray.mk #[112,111,114,116]))||((dC p (ByteArray.mk #[116,114,117,101]))||((dC p (ByteArray.mk #[102,97,108,115,101]))||(dC p (ByteArray.mk #[110,111,110,101])))))))))
def Wj (p:ByteArray):Bool:=((dC p (ByteArray.mk #[110]))||((dC p (ByteArray.mk #[105,100,115]))||((dC p (ByteArray.mk #[105,100]))||((dC p (ByteArray.mk #[100,101,103]))||((dC p (ByteArray.mk #[114,111,111,116]))||((dC p (ByteArray.mk #[113]))||((dC p (ByteArray.mk #[119,101,105,103,104,116]))||(dC p (ByteArray.mk #[98,97,99,107])))))))))
def wdC (p:ByteArray):Bool:=((dC p (ByteArray.mk #[97,108,108]))||((dC p (ByteArray.mk #[115,111,109,101]))||((dC p (ByteArray.mk #[99,111,117,110,116]))||((dC p (ByteArray.mk #[102,105,114,115,116]))||((dC p (ByteArray.mk #[109,105,110]))||((dC p (ByteArray.mk #[109,97,120]))||((dC p (ByteArray.mk #[115,117,109]))||((dC p (ByteArray.mk #[109,101,120]))||((dC p (ByteArray.mk #[115,101,99,111,110,100]))||(dC p (ByteArray.mk #[104,101,97,100])))))))))))
def wd (p:ByteArray):Bool:=Xi p||(Wj p||wdC p)
theorem VS (p:ByteArray) (a:Bool):dV p a=some (a||wdC p):=by
 unfold dV
 have h:∀b,dK b=some b:=fun b=>by cases b<;>rfl
 cases a
 ·rw[if_neg (by decide),Bool.false_or,<-h]
  unfold wdC
  repeat refine UX ?_
  rfl
 ·rfl
theorem VQ (p:ByteArray) (a:Bool):dU p a=some (a||(Wj p||wdC p)):=by
 unfold dU
 cases a
 ·rw[if_neg (by decide),Bool.false_or,<-VS]
  unfold Wj
  repeat refine UX ?_
  rfl
 ·rfl
theorem Xh (F:Nat) (p:ByteArray):qN F p=some (wd p):=by
 unfold qN wd
 rw[<-VQ]
 unfold Xi
 repeat refine UX ?_
 rfl
theorem Vr (p:ByteArray) (a:Bool):cE p a=some (a||wdC p):=by
 unfold cE
 have h:∀b,dL b=some b:=fun b=>by cases b<;>rfl
 cases a
 ·rw[if_neg (by decide),Bool.false_or,<-h]
  unfold wdC
  repeat refine UX ?_
  rfl
 ·rfl
theorem Xd (F:Nat) (p:ByteArray):qQ F p=some (wd p):=by
 unfold qQ
 have e:wd p=((((dC p (ByteArray.mk #[112,114,111,103,114,97,109]))||((dC p (ByteArray.mk #[118,97,114]))||((dC p (ByteArray.mk #[114,117,108,101]))||((dC p (ByteArray.mk #[98,111,111,108]))||((dC p (ByteArray.mk #[112,111,114,116]))||((dC p (ByteArray.mk #[116,114,117,101]))||((dC p (ByteArray.mk #[102,97,108,115,101]))||((dC p (ByteArray.mk #[110,111,110,101]))||((dC p (ByteArray.mk #[110]))||((dC p (ByteArray.mk #[105,100,115]))||((dC p (ByteArray.mk #[105,100]))||((dC p (ByteArray.mk #[100,101,103]))||((dC p (ByteArray.mk #[114,111,111,116]))||((dC p (ByteArray.mk #[113]))||((dC p (ByteArray.mk #[119,101,105,103,104,116]))||(dC p (ByteArray.mk #[98,97,99,107]))))))))))))))))))||wdC p):=by
  unfold wd Xi Wj
  simp only[Bool.or_assoc]
 rw[e,<-Vr]
 repeat refine UX ?_
 rfl
def FC (b:Int):Bool:=(decide (97<=b)&&decide (b<=122))||(decide (65<=b)&&decide (b<=90))
def KB (b:Int):Bool:=decide (48<=b)&&decide (b<=57)
def Kc (b:Int):Bool:=FC b||(KB b||decide (b=95))
theorem VF (F:Nat) (b:Int):pL F b=some (FC b):=by
 unfold pL hP FC
 by_cases h1:97<=b<;>by_cases h2:b<=122<;>by_cases h3:65<=b<;>simp[h1,h2,h3]
theorem Xg (F:Nat) (b:Int):vY F b=some (KB b):=by
 unfold vY pK KB
 by_cases h1:48<=b<;>simp[h1]
theorem tIn (F:Nat) (b:Int):tZ F b=some (Kc b):=by
 unfold tZ kT Kc
 rw[bF (VF F b),bF (Xg F b)]
 cases FC b<;>cases KB b<;>simp
theorem Vn (F:Nat) (b:Int):pM F b=some (FC b):=by
 unfold pM hZ FC
 by_cases h1:97<=b<;>by_cases h2:b<=122<;>by_cases h3:65<=b<;>simp[h1,h2,h3]
theorem Xa (F:Nat) (b:Int):vZ F b=some (KB b):=by
 unfold vZ pP KB
 by_cases h1:48<=b<;>simp[h1]
theorem rIn (F:Nat) (b:Int):v_ F b=some (Kc b):=by
 unfold v_ mA Kc
 rw[bF (Vn F b),bF (Xa F b)]
 cases FC b<;>cases KB b<;>simp
def Jq (p:ByteArray):Bool:=decide (1<=p.size)&&decide (p.size<=24)&&FC (Gm p 0)&&(List.range p.size).all (fun k=>Kc (Gm p (k:Int))) && !wd p
theorem PN (F:Nat) (p:ByteArray) (hF:100<=F):qM F p=some (Jq p):=by
 unfold qM rJ Jq
 by_cases h1:1<=p.size
 ·by_cases h2:p.size<=24
  ·rw[if_neg (by omega),if_neg (by omega),eF (by omega),bF (VF F _)]
   have:=dQ (step:=rK F p) (K:=vW F p ()) (bad:=some false) p.size (fun k=>Kc (Gm p (k:Int))) (fun k=>(k:Int)) (fun k ag hk=>by
    unfold rK
    rw[if_pos (by omega),eF (by omega),bF (tIn F _),wr (by omega) (by omega)]
    cases Kc (Gm p (k:Int))<;>simp) (fun ag=>by unfold rK;rw[if_neg (by omega)]) F (by omega)
   rw[show((0:Nat):Int)=0 from rfl]at this
   rw[this]
   unfold vW
   rw[bF (Xh F p)]
   cases FC (Gm p 0)<;>cases (List.range p.size).all (fun k=>Kc (Gm p (k:Int)))<;>simp[h1,h2]
  ·rw[if_neg (by omega),if_pos (by omega)];simp[h2]
 ·rw[if_pos (by omega)];simp[h1]
theorem Ps (F:Nat) (p:ByteArray) (hF:100<=F):qP F p=some (Jq p):=by
 unfold qP rW Jq
 by_cases h1:1<=p.size
 ·by_cases h2:p.size<=24
  ·rw[if_neg (by omega),if_neg (by omega),eF (by omega),bF (Vn F _)]
   have:=dQ (step:=rX F p) (K:=wK F p ()) (bad:=some false) (p.size - 1) (fun k=>Kc (Gm p ((k+1:Nat):Int))) (fun k=>((k+1:Nat):Int)) (fun k ag hk=>by
    unfold rX
    rw[if_pos (by omega),eF (by omega),bF (rIn F _),wr (by omega) (by omega),show(((k+1:Nat):Int)+1)=((k+1+1:Nat):Int) by omega]
    cases Kc (Gm p ((k+1:Nat):Int))<;>simp) (fun ag=>by unfold rX;rw[if_neg (by omega)]) F (by omega)
   rw[show((0+1:Nat):Int)=1 from rfl]at this
   rw[this]
   unfold wK
   rw[bF (Xd F p)]
   have e:(List.range p.size).all (fun k=>Kc (Gm p (k:Int)))=(Kc (Gm p 0)&&(List.range (p.size - 1)).all (fun k=>Kc (Gm p ((k+1:Nat):Int)))):=by
    obtain⟨m,hm⟩:∃m,p.size=m+1:=⟨p.size - 1,by omega⟩
    rw[hm,List.range_succ_eq_map,Nat.add_sub_cancel,List.all_cons,List.all_map]
    rfl
   rw[e]
   have hl:FC (Gm p 0)=true->Kc (Gm p 0)=true:=fun h=>by unfold Kc;rw[h];rfl
   cases hL:FC (Gm p 0)
   ·simp
   ·rw[hl hL]
    cases (List.range (p.size - 1)).all (fun k=>Kc (Gm p ((k+1:Nat):Int)))<;>simp[h1,h2]
  ·rw[if_neg (by omega),if_pos (by omega)];simp[h2]
 ·rw[if_pos (by omega)];simp[h1]
abbrev VR:=Gd
theorem Mk (F:Nat) (x a b:Int):fT F x a b=some (decide (a<=x)&&decide (x<=b)):=by
 unfold fT oB
 by_cases h:a<=x<;>simp[h]
theorem EP (F:Nat) (x a b:Int):kD F x a b=some (decide (a<=x)&&decide (x<=b)):=by
 unfold kD xE
 by_cases h:a<=x<;>simp[h]
def Cm (v:VR):Bool:=
 if v.2.1≠1 then KL v.2.1&&decide (v.2.2.1=0)&&decide (v.2.2.2.1=0)&&decide (v.2.2.2.2.1=0)&&decide (v.2.2.2.2.2=0)
 else decide (0<=v.2.2.1)&&decide (v.2.2.1<=4096)&&decide (0<=v.2.2.2.2.1)&&decide (v.2.2.2.2.1<=255)&&decide (0<=v.2.2.2.2.2)&&decide (v.2.2.2.2.2<=255) &&
  (if v.2.2.2.2.1=0∧v.2.2.2.2.2=0 then decide (0<=v.2.2.2.1)&&decide (v.2.2.2.1<=4096)else(decide (v.2.2.2.2.1=0∨v.2.2.2.2.2=0)&&decide (-4096<=v.2.2.2.1)&&decide (v.2.2.2.1<=4096)))
theorem VI (F:Nat) (v:VR):sQ F v=some (Cm v):=by
 obtain⟨nm,k,lo,hi,a,b⟩:=v
 unfold sQ iM mR q_ jZ Cm
 simp only[VK,Mk,Option.bind_some]
 by_cases hk:k=1
 ·subst hk
  by_cases h1:0<=lo<;>by_cases h2:lo<=4096<;>by_cases h3:0<=a<;>by_cases h4:a<=255<;>by_cases h5:0<=b<;>by_cases h6:b<=255<;>simp[KL,h1,h2,h3,h4,h5,h6]<;>by_cases h7:a=0<;>by_cases h8:b=0<;>simp[h7,h8]
 ·cases hK:KL k
  ·simp[hk]
  ·by_cases h1:lo=0<;>by_cases h2:hi=0<;>by_cases h3:a=0<;>simp[hk,h1,h2,h3]
theorem Vo (F:Nat) (v:VR):sO F v=some (Cm v):=by
 obtain⟨nm,k,lo,hi,a,b⟩:=v
 unfold sO gF iK qW Cm
 simp only[TY,EP,Option.bind_some]
 by_cases hk:k=1
 ·subst hk
  by_cases h1:0<=lo<;>by_cases h2:lo<=4096<;>by_cases h3:0<=a<;>by_cases h4:a<=255<;>by_cases h5:0<=b<;>by_cases h6:b<=255<;>simp[KL,h1,h2,h3,h4,h5,h6]<;>by_cases h7:a=0<;>by_cases h8:b=0<;>simp[h7,h8]
 ·cases hK:KL k
  ·simp[hk]
  ·by_cases h1:lo=0<;>by_cases h2:hi=0<;>by_cases h3:a=0<;>simp[hk,h1,h2,h3]
end Go.Proofs.YthnplbmmlbnelaaGreat
end
section
namespace Go.Proofs.YthnplbmmlbnelaaGreat
open Go.Sx
section
def qE  (a10:Unit):Option (Bool):=
 some (true)
def vD (p0:dZ) (a15:Ms) (ag14:Mr->Option (Bool)) (a25:Bool):Option (Bool):=
 if a25=true then(some (false))else(ag14 ((wI .i64 (a15.1+(1:Int))),(xH ((at' p0.2.2 a15.1).1) true a15.2)))
def kL (U:Nat) (p0:dZ) (a15:Ms) (ag14:Mr->Option (Bool)):Option (Bool):=
 if a15.1<(List.length p0.2.2:Int)then(ck (0<=a15.1∧a15.1<(List.length p0.2.2:Int)) (Option.bind (qM U ((at' p0.2.2 a15.1).1)) fun r28=>(if(!r28)=true then(vD p0 a15 ag14 (true))else(vD p0 a15 ag14 ((Option.getD (qT ((at' p0.2.2 a15.1).1) a15.2) false))))))else(qE  (()))
def qD (U:Nat) (p0:dZ) (a7:Unit):Option (Bool):=
 bH (kL U p0) U ((0:Int),([]:List (ByteArray×Bool)))
def vE (p0:dZ) (a35:Ms) (ag34:Mr->Option (Bool)) (a42:Bool):Option (Bool):=
 if a42=true then(some (false))else(ag34 ((wI .i64 (a35.1+(1:Int))),(xH ((at' p0.2.1 a35.1).1) true a35.2)))
def kM (U:Nat) (p0:dZ) (a35:Ms) (ag34:Mr->Option (Bool)):Option (Bool):=
 if a35.1<(List.length p0.2.1:Int)then(ck (0<=a35.1∧a35.1<(List.length p0.2.1:Int)) (Option.bind (qM U ((at' p0.2.1 a35.1).1)) fun r45=>(if(!r45)=true then(vE p0 a35 ag34 (true))else(vE p0 a35 ag34 ((Option.getD (qT ((at' p0.2.1 a35.1).1) a35.2) false))))))else(qD U p0 (()))
def wH (U:Nat) (p0:dZ):Option (Bool):=
 Option.bind (qM U p0.1) fun r2=>(if(!r2)=true then(some (false))else(bH (kM U p0) U ((0:Int),([]:List (ByteArray×Bool)))))
theorem Td:bE Tryz.prog 73:=Tryz.call73
theorem GC (U:Nat) {p0:dZ} (v0:Value)  (v1:Value) (r:Bool) (h:wH U p0=some r):
  aZ Tryz.prog 73 #[Value.agg #[vS (p0.1),v0,v1]] [Sl aQ v0 p0.2.1,Sl aK v1 p0.2.2] (fun x:Unit=>vB (r)) (fun x l=>l) (fun _ l=>l):=by
 refine aZ.of Tryz.func73 rfl Tryz.ntmps73 rfl fun c=>?_
 refine aT<|aN (aR.box (cs:=[vS (p0.1),v0,v1]) rfl rfl) rfl fun b1=>aB rfl<|aL<|aI<|aT<|bQ rfl<|cM 0 rfl<|eM h fun r2 w3 h=>aN (aR.callQ HG (Av U  r2 w3) rfl .nil) rfl fun x4=>aD (eC rfl) rfl<|aL ?_
 refine eY h rfl (fun _ h=>?_) fun _ h=>?_
 ·refine aT<|aB rfl<|aL<|aS<|aG ?_
  cases h
  exact vF rfl
 refine bJ<|aT<|aN (aR.makeMap Nz RI) rfl fun b6=>aB rfl<|aL<|aI<|cF (fun a7=>qD U p0 a7=some r) (fun a7 b8=>[(1,vP b1)]) (fun a7 b8=>[dD b1 [vS (p0.1),v0,v1] 25]) ?_ ?_
 ·refine aT<|bQ rfl<|cM 1 rfl<|cY (dB rfl) rfl<|aA rfl<|aL<|aP<|eH (kM U p0) (fun a35 b36=>[(1,vP b1),(3,Value.map (some b6)),(15,v0),(16,vI (List.length p0.2.1:Int)),(17,vI (a35.1))]) (fun a35 b36=>[Mp Nz RI b6 a35.2,dD b1 [vS (p0.1),v0,v1] 25]) ((0:Int),([]:List (ByteArray×Bool))) () h SF (bK.refl _) ?_
  intro k37 a35 b36 h
  refine aT<|cZ rfl<|aL<|aI ?_
  refine fG h rfl (fun h=>?_) fun h=>?_
  ·refine bJ<|aI<|aP<|aT<|eO h fun j39 h=>aD (aU rfl rfl (dB rfl) rfl rfl j39) rfl<|aD (fO (cs:=[vS ((at' p0.2.1 a35.1).1),vI ((at' p0.2.1 a35.1).2.1),vI ((at' p0.2.1 a35.1).2.2.1),vI ((at' p0.2.1 a35.1).2.2.2.1),vI ((at' p0.2.1 a35.1).2.2.2.2.1),vI ((at' p0.2.1 a35.1).2.2.2.2.2)]) rfl (dB rfl) bU rfl rfl rfl rfl j39) rfl<|aN (aR.alloc (cs:=Wi) rfl rfl) rfl fun b40=>cC 0 (vs:=[vS ((at' p0.2.1 a35.1).1),vI ((at' p0.2.1 a35.1).2.1),vI ((at' p0.2.1 a35.1).2.2.1),vI ((at' p0.2.1 a35.1).2.2.2.1),vI ((at' p0.2.1 a35.1).2.2.2.2.1),vI ((at' p0.2.1 a35.1).2.2.2.2.2)]) rfl rfl rfl rfl rfl rfl<|aL<|aI<|aI<|cF (fun a42=>vE p0 a35 (bH (kM U p0) k37) a42=some r) (fun a42 b43=>[(1,vP b1),(3,Value.map (some b6)),(5,vP b40),(15,v0),(16,vI (List.length p0.2.1:Int)),(17,vI (a35.1)),(30,vB (a42))]) (fun a42 b43=>[dD b40 [vS ((at' p0.2.1 a35.1).1),vI ((at' p0.2.1 a35.1).2.1),vI ((at' p0.2.1 a35.1).2.2.1),vI ((at' p0.2.1 a35.1).2.2.2.1),vI ((at' p0.2.1 a35.1).2.2.2.2.1),vI ((at' p0.2.1 a35.1).2.2.2.2.2)] 49,Mp Nz RI b6 a35.2,dD b1 [vS (p0.1),v0,v1] 25]) ?_ ?_
   ·refine aH<|bQ rfl<|cM 0 rfl<|eM h fun r45 w46 h=>aN (aR.callQ HG (Av U  r45 w46) rfl .nil) rfl fun x47=>aD (eC rfl) rfl<|aA rfl ?_
    refine e_ (by exact rfl) (by exact rfl) (fun hp48=>?_) (fun hp48=>?_)
    ·have h:=Ak hp48 h
     refine aC rfl<|aC rfl<|aC rfl<|aC rfl<|bO rfl<|aL ?_
     exact b_ (true) () h SF rfl
    have h:=rI hp48 h
    refine bM rfl<|aF rfl (bW rfl rfl rfl rfl rfl) rfl<|aF rfl (cI 0 rfl rfl rfl rfl rfl) rfl ?_
    refine aF rfl (Fc 1 ((at' p0.2.1 a35.1).1) (u:=vB ((Option.getD (qT ((at' p0.2.1 a35.1).1) a35.2) false))) LM rfl rfl rfl rfl rfl (by cases qT ((at' p0.2.1 a35.1).1) a35.2<;>rfl)) rfl ?_
    refine bR rfl<|aL ?_
    exact b_ ((Option.getD (qT ((at' p0.2.1 a35.1).1) a35.2) false)) () h SF rfl
   intro a42 b43 h
   refine eY h rfl (fun _ h=>?_) fun _ h=>?_
   ·refine aT<|aB rfl<|aL<|aS<|aG<|bP<|aG<|aG<|bP<|aG ?_
    cases h
    exact vF rfl
   refine bJ<|aH<|aA rfl<|bQ rfl<|cM 0 rfl<|AO 1 ((at' p0.2.1 a35.1).1) true LM rfl rfl rfl rfl rfl<|fF<|kB<|aH<|cU rfl<|aA rfl<|aL ?_
   exact eK ((wI .i64 (a35.1+(1:Int))),(xH ((at' p0.2.1 a35.1).1) true a35.2)) () h SF (bK.ix [1,2] rfl rfl) (aO.refl _ _)
  refine dY ?_
  exact bS () (()) h SF (bK.ix [1] rfl rfl) (aO.refl _ _)
 intro a7 b8 h
 unfold qD at h
 refine aT<|aN (aR.makeMap Nz RI) rfl fun b9=>aB rfl<|aL<|aI<|cF (fun a10=>qE  a10=some r) (fun a10 b11=>[]) (fun a10 b11=>[]) ?_ ?_
 ·refine aT<|bQ rfl<|cM 1 rfl<|cY (eZ rfl) rfl<|aA rfl<|aL<|aP<|eH (kL U p0) (fun a15 b16=>[(6,Value.map (some b9)),(37,v1),(38,vI (List.length p0.2.2:Int)),(39,vI (a15.1))]) (fun a15 b16=>[Mp Nz RI b9 a15.2]) ((0:Int),([]:List (ByteArray×Bool))) () h SF (bK.ix [0] rfl rfl) ?_
  intro k17 a15 b16 h
  refine aT<|cZ rfl<|aL<|aI ?_
  refine fG h rfl (fun h=>?_) fun h=>?_
  ·refine bJ<|aI<|aP<|aT<|eO h fun j19 h=>aD (aU rfl rfl (eZ rfl) rfl rfl j19) rfl<|oJ (v:=v1) (ds:=p0.2.2) aX (eZ rfl) fun us20=>?_
   refine c_ (bZ ((iY (bY (f:=aJ) (eZ rfl) j19.1 (by first|exact j19.2|simpa using j19.2))):aM _ _ (Sl aY ((at' us20 a15.1).1) ((at' p0.2.2 a15.1).2.1)))) ?_
   refine c_ (bZ ((iC (bY (f:=aJ) (Ck rfl) j19.1 (by first|exact j19.2|simpa using j19.2))):aM _ _ (Sl bA ((at' us20 a15.1).2) ((at' p0.2.2 a15.1).2.2)))) ?_
   refine aD (eP (cs:=[vS ((at' p0.2.2 a15.1).1),(at' us20 a15.1).1,(at' us20 a15.1).2]) rfl (Ck rfl) rfl rfl rfl rfl ⟨j19.1,by first|exact j19.2|simpa using j19.2⟩) rfl<|aN (aR.alloc (cs:=xJ) rfl rfl) rfl fun b21=>dG (Know.one ((eZ rfl))) fun ho22=>dG (Know.one ((dB rfl))) fun ho23=>cC 0 (vs:=[vS ((at' p0.2.2 a15.1).1),(at' us20 a15.1).1,(at' us20 a15.1).2]) rfl rfl (fE rfl (fE ho22 (fE ho23 rfl))) rfl rfl rfl<|aL<|aI<|aI<|pB (B:=Unit) (fun a25=>vD p0 a15 (bH (kL U p0) k17) a25=some r) (fun a25 b26=>[(6,Value.map (some b9)),(8,Value.pointer (some ⟨b21,0,none⟩)),(37,v1),(38,vI (List.length p0.2.2:Int)),(39,vI (a15.1)),(52,vB (a25))]) (fun a25 b26=>[dD b21 [vS ((at' p0.2.2 a15.1).1),(at' us20 a15.1).1,(at' us20 a15.1).2] 42,Mp Nz RI b9 a15.2]) (fun a25 b26=>[Sl bA ((at' us20 a15.1).2) ((at' p0.2.2 a15.1).2.2),Sl aY ((at' us20 a15.1).1) ((at' p0.2.2 a15.1).2.1),Rz a_ v1 us20 p0.2.2,Pw aJ us20 p0.2.2,Sl aQ v0 p0.2.1,Sl aK v1 p0.2.2]) ?_ ?_
   ·refine aH<|bQ rfl<|cM 0 rfl<|eM h fun r28 w29 h=>aN (aR.callQ HG (Av U  r28 w29) rfl .nil) rfl fun x30=>aD (eC rfl) rfl<|aA rfl ?_
    refine e_ (by exact rfl) (by exact rfl) (fun hp31=>?_) (fun hp31=>?_)
    ·have h:=Ak hp31 h
     refine aC rfl<|aC rfl<|aC rfl<|aC rfl<|bO rfl<|aL ?_
     exact b_ (true) () h SF rfl
    have h:=rI hp31 h
    refine bM rfl<|aF rfl (bW rfl rfl rfl rfl rfl) rfl<|aF rfl (cI 0 rfl rfl rfl rfl rfl) rfl ?_
    refine aF rfl (Fc 1 ((at' p0.2.2 a15.1).1) (u:=vB ((Option.getD (qT ((at' p0.2.2 a15.1).1) a15.2) false))) LM rfl rfl rfl rfl rfl (by cases qT ((at' p0.2.2 a15.1).1) a15.2<;>rfl)) rfl ?_
    refine bR rfl<|aL ?_
    exact b_ ((Option.getD (qT ((at' p0.2.2 a15.1).1) a15.2) false)) () h SF rfl
   intro a25 b26 h
   refine eY h rfl (fun _ h=>?_) fun _ h=>?_
   ·refine aT<|aB rfl<|aL<|aS<|aG<|bP<|aG<|aG<|bP<|aG ?_
    cases h
    exact vF rfl
   refine bJ<|aH<|aA rfl<|bQ rfl<|cM 0 rfl<|AO 1 ((at' p0.2.2 a15.1).1) true LM rfl rfl rfl rfl rfl<|fF<|kB<|aH<|cU rfl<|aA rfl<|aL ?_
   exact eK ((wI .i64 (a15.1+(1:Int))),(xH ((at' p0.2.2 a15.1).1) true a15.2)) () h SF (bK.ix [1] rfl rfl) (hI [4,5] rfl)
  refine dY ?_
  exact bS () (()) h SF .nil (aO.refl _ _)
 intro a10 b11 h
 unfold qE at h
 refine aT<|aB rfl<|aL<|aS ?_
 cases h
 exact gU rfl
end
section
def nV  (a7:Unit):Option (Bool):=
 some (true)
def nW (p0:oM) (a12:Int×(List (Int×Bool))) (ag11:(Int×(List (Int×Bool)))->Option (Bool)) (a21:Bool):Option (Bool):=
 if a21=true then(some (false))else(ag11 ((wI .i64 (a12.1+(1:Int))),(xH ((at' p0.2.2 a12.1).1) true a12.2)))
def jH (U:Nat) (p0:oM) (p1:Int) (a12:Int×(List (Int×Bool))) (ag11:(Int×(List (Int×Bool)))->Option (Bool)):Option (Bool):=
 if a12.1<(List.length p0.2.2:Int)then(ck (0<=a12.1∧a12.1<(List.length p0.2.2:Int)) (Option.bind (fT U ((at' p0.2.2 a12.1).1) (0:Int) (wI .i64 (p1 - (1:Int)))) fun r24=>(if(!r24)=true then(nW p0 a12 ag11 (true))else(if(Option.getD (qT ((at' p0.2.2 a12.1).1) a12.2) false)=true then(nW p0 a12 ag11 (true))else(Option.bind (gQ U ((at' p0.2.2 a12.1).2) p1) fun r29=>(nW p0 a12 ag11 ((!r29))))))))else(nV  (()))
def nU (U:Nat) (p0:oM) (p1:Int) (a3:Bool):Option (Bool):=
 if a3=true then(some (false))else(bH (jH U p0 p1) U ((0:Int),([]:List (Int×Bool))))
def uH (U:Nat) (p0:oM) (p1:Int):Option (Bool):=
 if(List.length p0.2.2:Int)=(0:Int)then(nU U p0 p1 (true))else(if(6:Int)<(List.length p0.2.2:Int)then(nU U p0 p1 (true))else(Option.bind (gQ U p0.2.1 p1) fun r34=>(nU U p0 p1 ((!r34)))))
theorem Tf:bE Tryz.prog 75:=Tryz.call75
theorem Ga (U:Nat) {p0:oM} {p1:Int} (v0:Value)  (v1:Value) (r:Bool) (h:uH U p0 p1=some r):
  aZ Tryz.prog 75 #[Value.agg #[vS (p0.1),v0,v1],vI (p1)] [Sl aY v0 p0.2.1,Sl bA v1 p0.2.2] (fun x:Unit=>vB (r)) (fun x l=>l) (fun _ l=>l):=by
 refine aZ.of Tryz.func75 rfl Tryz.ntmps75 rfl fun c=>?_
 refine aT<|aN (aR.box (cs:=[vS (p0.1),v0,v1]) rfl rfl) rfl fun b1=>aB rfl<|aL<|aI<|aI<|cF (fun a3=>nU U p0 p1 a3=some r) (fun a3 b4=>[(1,vI (p1)),(2,vP b1),(24,vB (a3))]) (fun a3 b4=>[dD b1 [vS (p0.1),v0,v1] 42]) ?_ ?_
 ·refine aH<|bQ rfl<|cM 0 rfl<|cY (eZ rfl) rfl<|cH rfl<|aA rfl ?_
  refine mW h rfl (fun _ h=>?_) fun _ h=>?_
  ·refine aC rfl<|aC rfl<|aC rfl<|aC rfl<|bO rfl<|aA rfl<|aC rfl<|aC rfl<|aC rfl<|aC rfl<|aC rfl<|bO rfl<|aL ?_
   exact b_ (true) () h SF rfl
  refine aF rfl (bW rfl rfl rfl rfl rfl) rfl<|aF rfl (cI 0 rfl rfl rfl rfl rfl) rfl<|aF rfl (eX rfl (eZ rfl) rfl) rfl<|aF rfl (pF rfl rfl) rfl<|bR rfl<|aA rfl ?_
  refine mW h rfl (fun _ h=>?_) fun _ h=>?_
  ·refine aC rfl<|aC rfl<|aC rfl<|aC rfl<|aC rfl<|bO rfl<|aL ?_
   exact b_ (true) () h SF rfl
  refine aF rfl (bW rfl rfl rfl rfl rfl) rfl<|aF rfl (cI 0 rfl rfl rfl rfl rfl) rfl<|bM rfl<|eM h fun r34 w35 h=>fA rfl (aR.callQ Fg (uU U v0 r34 w35) rfl (hI [0] rfl)) rfl fun x36=>aF rfl (eC rfl) rfl<|bR rfl<|aL ?_
  exact b_ ((!r34)) () h SF rfl
 intro a3 b4 h
 refine eY h rfl (fun _ h=>?_) fun _ h=>?_
 ·refine aT<|aB rfl<|aL<|aS<|aG ?_
  cases h
  exact vF rfl
 refine bJ<|aT<|aN (aR.makeMap GG RI) rfl fun b6=>aB rfl<|aL<|aI<|cF (fun a7=>nV  a7=some r) (fun a7 b8=>[]) (fun a7 b8=>[]) ?_ ?_
 ·refine aT<|bQ rfl<|cM 1 rfl<|cY (eZ rfl) rfl<|aA rfl<|aL<|aP<|eH (jH U p0 p1) (fun a12 b13=>[(1,vI (p1)),(5,Value.map (some b6)),(27,v1),(28,vI (List.length p0.2.2:Int)),(29,vI (a12.1))]) (fun a12 b13=>[Mp GG RI b6 a12.2]) ((0:Int),([]:List (Int×Bool))) () h SF (bK.ix [0] rfl rfl) ?_
  intro k14 a12 b13 h
  refine aT<|cZ rfl<|aL<|aI ?_
  refine fG h rfl (fun h=>?_) fun h=>?_
  ·refine bJ<|aI<|aP<|aT<|eO h fun j16 h=>aD (aU rfl rfl (eZ rfl) rfl rfl j16) rfl<|oJ (v:=v1) (ds:=p0.2.2) cL (eZ rfl) fun us17=>?_
   refine c_ (bZ ((bY (f:=cG) (eZ rfl) j16.1 (by first|exact j16.2|simpa using j16.2)):aM _ _ (Sl aY (at' us17 a12.1) ((at' p0.2.2 a12.1).2)))) ?_
   refine aD (eP (cs:=[vI ((at' p0.2.2 a12.1).1),at' us17 a12.1]) rfl (eZ rfl) rfl rfl rfl rfl ⟨j16.1,by first|exact j16.2|simpa using j16.2⟩) rfl<|aN (aR.alloc (cs:=[vI (0:Int),oI]) rfl rfl) rfl fun b18=>dG (Know.one ((dB rfl))) fun ho19=>cC 0 (vs:=[vI ((at' p0.2.2 a12.1).1),at' us17 a12.1]) rfl rfl (fE rfl (fE ho19 rfl)) rfl rfl rfl<|aL<|aI<|aI<|pB (B:=Unit) (fun a21=>nW p0 a12 (bH (jH U p0 p1) k14) a21=some r) (fun a21 b22=>[(1,vI (p1)),(5,Value.map (some b6)),(7,Value.pointer (some ⟨b18,0,none⟩)),(27,v1),(28,vI (List.length p0.2.2:Int)),(29,vI (a12.1)),(51,vB (a21))]) (fun a21 b22=>[dD b18 [vI ((at' p0.2.2 a12.1).1),at' us17 a12.1] 44,Mp GG RI b6 a12.2]) (fun a21 b22=>[Sl aY (at' us17 a12.1) ((at' p0.2.2 a12.1).2),Rz cW v1 us17 p0.2.2,Pw cG us17 p0.2.2,Sl aY v0 p0.2.1,Sl bA v1 p0.2.2]) ?_ ?_
   ·refine aH<|bQ rfl<|cM 0 rfl<|aA rfl<|aD (vL rfl rfl) rfl<|eM h fun r24 w25 h=>aN (aR.callQ Af (kI U  r24 w25) rfl .nil) rfl fun x26=>aD (eC rfl) rfl<|aA rfl ?_
    refine e_ (by exact rfl) (by exact rfl) (fun hp27=>?_) (fun hp27=>?_)
    ·have h:=Ak hp27 h
     refine aC rfl<|aC rfl<|aC rfl<|aC rfl<|bO rfl<|aA rfl<|aC rfl<|aC rfl<|aC rfl<|aC rfl<|aC rfl<|bO rfl<|aL ?_
     exact b_ (true) () h SF rfl
    have h:=rI hp27 h
    refine bM rfl<|aF rfl (bW rfl rfl rfl rfl rfl) rfl<|aF rfl (cI 0 rfl rfl rfl rfl rfl) rfl ?_
    refine aF rfl (Fc 1 ((at' p0.2.2 a12.1).1) (u:=vB ((Option.getD (qT ((at' p0.2.2 a12.1).1) a12.2) false))) Sf rfl rfl rfl rfl rfl (by cases qT ((at' p0.2.2 a12.1).1) a12.2<;>rfl)) rfl ?_
    refine bR rfl<|aA rfl ?_
    refine e_ (by exact rfl) (by exact rfl) (fun hp28=>?_) (fun hp28=>?_)
    ·have h:=Ak hp28 h
     refine aC rfl<|aC rfl<|aC rfl<|aC rfl<|aC rfl<|bO rfl<|aL ?_
     exact b_ (true) () h SF rfl
    have h:=rI hp28 h
    refine aF rfl (bW rfl rfl rfl rfl rfl) rfl<|aF rfl (cI 0 rfl rfl rfl rfl rfl) rfl<|bM rfl<|eM h fun r29 w30 h=>fA rfl (aR.callQ Fg (uU U (at' us17 a12.1) r29 w30) rfl (hI [0] rfl)) rfl fun x31=>aF rfl (eC rfl) rfl<|bR rfl<|aL ?_
    exact b_ ((!r29)) () h SF rfl
   intro a21 b22 h
   refine eY h rfl (fun _ h=>?_) fun _ h=>?_
   ·refine aT<|aB rfl<|aL<|aS<|aG<|bP<|aG<|aG<|bP<|aG ?_
    cases h
    exact vF rfl
   refine bJ<|aH<|aA rfl<|bQ rfl<|cM 0 rfl<|AO 1 ((at' p0.2.2 a12.1).1) true Sf rfl rfl rfl rfl rfl<|fF<|kB<|aH<|cU rfl<|aA rfl<|aL ?_
   exact eK ((wI .i64 (a12.1+(1:Int))),(xH ((at' p0.2.2 a12.1).1) true a12.2)) () h SF (bK.ix [1] rfl rfl) (hI [3,4] rfl)
  refine dY ?_
  exact bS () (()) h SF .nil (aO.refl _ _)
 intro a7 b8 h
 unfold nV at h
 refine aT<|aB rfl<|aL<|aS ?_
 cases h
 exact gU rfl
end
section
def vC  (a5:bV):Option bV:=
 some (a5)
def qC (p0:dZ) (a10:Int×bV) (ag9:(Int×bV)->Option bV):Option bV:=
 if a10.1<(List.length p0.2.1:Int)then(ck (0<=a10.1∧a10.1<(List.length p0.2.1:Int)) (ck (0<=a10.1∧a10.1<(List.length a10.2:Int)) (ag9 ((wI .i64 (a10.1+(1:Int))),(List.set a10.2 (Int.toNat a10.1) ((at' p0.2.1 a10.1).2.1))))))else(vC  (a10.2))
def wG (U:Nat) (p0:dZ):Option bV:=
 ck (0<=(List.length p0.2.1:Int)∧(List.length p0.2.1:Int)<=1099511627) (bH (qC p0) U ((0:Int),(List.replicate (Int.toNat (List.length p0.2.1:Int)) (0:Int))))
theorem Tg:bE Tryz.prog 76:=Tryz.call76
theorem GB (U:Nat) {p0:dZ} (v0:Value)  (v1:Value) (r:bV) (h:wG U p0=some r):
  aZ Tryz.prog 76 #[Value.agg #[vS (p0.1),v0,v1]] [Sl aQ v0 p0.2.1,Sl aK v1 p0.2.2] (fun x:Value=>x) (fun x l=>Ar fK x r::l) (fun _ l=>l):=by
 refine aZ.of Tryz.func76 rfl Tryz.ntmps76 rfl fun c=>?_
 refine aT<|aN (aR.box (cs:=[vS (p0.1),v0,v1]) rfl rfl) rfl fun b1=>aB rfl<|aL<|aT<|bQ rfl<|cM 0 rfl<|cY (dB rfl) rfl<|eO h fun j2 h=>aN (z_ (e:=fK) (0:Int) rfl rfl rfl rfl j2 rfl rfl rfl) rfl fun u3=>aB rfl<|aL<|aI<|cF (fun a5=>vC  a5=some r) (fun a5 b6=>[(3,u3)]) (fun a5 b6=>[Ar fK u3 a5]) ?_ ?_
 ·refine aT<|bQ rfl<|cM 1 rfl<|cY (dB rfl) rfl<|aA rfl<|aL<|aP<|eH (qC p0) (fun a10 b11=>[(3,u3),(11,v0),(12,vI (List.length p0.2.1:Int)),(13,vI (a10.1))]) (fun a10 b11=>[Ar fK u3 a10.2]) ((0:Int),(List.replicate (Int.toNat (List.length p0.2.1:Int)) (0:Int))) () h SF (bK.ix [0] rfl rfl) ?_
  intro k12 a10 b11 h
  refine aT<|cZ rfl<|aL<|aI ?_
  refine fG h rfl (fun h=>?_) fun h=>?_
  ·refine bJ<|aI<|aP<|aT<|aA rfl<|eO h fun j14 h=>aD (aU rfl rfl (dB rfl) rfl rfl j14) rfl<|aD (fO (cs:=[vS ((at' p0.2.1 a10.1).1),vI ((at' p0.2.1 a10.1).2.1),vI ((at' p0.2.1 a10.1).2.2.1),vI ((at' p0.2.1 a10.1).2.2.2.1),vI ((at' p0.2.1 a10.1).2.2.2.2.1),vI ((at' p0.2.1 a10.1).2.2.2.2.2)]) rfl (dB rfl) bU rfl rfl rfl rfl j14) rfl<|aN (aR.alloc (cs:=Wi) rfl rfl) rfl fun b15=>aB rfl<|cC 0 (vs:=[vS ((at' p0.2.1 a10.1).1),vI ((at' p0.2.1 a10.1).2.1),vI ((at' p0.2.1 a10.1).2.2.1),vI ((at' p0.2.1 a10.1).2.2.2.1),vI ((at' p0.2.1 a10.1).2.2.2.2.1),vI ((at' p0.2.1 a10.1).2.2.2.2.2)]) rfl rfl rfl rfl rfl rfl<|aL<|aH<|aA rfl<|aA rfl<|bQ rfl<|cM 0 rfl<|eO h fun j16 h=>aD (aU rfl rfl (bT (aM.res 1 rfl) jD) rfl rfl j16) rfl<|AP 1 ((at' p0.2.1 a10.1).2.1) j16 rfl rfl rfl rfl rfl rfl rfl<|fF<|kB<|aH<|cU rfl<|aA rfl<|aL ?_
   exact eK ((wI .i64 (a10.1+(1:Int))),(List.set a10.2 (Int.toNat a10.1) ((at' p0.2.1 a10.1).2.1))) () h SF (bK.ix [1] rfl rfl) (aO.refl _ _)
  refine dY ?_
  exact b_ (a10.2) () h SF rfl
 intro a5 b6 h
 unfold vC at h
 refine aT<|aA rfl<|aB rfl<|aL<|aS ?_
 cases h
 exact xL (u3) rfl rfl (RV.tmp rfl) (bK.refl _) aO.nil
end
end Go.Proofs.YthnplbmmlbnelaaGreat
end
