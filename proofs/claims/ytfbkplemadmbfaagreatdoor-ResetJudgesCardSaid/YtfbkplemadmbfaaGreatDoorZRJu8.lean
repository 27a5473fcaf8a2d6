/- Models of functions with their proofs, by program (gen/xt.py), and plain laws, in one text. Conditions: none. -/
import Derived.Test.YtfbkplemadmbfaaGreatDoorZRJu7
import Derived.Test.YtfbkplemadmbfaaGreatDoorZRJu2
import Derived.Test.YtfbkplemadmbfaaGreatDoorZRJu3
import Derived.Test.YtfbkplemadmbfaaGreatDoorZRJu1
import Derived.OpenShut
import Derived.LaidLaws
import Derived.LaidHandle
import Derived.Lay
import Derived.MakeChecks
set_option linter.unusedVariables false
set_option linter.unusedSimpArgs false
set_option maxHeartbeats 4000000
set_option maxRecDepth 20000
section
namespace Go.Proofs.YtfbkplemadmbfaaGreatDoor
open Go.Sx
def m_reset_Claim (fuel:Nat) (p0:List (Int)×(List (List (Int×Int)))):Option ((Int×Bool×Bool×Int×Int)):=
 Option.bind (m_reset_Fit fuel ((p0.1,p0.2))) fun r3=>(if(!r3)=true then(some (((0:Int),false,false,(0:Int),(0:Int))))else(Option.bind (m_graph_Eccentricity fuel ((p0.1,p0.2)) (0:Int)) fun r7=>(some (((3:Int),true,true,(wI .i64 ((wI .i64 ((7:Int)*r7))+(4:Int))),(-1:Int))))))
theorem body15:HasBody Tryz.prog 15:=Tryz.call15
theorem t_reset_Claim (fuel:Nat) {p0:List (Int)×(List (List (Int×Int)))} (v0:Value)  (v1:Value)  (z2:List (Value×List (Int×Int))) (r:(Int×Bool×Bool×Int×Int)) (h:m_reset_Claim fuel p0=some r):
  Meets Tryz.prog 15 #[Value.agg #[v0,v1]] [Sl RI64 v0 p0.1,S2 RI64I64p v1 z2 p0.2] (fun x:Unit=>Value.agg #[Value.int .i64 (r.1),Value.bool (r.2.1),Value.bool (r.2.2.1),Value.int .i64 (r.2.2.2.1),Value.int .i64 (r.2.2.2.2)]) (fun x l=>l) (fun _ l=>l):=by
 refine Meets.of (vs:=[Value.agg #[v0,v1]]) Tryz.func15 rfl Tryz.ntmps15 rfl fun c=> ?_
 unfold m_reset_Claim at h
 refine J.seq<|J.region<|J.loud (Loud.box (cs:=[v0,v1]) rfl rfl) rfl fun b1=>J.loud (Loud.alloc (cs:=[Value.int .i64 (0:Int),Value.bool (false),Value.bool (false),Value.int .i64 (0:Int),Value.int .i64 (0:Int)]) rfl rfl) rfl fun b2=>J.done<|J.thenN<|J.seq<|J.seq<|J.region<|J.quiet (Y.loadBAll 1 rfl rfl rfl rfl) rfl ?_
 have h:=bnd h;obtain⟨r3,hr4,h⟩:=h
 refine J.loud (Loud.callL body11 (t_reset_Fit fuel v0 v1 z2 r3 hr4) rfl (LentAll.cons (Lent.fact 0 rfl) (LentAll.cons (Lent.fact 1 rfl) .nil)) (fun _ _=>rfl)) rfl fun x5=>J.quiet (Y.not rfl) rfl<|J.done<|J.thenN ?_
 refine J.cond (by exact rfl) (fun hp6=> ?_) (fun hp6=> ?_)
 ·have h:=ifP hp6 h
  refine J.seq<|J.region ?_
  refine J.quiet (Y.bld0 (r:=Value.agg #[Value.int .i64 (0:Int),Value.bool (false),Value.bool (false),Value.int .i64 (0:Int),Value.int .i64 (0:Int)]) (by intro w;simp[Instr.build,Instr.fill,cells_intV,cells_boolV,cells_sliceV,cells_ptrV,cells_strV,cells_funcV,cells_agg])) rfl ?_
  refine J.storeAll 0 (vs:=[Value.int .i64 (0:Int),Value.bool (false),Value.bool (false),Value.int .i64 (0:Int),Value.int .i64 (0:Int)]) rfl rfl rfl rfl rfl rfl<|J.done<|J.thenN<|J.ret<|J.thenR ?_
  obtain rfl:=Option.some.inj h
  exact J.retG1 (()) rfl rfl (RV.cell 0 rfl rfl rfl rfl) (SubM.nil) LentAll.nil
 ·have h:=ifBN hp6 h
  refine J.skip<|J.thenN<|J.seq<|J.region<|J.quiet (Y.loadBAll 1 rfl rfl rfl rfl) rfl ?_
  have h:=bnd h;obtain⟨r7,hr8,h⟩:=h
  refine J.loud (Loud.callL body48 (t_graph_Eccentricity fuel v0 v1 z2 r7 hr8) rfl (LentAll.cons (Lent.fact 0 rfl) (LentAll.cons (Lent.fact 1 rfl) .nil)) (fun _ _=>rfl)) rfl fun x9=>J.quiet (Y.mulW rfl rfl) rfl<|J.quiet (Y.addW rfl rfl) rfl ?_
  refine J.quiet (Y.bld5 (r:=Value.agg #[Value.int .i64 (3:Int),Value.bool (true),Value.bool (true),Value.int .i64 (wI .i64 ((wI .i64 ((7:Int)*r7))+(4:Int))),Value.int .i64 (-1:Int)]) rfl rfl rfl rfl rfl (by intro w;simp[Instr.build,Instr.fill,cells_intV,cells_boolV,cells_sliceV,cells_ptrV,cells_strV,cells_funcV,cells_agg])) rfl ?_
  refine J.storeAll 0 (vs:=[Value.int .i64 (3:Int),Value.bool (true),Value.bool (true),Value.int .i64 (wI .i64 ((wI .i64 ((7:Int)*r7))+(4:Int))),Value.int .i64 (-1:Int)]) rfl rfl rfl rfl rfl rfl<|J.done<|J.thenN<|J.ret ?_
  obtain rfl:=Option.some.inj h
  exact J.retG1 (()) rfl rfl (RV.cell 0 rfl rfl rfl rfl) (SubM.nil) LentAll.nil
end Go.Proofs.YtfbkplemadmbfaaGreatDoor
end
section
namespace Go.Proofs.YtfbkplemadmbfaaGreatDoor
open Go.Sx
def m_ref38_Claim (fuel:Nat) (p0:List (Int)×(List (List (Int×Int)))):Option ((Int×Bool×Bool×Int×Int)):=
 Option.bind (m_ref38_Fit fuel ((p0.1,p0.2))) fun r3=>(if(!r3)=true then(some (((0:Int),false,false,(0:Int),(0:Int))))else(Option.bind (m_ref01_Eccentricity fuel ((p0.1,p0.2)) (0:Int)) fun r7=>(some (((3:Int),true,true,(wI .i64 ((wI .i64 ((7:Int)*r7))+(4:Int))),(-1:Int))))))
theorem body16:HasBody Tryz.prog 16:=Tryz.call16
theorem t_ref38_Claim (fuel:Nat) {p0:List (Int)×(List (List (Int×Int)))} (v0:Value)  (v1:Value)  (z2:List (Value×List (Int×Int))) (r:(Int×Bool×Bool×Int×Int)) (h:m_ref38_Claim fuel p0=some r):
  Meets Tryz.prog 16 #[Value.agg #[v0,v1]] [Sl RI64 v0 p0.1,S2 RI64I64p v1 z2 p0.2] (fun x:Unit=>Value.agg #[Value.int .i64 (r.1),Value.bool (r.2.1),Value.bool (r.2.2.1),Value.int .i64 (r.2.2.2.1),Value.int .i64 (r.2.2.2.2)]) (fun x l=>l) (fun _ l=>l):=by
 refine Meets.of (vs:=[Value.agg #[v0,v1]]) Tryz.func16 rfl Tryz.ntmps16 rfl fun c=> ?_
 unfold m_ref38_Claim at h
 refine J.seq<|J.region<|J.loud (Loud.box (cs:=[v0,v1]) rfl rfl) rfl fun b1=>J.loud (Loud.alloc (cs:=[Value.int .i64 (0:Int),Value.bool (false),Value.bool (false),Value.int .i64 (0:Int),Value.int .i64 (0:Int)]) rfl rfl) rfl fun b2=>J.done<|J.thenN<|J.seq<|J.seq<|J.region<|J.quiet (Y.loadBAll 1 rfl rfl rfl rfl) rfl ?_
 have h:=bnd h;obtain⟨r3,hr4,h⟩:=h
 refine J.loud (Loud.callL body12 (t_ref38_Fit fuel v0 v1 z2 r3 hr4) rfl (LentAll.cons (Lent.fact 0 rfl) (LentAll.cons (Lent.fact 1 rfl) .nil)) (fun _ _=>rfl)) rfl fun x5=>J.quiet (Y.not rfl) rfl<|J.done<|J.thenN ?_
 refine J.cond (by exact rfl) (fun hp6=> ?_) (fun hp6=> ?_)
 ·have h:=ifP hp6 h
  refine J.seq<|J.region ?_
  refine J.quiet (Y.bld0 (r:=Value.agg #[Value.int .i64 (0:Int),Value.bool (false),Value.bool (false),Value.int .i64 (0:Int),Value.int .i64 (0:Int)]) (by intro w;simp[Instr.build,Instr.fill,cells_intV,cells_boolV,cells_sliceV,cells_ptrV,cells_strV,cells_funcV,cells_agg])) rfl ?_
  refine J.storeAll 0 (vs:=[Value.int .i64 (0:Int),Value.bool (false),Value.bool (false),Value.int .i64 (0:Int),Value.int .i64 (0:Int)]) rfl rfl rfl rfl rfl rfl<|J.done<|J.thenN<|J.ret<|J.thenR ?_
  obtain rfl:=Option.some.inj h
  exact J.retG1 (()) rfl rfl (RV.cell 0 rfl rfl rfl rfl) (SubM.nil) LentAll.nil
 ·have h:=ifBN hp6 h
  refine J.skip<|J.thenN<|J.seq<|J.region<|J.quiet (Y.loadBAll 1 rfl rfl rfl rfl) rfl ?_
  have h:=bnd h;obtain⟨r7,hr8,h⟩:=h
  refine J.loud (Loud.callL body49 (t_ref01_Eccentricity fuel v0 v1 z2 r7 hr8) rfl (LentAll.cons (Lent.fact 0 rfl) (LentAll.cons (Lent.fact 1 rfl) .nil)) (fun _ _=>rfl)) rfl fun x9=>J.quiet (Y.mulW rfl rfl) rfl<|J.quiet (Y.addW rfl rfl) rfl ?_
  refine J.quiet (Y.bld5 (r:=Value.agg #[Value.int .i64 (3:Int),Value.bool (true),Value.bool (true),Value.int .i64 (wI .i64 ((wI .i64 ((7:Int)*r7))+(4:Int))),Value.int .i64 (-1:Int)]) rfl rfl rfl rfl rfl (by intro w;simp[Instr.build,Instr.fill,cells_intV,cells_boolV,cells_sliceV,cells_ptrV,cells_strV,cells_funcV,cells_agg])) rfl ?_
  refine J.storeAll 0 (vs:=[Value.int .i64 (3:Int),Value.bool (true),Value.bool (true),Value.int .i64 (wI .i64 ((wI .i64 ((7:Int)*r7))+(4:Int))),Value.int .i64 (-1:Int)]) rfl rfl rfl rfl rfl rfl<|J.done<|J.thenN<|J.ret ?_
  obtain rfl:=Option.some.inj h
  exact J.retG1 (()) rfl rfl (RV.cell 0 rfl rfl rfl rfl) (SubM.nil) LentAll.nil
end Go.Proofs.YtfbkplemadmbfaaGreatDoor
end
section
namespace Go.Proofs.YtfbkplemadmbfaaGreatDoor
open Go.Sx
def reset_Requests_k1  (a7:Int):Option (Int):=
 some (a7)
def reset_Requests_s1 (p1:List (List (Int))) (a12:Int×Int) (ag11:(Int×Int)->Option (Int)):Option (Int):=
 if a12.2<(List.length p1:Int)then(ck (0<=a12.2∧a12.2<(List.length p1:Int)) (ck (0<=(5:Int)∧(5:Int)<(List.length (at' p1 a12.2):Int)) (ck (0<=a12.2) (ag11 ((bOr .u32 a12.1 (bShl .u32 (wI .u32 (at' (at' p1 a12.2) (5:Int))) a12.2)),(wI .i64 (a12.2+(1:Int))))))))else(reset_Requests_k1  (a12.1))
def m_reset_Requests (fuel:Nat) (p0:List (Int)×(List (List (Int×Int)))) (p1:List (List (Int))):Option (Int):=
 Option.bind (m_reset_configuration fuel ((p0.1,p0.2)) p1) fun r2=>(if(!r2)=true then(some (0:Int))else(iter (reset_Requests_s1 p1) fuel ((0:Int),(0:Int))))
theorem body17:HasBody Tryz.prog 17:=Tryz.call17
theorem t_reset_Requests (fuel:Nat) {p0:List (Int)×(List (List (Int×Int)))} {p1:List (List (Int))} (v0:Value)  (v1:Value)  (z2:List (Value×List (Int×Int)))  (v3:Value)  (z4:List (Value×List (Int))) (r:Int) (h:m_reset_Requests fuel p0 p1=some r):
  Meets Tryz.prog 17 #[Value.agg #[v0,v1],v3] [Sl RI64 v0 p0.1,S2 RI64I64p v1 z2 p0.2,S2 RI64 v3 z4 p1] (fun x:Unit=>Value.int .u32 (r)) (fun x l=>l) (fun _ l=>l):=by
 refine Meets.of (vs:=[Value.agg #[v0,v1],v3]) Tryz.func17 rfl Tryz.ntmps17 rfl fun c=> ?_
 unfold m_reset_Requests at h
 refine J.seq<|J.region<|J.loud (Loud.box (cs:=[v0,v1]) rfl rfl) rfl fun b1=>J.quiet (Y.assign rfl) rfl<|J.done<|J.thenN<|J.seq<|J.seq<|J.region<|J.quiet (Y.loadBAll 0 rfl rfl rfl rfl) rfl<|J.quiet (Y.move rfl) rfl ?_
 have h:=bnd h;obtain⟨r2,hr3,h⟩:=h
 refine J.loud (Loud.callL body42 (t_reset_configuration fuel v0 v1 z2 v3 z4 r2 hr3) rfl (LentAll.cons (Lent.fact 0 rfl) (LentAll.cons (Lent.fact 1 rfl) (LentAll.cons (Lent.fact 2 rfl) .nil))) (fun _ _=>rfl)) rfl fun x4=>J.quiet (Y.not rfl) rfl<|J.done<|J.thenN ?_
 refine J.cond (by exact rfl) (fun hp5=> ?_) (fun hp5=> ?_)
 ·have h:=ifP hp5 h
  refine J.seq<|J.region<|J.quiet (Y.assign rfl) rfl<|J.done<|J.thenN<|J.ret<|J.thenR ?_
  obtain rfl:=Option.some.inj h
  exact J.retG1 (()) rfl rfl (RV.tmp rfl) (SubM.nil) LentAll.nil
 ·have h:=ifBN hp5 h
  refine J.skip<|J.thenN<|J.seq<|J.region<|J.quiet (Y.assign rfl) rfl<|J.done<|J.thenN<|J.seq<|J.midI (A:=Int) (B:=Unit) (fun a7=>reset_Requests_k1  a7=some r) (fun a7 b8=>[(5,Value.int .u32 (a7))]) (fun a7 b8=>[]) (fun a7 b8=>[Sl RI64 v0 p0.1,S2 RI64I64p v1 z2 p0.2,S2 RI64 v3 z4 p1]) ?_ ?_
  ·refine J.seq<|J.region<|J.quiet (Y.move rfl) rfl<|J.quiet (Y.lenN rfl (Lent.fact 2 rfl) rfl) rfl<|J.quiet (Y.move rfl) rfl<|J.done<|J.thenN<|J.block<|J.loopI (A:=Int×Int) (B:=Unit) (reset_Requests_s1 p1) (fun a12 b13=>[(5,Value.int .u32 (a12.1)),(12,v3),(13,Value.int .i64 (List.length p1:Int)),(14,Value.int .i64 (a12.2))]) (fun a12 b13=>[]) (fun a12 b13=>[Sl RI64 v0 p0.1,S2 RI64I64p v1 z2 p0.2,S2 RI64 v3 z4 p1]) ((0:Int),(0:Int)) (()) h SF (SubM.nil) (LentAll.refl _ _) ?_
   clear h
   intro k14 a12 b13 h
   unfold reset_Requests_s1 at h
   refine J.seq<|J.region<|J.quiet (Y.lss rfl rfl) rfl<|J.done<|J.thenN<|J.seq ?_
   refine J.condD (by exact rfl) (fun hp15=> ?_) (fun hp15=> ?_)
   ·have h:=ifP hp15 h
    refine J.skip<|J.thenN<|J.seq<|J.block<|J.seq<|J.region<|J.quiet (Y.move rfl) rfl ?_
    have h:=ck_some h;obtain⟨hc16,h⟩:=h
    refine J.quiet (Y.indexN rfl rfl (Lent.fact 2 rfl) rfl rfl hc16) rfl<|J.quiet (Y.loadRow rfl (Lent.fact 2 rfl) rfl rfl hc16) rfl<|J.quiet (Y.assign rfl) rfl<|J.quiet (Y.assign rfl) rfl<|J.done<|J.thenN<|J.region<|J.quiet (Y.move rfl) rfl<|J.quiet (Y.move rfl) rfl ?_
    have h:=ck_some h;obtain⟨hc17,h⟩:=h
    refine J.quiet (Y.indexS rfl rfl (Lent.el (Lent.fact 2 rfl) hc16.1 hc16.2) rfl rfl hc17) rfl<|J.quiet (Y.loadS0 rfl (Lent.el (Lent.fact 2 rfl) hc16.1 hc16.2) rfl rfl rfl RI64c0 hc17) rfl<|J.quiet (Y.conv rfl rfl rfl) rfl<|J.quiet (Y.move rfl) rfl ?_
    have h:=ck_some h;obtain⟨hc18,h⟩:=h
    refine J.quiet (Y.shl rfl rfl hc18) rfl<|J.quiet (Y.or rfl rfl) rfl<|J.quiet (Y.assign rfl) rfl<|J.done<|J.inN<|J.thenN<|J.region<|J.quiet (Y.addW rfl rfl) rfl<|J.quiet (Y.move rfl) rfl<|J.done<|J.thenN ?_
    exact J.againI ((bOr .u32 a12.1 (bShl .u32 (wI .u32 (at' (at' p1 a12.2) (5:Int))) a12.2)),(wI .i64 (a12.2+(1:Int)))) (()) h SF (SubM.refl _) (LentAll.refl _ _)
   ·have h:=ifN hp15 h
    refine J.exit<|J.thenX<|J.thenX<|J.inX<|J.thenN ?_
    exact J.meetI (a12.1) (()) h SF (SubM.refl _) (LentAll.refl _ _)
  ·clear h
   intro a7 b8 h
   unfold reset_Requests_k1 at h
   refine J.seq<|J.region<|J.quiet (Y.move rfl) rfl<|J.quiet (Y.assign rfl) rfl<|J.done<|J.thenN<|J.ret ?_
   obtain rfl:=Option.some.inj h
   exact J.retG1 (()) rfl rfl (RV.tmp rfl) (SubM.refl _) LentAll.nil
end Go.Proofs.YtfbkplemadmbfaaGreatDoor
end
section
namespace Go.Proofs.YtfbkplemadmbfaaGreatDoor
open Go.Sx
def ref31_Ones_k1  (a2:Int):Option (Int):=
 some (a2)
def ref31_Ones_k2 (a7:Int×Int) (ag6:(Int×Int)->Option (Int)) (a12:Int):Option (Int):=
 ag6 (a12,(wI .i64 (a7.2+(1:Int))))
def ref31_Ones_s1 (p0:List (List (Int))) (p1:Int) (a7:Int×Int) (ag6:(Int×Int)->Option (Int)):Option (Int):=
 if a7.2<(List.length p0:Int)then(ck (0<=a7.2∧a7.2<(List.length p0:Int)) (ck (0<=p1∧p1<(List.length (at' p0 a7.2):Int)) (if(at' (at' p0 a7.2) p1)=(1:Int)then(ck (0<=(wI .u64 a7.2)) (ref31_Ones_k2 a7 ag6 (bOr .u32 a7.1 (bShl .u32 (1:Int) (wI .u64 a7.2)))))else(ref31_Ones_k2 a7 ag6 (a7.1)))))else(ref31_Ones_k1  (a7.1))
def m_ref31_Ones (fuel:Nat) (p0:List (List (Int))) (p1:Int):Option (Int):=
 iter (ref31_Ones_s1 p0 p1) fuel ((0:Int),(0:Int))
theorem body50:HasBody Tryz.prog 50:=Tryz.call50
theorem t_ref31_Ones (fuel:Nat) {p0:List (List (Int))} {p1:Int} (v0:Value)  (z1:List (Value×List (Int))) (r:Int) (h:m_ref31_Ones fuel p0 p1=some r):
  Meets Tryz.prog 50 #[v0,Value.int .i64 (p1)] [S2 RI64 v0 z1 p0] (fun x:Unit=>Value.int .u32 (r)) (fun x l=>l) (fun _ l=>l):=by
 refine Meets.of (vs:=[v0,Value.int .i64 (p1)]) Tryz.func50 rfl Tryz.ntmps50 rfl fun c=> ?_
 unfold m_ref31_Ones at h
 refine J.seq<|J.region<|J.quiet (Y.assign rfl) rfl<|J.done<|J.thenN<|J.seq<|J.region<|J.quiet (Y.assign rfl) rfl<|J.done<|J.thenN<|J.seq<|J.midI (A:=Int) (B:=Unit) (fun a2=>ref31_Ones_k1  a2=some r) (fun a2 b3=>[(5,Value.int .u32 (a2))]) (fun a2 b3=>[]) (fun a2 b3=>[S2 RI64 v0 z1 p0]) ?_ ?_
 ·refine J.seq<|J.region<|J.quiet (Y.assign rfl) rfl<|J.done<|J.thenN<|J.block<|J.loopI (A:=Int×Int) (B:=Unit) (ref31_Ones_s1 p0 p1) (fun a7 b8=>[(0,v0),(1,Value.int .i64 (p1)),(5,Value.int .u32 (a7.1)),(6,Value.int .i64 (a7.2))]) (fun a7 b8=>[]) (fun a7 b8=>[S2 RI64 v0 z1 p0]) ((0:Int),(0:Int)) (()) h SF (SubM.refl _) (LentAll.refl _ _) ?_
  clear h
  intro k9 a7 b8 h
  unfold ref31_Ones_s1 at h
  refine J.seq<|J.seq<|J.region<|J.quiet (Y.move rfl) rfl<|J.quiet (Y.move rfl) rfl<|J.quiet (Y.lenN rfl (Lent.fact 0 rfl) rfl) rfl<|J.quiet (Y.lss rfl rfl) rfl<|J.done<|J.thenN ?_
  refine J.condD (by exact rfl) (fun hp10=> ?_) (fun hp10=> ?_)
  ·have h:=ifP hp10 h
   refine J.skip<|J.thenN<|J.seq<|J.midI (A:=Int) (B:=Unit) (fun a12=>ref31_Ones_k2 a7 (iter (ref31_Ones_s1 p0 p1) k9) a12=some r) (fun a12 b13=>[(0,v0),(1,Value.int .i64 (p1)),(5,Value.int .u32 (a12)),(6,Value.int .i64 (a7.2))]) (fun a12 b13=>[]) (fun a12 b13=>[S2 RI64 v0 z1 p0]) ?_ ?_
   ·refine J.block<|J.seq<|J.region<|J.quiet (Y.move rfl) rfl<|J.quiet (Y.move rfl) rfl ?_
    have h:=ck_some h;obtain⟨hc14,h⟩:=h
    refine J.quiet (Y.indexN rfl rfl (Lent.fact 0 rfl) rfl rfl hc14) rfl<|J.quiet (Y.loadRow rfl (Lent.fact 0 rfl) rfl rfl hc14) rfl<|J.quiet (Y.move rfl) rfl ?_
    have h:=ck_some h;obtain⟨hc15,h⟩:=h
    refine J.quiet (Y.indexS rfl rfl (Lent.el (Lent.fact 0 rfl) hc14.1 hc14.2) rfl rfl hc15) rfl<|J.quiet (Y.loadS0 rfl (Lent.el (Lent.fact 0 rfl) hc14.1 hc14.2) rfl rfl rfl RI64c0 hc15) rfl<|J.quiet (Y.eql rfl rfl) rfl<|J.done<|J.thenN ?_
    refine J.condD (by exact rfl) (fun hp16=> ?_) (fun hp16=> ?_)
    ·have h:=ifP hp16 h
     refine J.region<|J.quiet (Y.move rfl) rfl<|J.quiet (Y.move rfl) rfl<|J.quiet (Y.conv rfl rfl rfl) rfl ?_
     have h:=ck_some h;obtain⟨hc17,h⟩:=h
     refine J.quiet (Y.shl rfl rfl hc17) rfl<|J.quiet (Y.or rfl rfl) rfl<|J.quiet (Y.assign rfl) rfl<|J.done<|J.inN<|J.thenN ?_
     exact J.meetI (bOr .u32 a7.1 (bShl .u32 (1:Int) (wI .u64 a7.2))) (()) h SF (SubM.refl _) (LentAll.refl _ _)
    ·have h:=ifN hp16 h
     refine J.skip<|J.inN<|J.thenN ?_
     exact J.meetI (a7.1) (()) h SF (SubM.refl _) (LentAll.refl _ _)
   ·clear h
    intro a12 b13 h
    unfold ref31_Ones_k2 at h
    refine J.region<|J.quiet (Y.move rfl) rfl<|J.quiet (Y.addW rfl rfl) rfl<|J.quiet (Y.assign rfl) rfl<|J.done<|J.thenN ?_
    exact J.againI (a12,(wI .i64 (a7.2+(1:Int)))) (()) h SF (SubM.refl _) (LentAll.refl _ _)
  ·have h:=ifN hp10 h
   refine J.exit<|J.thenX<|J.thenX<|J.inX<|J.thenN ?_
   exact J.meetI (a7.1) (()) h SF (SubM.refl _) (LentAll.refl _ _)
 ·clear h
  intro a2 b3 h
  unfold ref31_Ones_k1 at h
  refine J.seq<|J.region<|J.quiet (Y.move rfl) rfl<|J.quiet (Y.assign rfl) rfl<|J.done<|J.thenN<|J.ret ?_
  obtain rfl:=Option.some.inj h
  exact J.retG1 (()) rfl rfl (RV.tmp rfl) (SubM.refl _) LentAll.nil
end Go.Proofs.YtfbkplemadmbfaaGreatDoor
end
section
namespace Go.Proofs.YtfbkplemadmbfaaGreatDoor
open Go.Sx
def ref38_Requests_k1 (fuel:Nat) (p1:List (List (Int))) (a3:Bool):Option (Int):=
 if a3=true then(some (0:Int))else(Option.bind (m_ref31_Ones fuel p1 (5:Int)) fun r6=>(some (r6)))
def m_ref38_Requests (fuel:Nat) (p0:List (Int)×(List (List (Int×Int)))) (p1:List (List (Int))):Option (Int):=
 Option.bind (m_ref38_Fit fuel ((p0.1,p0.2))) fun r9=>(if(!r9)=true then(ref38_Requests_k1 fuel p1 (true))else(Option.bind (m_ref38_Vars fuel) fun r13=>(Option.bind (m_ref23_Config fuel ((p0.1,p0.2)) p1 r13) fun r16=>(ref38_Requests_k1 fuel p1 ((!r16))))))
theorem body18:HasBody Tryz.prog 18:=Tryz.call18
theorem t_ref38_Requests (fuel:Nat) {p0:List (Int)×(List (List (Int×Int)))} {p1:List (List (Int))} (v0:Value)  (v1:Value)  (z2:List (Value×List (Int×Int)))  (v3:Value)  (z4:List (Value×List (Int))) (r:Int) (h:m_ref38_Requests fuel p0 p1=some r):
  Meets Tryz.prog 18 #[Value.agg #[v0,v1],v3] [Sl RI64 v0 p0.1,S2 RI64I64p v1 z2 p0.2,S2 RI64 v3 z4 p1] (fun x:Unit=>Value.int .u32 (r)) (fun x l=>l) (fun _ l=>l):=by
 refine Meets.of (vs:=[Value.agg #[v0,v1],v3]) Tryz.func18 rfl Tryz.ntmps18 rfl fun c=> ?_
 unfold m_ref38_Requests at h
 refine J.seq<|J.region<|J.loud (Loud.box (cs:=[v0,v1]) rfl rfl) rfl fun b1=>J.quiet (Y.assign rfl) rfl<|J.done<|J.thenN<|J.seq<|J.seq<|J.midI (A:=Bool) (B:=Unit) (fun a3=>ref38_Requests_k1 fuel p1 a3=some r) (fun a3 b4=>[(1,v3),(14,Value.bool (a3))]) (fun a3 b4=>[]) (fun a3 b4=>[Sl RI64 v0 p0.1,S2 RI64I64p v1 z2 p0.2,S2 RI64 v3 z4 p1]) ?_ ?_
 ·refine JR.start [0,1,3,7,15,15,15,127,255,511] 7 mixedOrders (by decide +kernel) ?_
  refine JR.open (by exact rfl) ?_
  refine JR.qt rfl (SubM.refl _) (SubL.nil) (Y.loadBAll 0 rfl rfl rfl rfl) HistOk.z ?_
  have h:=bnd h;obtain⟨r9,hr10,h⟩:=h
  refine JR.loud rfl rfl rfl (Loud.callL body12 (t_ref38_Fit fuel v0 v1 z2 r9 hr10) rfl (LentAll.cons (Lent.fact 0 rfl) (LentAll.cons (Lent.fact 1 rfl) .nil)) (fun _ _=>rfl)) rfl (fun x11=>(BsOk.b rfl BsOk.z)) fun x11=>JR.qt rfl (SubM.nil) (SubL.nil) (Y.not rfl) (HistOk.b rfl HistOk.z)<|JR.qt rfl (SubM.nil) (SubL.nil) (Y.move rfl) (HistOk.b rfl HistOk.z) ?_
  refine JR.guard (by exact rfl) (by exact rfl) (by exact rfl) (fun hp12=> ?_) (fun hp12=> ?_)
  ·have h:=ifP hp12 h
   refine JR.guardN rfl rfl rfl rfl<|JR.guardN rfl rfl rfl rfl<|JR.guardN rfl rfl rfl rfl<|JR.tailD 7 rfl rfl<|J.guardN rfl rfl rfl<|J.guardN rfl rfl rfl<|J.quiet (Y.pickT rfl rfl) rfl<|J.done<|J.thenN ?_
   exact J.meetI (true) (()) h SF (SubM.nil) (LentAll.refl _ _)
  ·have h:=ifBN hp12 h
   refine JR.qtG rfl (SubM.refl _) (SubL.nil) (Y.loadBAll 0 rfl rfl rfl rfl) (HistOk.b rfl HistOk.z)<|JR.qtG rfl (SubM.nil) (SubL.nil) (Y.move rfl) (HistOk.b rfl HistOk.z) ?_
   have h:=bnd h;obtain⟨r13,hr14,h⟩:=h
   refine JR.loudG rfl rfl rfl rfl (Loud.callL body46 (t_ref38_Vars fuel  r13 hr14) rfl .nil (fun _ _=>rfl)) rfl (fun x15=>(BsOk.h (SubM.nil) (SubL.nil) (BsOk.h (SubM.cons 1 rfl (SubM.nil)) (SubL.nil) (BsOk.b rfl (BsOk.b rfl (BsOk.b rfl BsOk.z)))))) fun x15=>JR.tailD 7 rfl rfl ?_
   have h:=bnd h;obtain⟨r16,hr17,h⟩:=h
   refine J.loudG rfl (Loud.callL body45 (t_ref23_Config fuel v0 v1 z2 v3 z4 x15 r16 hr17) rfl (LentAll.cons (Lent.fact 0 rfl) (LentAll.cons (Lent.fact 1 rfl) (LentAll.cons (Lent.fact 2 rfl) (LentAll.cons (Lent.ar (Lent.res 0 rfl) FStI64I64I64I64I64p) .nil)))) (fun _ _=>rfl)) rfl fun x18=>J.guardY rfl (Y.not rfl) rfl<|J.quiet (Y.pickF rfl rfl) rfl<|J.done<|J.thenN ?_
   exact J.meetI ((!r16)) (()) h SF (SubM.nil) (LentAll.refl _ _)
 ·clear h
  intro a3 b4 h
  unfold ref38_Requests_k1 at h
  refine J.cond (by exact rfl) (fun hp5=> ?_) (fun hp5=> ?_)
  ·have h:=ifP hp5 h
   refine J.seq<|J.region<|J.quiet (Y.assign rfl) rfl<|J.done<|J.thenN<|J.ret<|J.thenR ?_
   obtain rfl:=Option.some.inj h
   exact J.retG1 (()) rfl rfl (RV.tmp rfl) (SubM.refl _) LentAll.nil
  ·have h:=ifBN hp5 h
   refine J.skip<|J.thenN<|J.seq<|J.region<|J.quiet (Y.move rfl) rfl ?_
   have h:=bnd h;obtain⟨r6,hr7,h⟩:=h
   refine J.loud (Loud.callL body50 (t_ref31_Ones fuel v3 z4 r6 hr7) rfl (LentAll.cons (Lent.fact 2 rfl) .nil) (fun _ _=>rfl)) rfl fun x8=>J.quiet (Y.assign rfl) rfl<|J.done<|J.thenN<|J.ret ?_
   obtain rfl:=Option.some.inj h
   exact J.retG1 (()) rfl rfl (RV.tmp rfl) (SubM.refl _) LentAll.nil
end Go.Proofs.YtfbkplemadmbfaaGreatDoor
end
section
namespace Go.Proofs.YtfbkplemadmbfaaGreatDoor
open Go.Sx
def law38_ResetJudges_k1  (a10:Bool):Option (Bool):=
 some (a10)
def m_law38_ResetJudges (fuel:Nat) (p0:List (Int)×(List (List (Int×Int)))) (p1:List (List (Int))):Option (Bool):=
 Option.bind (m_law38_large fuel ((p0.1,p0.2)) p1) fun r2=>(if r2=true then(Option.bind (m_law38_known fuel) fun r6=>(some (r6)))else(Option.bind (m_law38_known fuel) fun r12=>(if r12=true then(Option.bind (m_reset_Fit fuel ((p0.1,p0.2))) fun r16=>(Option.bind (m_ref38_Fit fuel ((p0.1,p0.2))) fun r19=>(if(r16==r19)=true then(Option.bind (m_reset_Legit fuel ((p0.1,p0.2)) p1) fun r23=>(Option.bind (m_ref38_Legit fuel ((p0.1,p0.2)) p1) fun r26=>(if(r23==r26)=true then(Option.bind (m_reset_Claim fuel ((p0.1,p0.2))) fun r30=>(Option.bind (m_ref38_Claim fuel ((p0.1,p0.2))) fun r33=>(if(r30.1,r30.2.1,r30.2.2.1,r30.2.2.2.1,r30.2.2.2.2)=(r33.1,r33.2.1,r33.2.2.1,r33.2.2.2.1,r33.2.2.2.2)then(Option.bind (m_reset_Requests fuel ((p0.1,p0.2)) p1) fun r37=>(Option.bind (m_ref38_Requests fuel ((p0.1,p0.2)) p1) fun r40=>(law38_ResetJudges_k1  (decide (r37=r40)))))else(law38_ResetJudges_k1  (false)))))else(law38_ResetJudges_k1  (false)))))else(law38_ResetJudges_k1  (false)))))else(law38_ResetJudges_k1  (false)))))
theorem t_law38_ResetJudges (fuel:Nat) {p0:List (Int)×(List (List (Int×Int)))} {p1:List (List (Int))} (v0:Value)  (v1:Value)  (z2:List (Value×List (Int×Int)))  (v3:Value)  (z4:List (Value×List (Int))) (r:Bool) (h:m_law38_ResetJudges fuel p0 p1=some r):
  Meets Tryz.prog 4 #[Value.agg #[v0,v1],v3] [Sl RI64 v0 p0.1,S2 RI64I64p v1 z2 p0.2,S2 RI64 v3 z4 p1,Gb 0 (cellsOf EU8 tab0)] (fun x:Unit=>Value.bool (r)) (fun x l=>l) (fun _ l=>l):=by
 refine Meets.of (vs:=[Value.agg #[v0,v1],v3]) Tryz.func4 rfl Tryz.ntmps4 rfl fun c=> ?_
 unfold m_law38_ResetJudges at h
 refine J.seq<|J.region<|J.loud (Loud.box (cs:=[v0,v1]) rfl rfl) rfl fun b1=>J.quiet (Y.assign rfl) rfl<|J.done<|J.thenN<|J.seq<|J.seq<|J.region<|J.quiet (Y.loadBAll 0 rfl rfl rfl rfl) rfl<|J.quiet (Y.move rfl) rfl ?_
 have h:=bnd h;obtain⟨r2,hr3,h⟩:=h
 refine J.loud (Loud.callL body9 (t_law38_large fuel v0 v1 z2 v3 z4 r2 hr3) rfl (LentAll.cons (Lent.fact 0 rfl) (LentAll.cons (Lent.fact 1 rfl) (LentAll.cons (Lent.fact 2 rfl) .nil))) (fun _ _=>rfl)) rfl fun x4=>J.done<|J.thenN ?_
 refine J.cond (by exact rfl) (fun hp5=> ?_) (fun hp5=> ?_)
 ·have h:=ifP hp5 h
  refine J.seq<|J.region ?_
  have h:=bnd h;obtain⟨r6,hr7,h⟩:=h
  refine J.loud (Loud.callL body10 (t_law38_known fuel  r6 hr7) rfl (LentAll.cons (Lent.fact 3 rfl) .nil) (fun _ _=>rfl)) rfl fun x8=>J.quiet (Y.assign rfl) rfl<|J.done<|J.thenN<|J.ret<|J.thenR ?_
  obtain rfl:=Option.some.inj h
  exact J.retG1 (()) rfl rfl (RV.tmp rfl) (SubM.nil) LentAll.nil
 ·have h:=ifBN hp5 h
  refine J.skip<|J.thenN<|J.seq<|J.midI (A:=Bool) (B:=Unit) (fun a10=>law38_ResetJudges_k1  a10=some r) (fun a10 b11=>[(4,Value.bool (a10))]) (fun a10 b11=>[]) (fun a10 b11=>[Sl RI64 v0 p0.1,S2 RI64I64p v1 z2 p0.2,S2 RI64 v3 z4 p1,Gb 0 (cellsOf EU8 tab0)]) ?_ ?_
  ·refine JR.start [0,1,3,7,3,31,63,127,255,511,511,2047,511,511,16383,32767,65535,131071,262143,524287,262143,2097151,4194303,8388607,16777215,33554431,33554431,134217727,33554431,33554431,1073741823,2147483647,4294967295,8589934591] 30 mixedOrders (by decide +kernel) ?_
   refine JR.open (by exact rfl) ?_
   have h:=bnd h;obtain⟨r12,hr13,h⟩:=h
   refine JR.loud rfl rfl rfl (Loud.callL body10 (t_law38_known fuel  r12 hr13) rfl (LentAll.cons (Lent.fact 3 rfl) .nil) (fun _ _=>rfl)) rfl (fun x14=>BsOk.z) fun x14=>JR.qt rfl (SubM.nil) (SubL.nil) (Y.move rfl) (HistOk.b rfl HistOk.z) ?_
   refine JR.guard (by exact rfl) (by exact rfl) (by exact rfl) (fun hp15=> ?_) (fun hp15=> ?_)
   ·have h:=ifP hp15 h
    refine JR.qtG rfl (SubM.refl _) (SubL.nil) (Y.loadBAll 0 rfl rfl rfl rfl) (HistOk.b rfl HistOk.z) ?_
    have h:=bnd h;obtain⟨r16,hr17,h⟩:=h
    refine JR.loudG rfl rfl rfl rfl (Loud.callL body11 (t_reset_Fit fuel v0 v1 z2 r16 hr17) rfl (LentAll.cons (Lent.fact 0 rfl) (LentAll.cons (Lent.fact 1 rfl) .nil)) (fun _ _=>rfl)) rfl (fun x18=>(BsOk.b rfl (BsOk.b rfl BsOk.z))) fun x18=>JR.qtG rfl (SubM.refl _) (SubL.nil) (Y.loadBAll 0 rfl rfl rfl rfl) (HistOk.h (SubM.cons 0 rfl (SubM.nil)) (SubL.nil) (HistOk.b rfl HistOk.z)) ?_
    have h:=bnd h;obtain⟨r19,hr20,h⟩:=h
    refine JR.loudG rfl rfl rfl rfl (Loud.callL body12 (t_ref38_Fit fuel v0 v1 z2 r19 hr20) rfl (LentAll.cons (Lent.fact 0 rfl) (LentAll.cons (Lent.fact 1 rfl) .nil)) (fun _ _=>rfl)) rfl (fun x21=>(BsOk.b rfl (BsOk.b rfl (BsOk.b rfl BsOk.z)))) fun x21=>JR.qtG rfl (SubM.nil) (SubL.nil) (Y.eqlB rfl rfl rfl) (HistOk.b rfl (HistOk.b rfl (HistOk.b rfl HistOk.z)))<|JR.qt rfl (SubM.nil) (SubL.nil) (Y.pickT rfl rfl) (HistOk.b rfl (HistOk.b rfl (HistOk.b rfl HistOk.z)))<|JR.qt rfl (SubM.nil) (SubL.nil) (Y.move rfl) (HistOk.b rfl (HistOk.b rfl (HistOk.b rfl HistOk.z))) ?_
    refine JR.guard (by exact rfl) (by exact rfl) (by exact rfl) (fun hp22=> ?_) (fun hp22=> ?_)
    ·have h:=ifP hp22 h
     refine JR.qtG rfl (SubM.refl _) (SubL.nil) (Y.loadBAll 0 rfl rfl rfl rfl) (HistOk.b rfl (HistOk.b rfl (HistOk.b rfl HistOk.z)))<|JR.qtG rfl (SubM.nil) (SubL.nil) (Y.move rfl) (HistOk.b rfl (HistOk.b rfl (HistOk.b rfl HistOk.z))) ?_
     have h:=bnd h;obtain⟨r23,hr24,h⟩:=h
     refine JR.loudG rfl rfl rfl rfl (Loud.callL body13 (t_reset_Legit fuel v0 v1 z2 v3 z4 r23 hr24) rfl (LentAll.cons (Lent.fact 0 rfl) (LentAll.cons (Lent.fact 1 rfl) (LentAll.cons (Lent.fact 2 rfl) .nil))) (fun _ _=>rfl)) rfl (fun x25=>(BsOk.b rfl (BsOk.b rfl (BsOk.b rfl (BsOk.b rfl (BsOk.b rfl (BsOk.b rfl (BsOk.b rfl (BsOk.b rfl BsOk.z))))))))) fun x25=>JR.qtG rfl (SubM.refl _) (SubL.nil) (Y.loadBAll 0 rfl rfl rfl rfl) (HistOk.h (SubM.cons 0 rfl (SubM.nil)) (SubL.nil) (HistOk.b rfl (HistOk.b rfl (HistOk.b rfl HistOk.z))))<|JR.qtG rfl (SubM.nil) (SubL.nil) (Y.move rfl) (HistOk.h (SubM.nil) (SubL.nil) (HistOk.b rfl (HistOk.b rfl (HistOk.b rfl HistOk.z)))) ?_
     have h:=bnd h;obtain⟨r26,hr27,h⟩:=h
     refine JR.loudG rfl rfl rfl rfl (Loud.callL body14 (t_ref38_Legit fuel v0 v1 z2 v3 z4 r26 hr27) rfl (LentAll.cons (Lent.fact 0 rfl) (LentAll.cons (Lent.fact 1 rfl) (LentAll.cons (Lent.fact 2 rfl) .nil))) (fun _ _=>rfl)) rfl (fun x28=>(BsOk.b rfl (BsOk.b rfl (BsOk.b rfl (BsOk.b rfl (BsOk.b rfl (BsOk.b rfl (BsOk.b rfl (BsOk.b rfl (BsOk.b rfl (BsOk.b rfl BsOk.z))))))))))) fun x28=>JR.qtG rfl (SubM.nil) (SubL.nil) (Y.eqlB rfl rfl rfl) (HistOk.b rfl (HistOk.b rfl (HistOk.b rfl (HistOk.b rfl (HistOk.b rfl HistOk.z)))))<|JR.qt rfl (SubM.nil) (SubL.nil) (Y.pickT rfl rfl) (HistOk.b rfl (HistOk.b rfl (HistOk.b rfl (HistOk.b rfl (HistOk.b rfl HistOk.z)))))<|JR.qt rfl (SubM.nil) (SubL.nil) (Y.move rfl) (HistOk.b rfl (HistOk.b rfl (HistOk.b rfl (HistOk.b rfl (HistOk.b rfl HistOk.z))))) ?_
     refine JR.guard (by exact rfl) (by exact rfl) (by exact rfl) (fun hp29=> ?_) (fun hp29=> ?_)
     ·have h:=ifP hp29 h
      refine JR.qtG rfl (SubM.refl _) (SubL.nil) (Y.loadBAll 0 rfl rfl rfl rfl) (HistOk.b rfl (HistOk.b rfl (HistOk.b rfl (HistOk.b rfl (HistOk.b rfl HistOk.z))))) ?_
      have h:=bnd h;obtain⟨r30,hr31,h⟩:=h
      refine JR.loudG rfl rfl rfl rfl (Loud.callL body15 (t_reset_Claim fuel v0 v1 z2 r30 hr31) rfl (LentAll.cons (Lent.fact 0 rfl) (LentAll.cons (Lent.fact 1 rfl) .nil)) (fun _ _=>rfl)) rfl (fun x32=>(BsOk.b rfl (BsOk.b rfl (BsOk.b rfl (BsOk.b rfl (BsOk.b rfl (BsOk.b rfl (BsOk.b rfl (BsOk.b rfl (BsOk.b rfl (BsOk.b rfl (BsOk.b rfl (BsOk.b rfl (BsOk.b rfl (BsOk.b rfl BsOk.z))))))))))))))) fun x32=>JR.qtG rfl (SubM.refl _) (SubL.nil) (Y.loadBAll 0 rfl rfl rfl rfl) (HistOk.h (SubM.cons 0 rfl (SubM.nil)) (SubL.nil) (HistOk.b rfl (HistOk.b rfl (HistOk.b rfl (HistOk.b rfl (HistOk.b rfl HistOk.z)))))) ?_
      have h:=bnd h;obtain⟨r33,hr34,h⟩:=h
      refine JR.loudG rfl rfl rfl rfl (Loud.callL body16 (t_ref38_Claim fuel v0 v1 z2 r33 hr34) rfl (LentAll.cons (Lent.fact 0 rfl) (LentAll.cons (Lent.fact 1 rfl) .nil)) (fun _ _=>rfl)) rfl (fun x35=>(BsOk.b rfl (BsOk.b rfl (BsOk.b rfl (BsOk.b rfl (BsOk.b rfl (BsOk.b rfl (BsOk.b rfl (BsOk.b rfl (BsOk.b rfl (BsOk.b rfl (BsOk.b rfl (BsOk.b rfl (BsOk.b rfl (BsOk.b rfl (BsOk.b rfl BsOk.z)))))))))))))))) fun x35=>JR.qtG rfl (SubM.nil) (SubL.nil) (Y.eqA rfl rfl (eq_T34 (r30.1,r30.2.1,r30.2.2.1,r30.2.2.2.1,r30.2.2.2.2) (r33.1,r33.2.1,r33.2.2.1,r33.2.2.2.1,r33.2.2.2.2) _ _)) (HistOk.b rfl (HistOk.b rfl (HistOk.b rfl (HistOk.b rfl (HistOk.b rfl (HistOk.b rfl (HistOk.b rfl HistOk.z)))))))<|JR.qt rfl (SubM.nil) (SubL.nil) (Y.pickT rfl rfl) (HistOk.b rfl (HistOk.b rfl (HistOk.b rfl (HistOk.b rfl (HistOk.b rfl (HistOk.b rfl (HistOk.b rfl HistOk.z)))))))<|JR.qt rfl (SubM.nil) (SubL.nil) (Y.move rfl) (HistOk.b rfl (HistOk.b rfl (HistOk.b rfl (HistOk.b rfl (HistOk.b rfl (HistOk.b rfl (HistOk.b rfl HistOk.z))))))) ?_
      refine JR.guardD (by exact rfl) (by exact rfl) (by exact rfl) (fun hp36=> ?_) (fun hp36=> ?_)
      ·have h:=ifP hp36 h
       refine JR.qtG rfl (SubM.refl _) (SubL.nil) (Y.loadBAll 0 rfl rfl rfl rfl) (HistOk.b rfl (HistOk.b rfl (HistOk.b rfl (HistOk.b rfl (HistOk.b rfl (HistOk.b rfl (HistOk.b rfl HistOk.z)))))))<|JR.qtG rfl (SubM.nil) (SubL.nil) (Y.move rfl) (HistOk.b rfl (HistOk.b rfl (HistOk.b rfl (HistOk.b rfl (HistOk.b rfl (HistOk.b rfl (HistOk.b rfl HistOk.z))))))) ?_
       have h:=bnd h;obtain⟨r37,hr38,h⟩:=h
       refine JR.loudG rfl rfl rfl rfl (Loud.callL body17 (t_reset_Requests fuel v0 v1 z2 v3 z4 r37 hr38) rfl (LentAll.cons (Lent.fact 0 rfl) (LentAll.cons (Lent.fact 1 rfl) (LentAll.cons (Lent.fact 2 rfl) .nil))) (fun _ _=>rfl)) rfl (fun x39=>(BsOk.b rfl (BsOk.b rfl (BsOk.b rfl (BsOk.b rfl (BsOk.b rfl (BsOk.b rfl (BsOk.b rfl (BsOk.b rfl (BsOk.b rfl (BsOk.b rfl (BsOk.b rfl (BsOk.b rfl (BsOk.b rfl (BsOk.b rfl (BsOk.b rfl (BsOk.b rfl (BsOk.b rfl (BsOk.b rfl (BsOk.b rfl (BsOk.b rfl BsOk.z))))))))))))))))))))) fun x39=>JR.qtG rfl (SubM.refl _) (SubL.nil) (Y.loadBAll 0 rfl rfl rfl rfl) (HistOk.h (SubM.cons 0 rfl (SubM.nil)) (SubL.nil) (HistOk.b rfl (HistOk.b rfl (HistOk.b rfl (HistOk.b rfl (HistOk.b rfl (HistOk.b rfl (HistOk.b rfl HistOk.z))))))))<|JR.qtG rfl (SubM.nil) (SubL.nil) (Y.move rfl) (HistOk.h (SubM.nil) (SubL.nil) (HistOk.b rfl (HistOk.b rfl (HistOk.b rfl (HistOk.b rfl (HistOk.b rfl (HistOk.b rfl (HistOk.b rfl HistOk.z))))))))<|JR.tailD 30 rfl rfl ?_
       have h:=bnd h;obtain⟨r40,hr41,h⟩:=h
       refine J.loudG rfl (Loud.callL body18 (t_ref38_Requests fuel v0 v1 z2 v3 z4 r40 hr41) rfl (LentAll.cons (Lent.fact 0 rfl) (LentAll.cons (Lent.fact 1 rfl) (LentAll.cons (Lent.fact 2 rfl) .nil))) (fun _ _=>rfl)) rfl fun x42=>J.guardY rfl (Y.eql rfl rfl) rfl<|J.quiet (Y.pickT rfl rfl) rfl<|J.quiet (Y.assign rfl) rfl<|J.done<|J.thenN ?_
       exact J.meetI (decide (r37=r40)) (()) h SF (SubM.nil) (LentAll.refl _ _)
      ·have h:=ifN hp36 h
       refine JR.guardN rfl rfl rfl rfl<|JR.guardN rfl rfl rfl rfl<|JR.guardN rfl rfl rfl rfl<|JR.guardN rfl rfl rfl rfl<|JR.guardN rfl rfl rfl rfl<|JR.tailD 30 rfl rfl<|J.guardN rfl rfl rfl<|J.guardN rfl rfl rfl<|J.quiet (Y.pickF rfl rfl) rfl<|J.quiet (Y.assign rfl) rfl<|J.done<|J.thenN ?_
       exact J.meetI (false) (()) h SF (SubM.nil) (LentAll.refl _ _)
     ·have h:=ifBN hp29 h
      refine JR.guardN rfl rfl rfl rfl<|JR.guardN rfl rfl rfl rfl<|JR.guardN rfl rfl rfl rfl<|JR.guardN rfl rfl rfl rfl<|JR.guardN rfl rfl rfl rfl<|JR.qt rfl (SubM.nil) (SubL.nil) (Y.pickF rfl rfl) (HistOk.b rfl (HistOk.b rfl (HistOk.b rfl (HistOk.b rfl (HistOk.b rfl HistOk.z)))))<|JR.qt rfl (SubM.nil) (SubL.nil) (Y.move rfl) (HistOk.b rfl (HistOk.b rfl (HistOk.b rfl (HistOk.b rfl (HistOk.b rfl HistOk.z)))))<|JR.guardN rfl rfl rfl rfl<|JR.guardN rfl rfl rfl rfl<|JR.guardN rfl rfl rfl rfl<|JR.guardN rfl rfl rfl rfl<|JR.guardN rfl rfl rfl rfl<|JR.tailD 30 rfl rfl<|J.guardN rfl rfl rfl<|J.guardN rfl rfl rfl<|J.quiet (Y.pickF rfl rfl) rfl<|J.quiet (Y.assign rfl) rfl<|J.done<|J.thenN ?_
      exact J.meetI (false) (()) h SF (SubM.nil) (LentAll.refl _ _)
    ·have h:=ifBN hp22 h
     refine JR.guardN rfl rfl rfl rfl<|JR.guardN rfl rfl rfl rfl<|JR.guardN rfl rfl rfl rfl<|JR.guardN rfl rfl rfl rfl<|JR.guardN rfl rfl rfl rfl<|JR.guardN rfl rfl rfl rfl<|JR.guardN rfl rfl rfl rfl<|JR.qt rfl (SubM.nil) (SubL.nil) (Y.pickF rfl rfl) (HistOk.b rfl (HistOk.b rfl (HistOk.b rfl HistOk.z)))<|JR.qt rfl (SubM.nil) (SubL.nil) (Y.move rfl) (HistOk.b rfl (HistOk.b rfl (HistOk.b rfl HistOk.z)))<|JR.guardN rfl rfl rfl rfl<|JR.guardN rfl rfl rfl rfl<|JR.guardN rfl rfl rfl rfl<|JR.guardN rfl rfl rfl rfl<|JR.guardN rfl rfl rfl rfl<|JR.qt rfl (SubM.nil) (SubL.nil) (Y.pickF rfl rfl) (HistOk.b rfl (HistOk.b rfl (HistOk.b rfl HistOk.z)))<|JR.qt rfl (SubM.nil) (SubL.nil) (Y.move rfl) (HistOk.b rfl (HistOk.b rfl (HistOk.b rfl HistOk.z)))<|JR.guardN rfl rfl rfl rfl<|JR.guardN rfl rfl rfl rfl<|JR.guardN rfl rfl rfl rfl<|JR.guardN rfl rfl rfl rfl<|JR.guardN rfl rfl rfl rfl<|JR.tailD 30 rfl rfl<|J.guardN rfl rfl rfl<|J.guardN rfl rfl rfl<|J.quiet (Y.pickF rfl rfl) rfl<|J.quiet (Y.assign rfl) rfl<|J.done<|J.thenN ?_
     exact J.meetI (false) (()) h SF (SubM.nil) (LentAll.refl _ _)
   ·have h:=ifBN hp15 h
    refine JR.guardN rfl rfl rfl rfl<|JR.guardN rfl rfl rfl rfl<|JR.guardN rfl rfl rfl rfl<|JR.guardN rfl rfl rfl rfl<|JR.guardN rfl rfl rfl rfl<|JR.qt rfl (SubM.nil) (SubL.nil) (Y.pickF rfl rfl) (HistOk.b rfl HistOk.z)<|JR.qt rfl (SubM.nil) (SubL.nil) (Y.move rfl) (HistOk.b rfl HistOk.z)<|JR.guardN rfl rfl rfl rfl<|JR.guardN rfl rfl rfl rfl<|JR.guardN rfl rfl rfl rfl<|JR.guardN rfl rfl rfl rfl<|JR.guardN rfl rfl rfl rfl<|JR.guardN rfl rfl rfl rfl<|JR.guardN rfl rfl rfl rfl<|JR.qt rfl (SubM.nil) (SubL.nil) (Y.pickF rfl rfl) (HistOk.b rfl HistOk.z)<|JR.qt rfl (SubM.nil) (SubL.nil) (Y.move rfl) (HistOk.b rfl HistOk.z)<|JR.guardN rfl rfl rfl rfl<|JR.guardN rfl rfl rfl rfl<|JR.guardN rfl rfl rfl rfl<|JR.guardN rfl rfl rfl rfl<|JR.guardN rfl rfl rfl rfl<|JR.qt rfl (SubM.nil) (SubL.nil) (Y.pickF rfl rfl) (HistOk.b rfl HistOk.z)<|JR.qt rfl (SubM.nil) (SubL.nil) (Y.move rfl) (HistOk.b rfl HistOk.z)<|JR.guardN rfl rfl rfl rfl<|JR.guardN rfl rfl rfl rfl<|JR.guardN rfl rfl rfl rfl<|JR.guardN rfl rfl rfl rfl<|JR.guardN rfl rfl rfl rfl<|JR.tailD 30 rfl rfl<|J.guardN rfl rfl rfl<|J.guardN rfl rfl rfl<|J.quiet (Y.pickF rfl rfl) rfl<|J.quiet (Y.assign rfl) rfl<|J.done<|J.thenN ?_
    exact J.meetI (false) (()) h SF (SubM.nil) (LentAll.refl _ _)
  ·clear h
   intro a10 b11 h
   unfold law38_ResetJudges_k1 at h
   refine J.ret ?_
   obtain rfl:=Option.some.inj h
   exact J.retG1 (()) rfl rfl (RV.tmp rfl) (SubM.refl _) LentAll.nil
end Go.Proofs.YtfbkplemadmbfaaGreatDoor
end
section
namespace Go.Proofs.YtfbkplemadmbfaaGreatDoor
open Go Go.Sx
theorem fit_eq (g:GR):(VG g∧Conn g->m_graph_Connected 1000 g=some true∧m_ref01_Connected 1000 g=some true)∧(¬(VG g∧Conn g)->m_graph_Connected 1000 g=some false∧m_ref01_Connected 1000 g=some false):=by
 by_cases hV:VG g
 ·obtain⟨a1,a2⟩:=connected_eq hV
  obtain⟨b1,b2⟩:=refConn_eq hV
  exact⟨fun h=>⟨a1 h.2,b1 h.2⟩,fun h=>⟨a2 fun q=>h ⟨hV,q⟩,b2 fun q=>h ⟨hV,q⟩⟩⟩
 ·refine⟨fun h=>absurd h.1 hV,fun _=>⟨?_,?_⟩⟩
  ·unfold m_graph_Connected
   have e:m_graph_Valid 1000 (g.1,g.2)=some false:=(valid_gen g).2 hV
   rw[e,bindS rfl,if_pos (by simp)]
  ·unfold m_ref01_Connected m_ref01_Distances ref01_Distances_k1
   have e:m_ref01_Valid 1000 (g.1,g.2)=some false:=(refValid_gen g).2 hV
   rw[e,bindS rfl,if_pos (by simp),if_pos rfl,bindS rfl]
   rfl
theorem ecc_same {g:GR} (hV:VG g) (hc:Conn g):∃r,m_graph_Eccentricity 1000 g 0=some r∧m_ref01_Eccentricity 1000 g 0=some r:=by
 have h1:=hV.n1
 obtain⟨r,hr,h2⟩:=eccentricity_ok hV hc (s:=0) (by omega)
 obtain⟨r',hr',h3,_⟩:=refEcc_ok hV (s:=0) (by omega)
 have:=Ecc.unique h2 (h3 hc)
 subst this
 exact⟨r,hr,hr'⟩
def cutR (m:Nat) (c:List (List Int)) (k:Nat):List (List Int):=(c.take k).map (fun l=>List.drop (Int.toNat 0) (List.take m l))++List.replicate (c.length - k) []
theorem cutR_step {m:Nat} {c:List (List Int)} {k:Nat} (hk:k<c.length):(cutR m c k).set k (List.drop (Int.toNat 0) (List.take m (at' c (k:Int))))=cutR m c (k+1):=by
 unfold cutR
 obtain⟨j,hj⟩:∃j,c.length - k=j+1:=⟨c.length - k - 1,by omega⟩
 rw[hj,List.replicate_succ,set_at _ _ _ _ k (by simp;omega)]
 have e:c.take (k+1)=c.take k++[at' c (k:Int)]:=by
  rw[List.take_add_one,List.getElem?_eq_getElem hk]
  congr 1
  have:=at'_nat (xs:=c) (i:=k)
  rw[this,List.getD_eq_getElem?_getD,List.getElem?_eq_getElem hk];rfl
 rw[e,List.map_append,List.append_assoc]
 congr 1
 show _::_=[_]++_
 rw[show c.length - (k+1)=j by omega];rfl
theorem cutR_len {m:Nat} {c:List (List Int)} {k:Nat} (hk:k<=c.length):(cutR m c k).length=c.length:=by
 unfold cutR;simp;omega
theorem cutR_all {m:Nat} {c:List (List Int)}:cutR m c c.length=c.map (fun l=>l.take m):=by
 unfold cutR
 rw[List.take_length,Nat.sub_self];simp
theorem at_map_take {m:Nat} {c:List (List Int)} {v:Nat} (hv:v<c.length):at' (c.map (fun l=>l.take m)) (v:Int)=(at' c (v:Int)).take m:=at'_map (fun l:List Int=>l.take m) (by omega) (by omega)
theorem at_take {m:Nat} {l:List Int} {i:Nat} (hi:i<m):at' (l.take m) (i:Int)=at' l (i:Int):=by
 rw[at'_nat,at'_nat,List.getD_eq_getElem?_getD,List.getD_eq_getElem?_getD,List.getElem?_take_of_lt hi]
theorem inB_cut {g:GR} {hs hs':List Int} {v x:Nat} {a:Int} (h:inB g hs v x a) (e:at' hs' (x:Int)=at' hs (x:Int)):inB g hs' v x a:=by
 unfold inB at h ⊢;rw[e];exact h
theorem CfOk.cut {g:GR} {hs:List Int} {c:List (List Int)} {m:Nat} (h:CfOk g hs c) (hm:m<=hs.length):CfOk g (hs.take m) (c.map (fun l=>l.take m)):=by
 refine⟨by simpa using h.1,fun v hv=> ?_⟩
 have hv':v<c.length:=by rw[h.1];exact hv
 rw[at_map_take hv']
 obtain⟨h1,h2⟩:=h.2 v hv
 refine⟨by simp;omega,fun x hx=> ?_⟩
 have hx':x<m:=by simp at hx;omega
 rw[at_take hx']
 exact inB_cut (h2 x (by omega)) (at_take hx')
def rHs (g:GR):List Int:=[(g.2.length:Int),-1,1,1,3,1]
theorem rVars:∃l:List VarR,m_ref38_Vars 1000=some l∧l.length=6∧∀n:Nat,n<=24->∀x:Nat,x<6->VarB n (at' l (x:Int)) (at' [(n:Int),-1,1,1,3,1] (x:Int)):=by
 refine⟨_,rfl,rfl,fun n hn x hx=> ?_⟩
 match x,hx with
 |0,_=>exact .inr (.inr ⟨by decide,by decide,rfl,rfl,by show 0<=(n:Int);omega,by show(n:Int)<1000000;omega,by show wI .i64 (0+wI .i64 (1*(n:Int)))=(n:Int);rw[wr (x:=1*(n:Int)) (by omega) (by omega),wr (by omega) (by omega)];omega⟩)
 |1,_=>exact .inr (.inl ⟨rfl,rfl⟩)
 |2,_=>exact .inl ⟨rfl,rfl⟩
 |3,_=>exact .inl ⟨rfl,rfl⟩
 |4,_=>exact .inr (.inr ⟨by decide,by decide,rfl,rfl,by show(0:Int)<=3;omega,by show(3:Int)<1000000;omega,by show wI .i64 (3+wI .i64 (0*(n:Int)))=3;rw[Int.zero_mul];rfl⟩)
 |5,_=>exact .inl ⟨rfl,rfl⟩
section
variable {g:GR} (hV:VG g) (hc:Conn g)
 include hV hc
theorem rConf (c:List (List Int)):(CfOk g (rHs g) c->m_reset_configuration 1000 g c=some true∧∃l,m_ref38_Vars 1000=some l∧m_ref23_Config 1000 g c l=some true)∧(¬CfOk g (rHs g) c->m_reset_configuration 1000 g c=some false∧∃l,m_ref38_Vars 1000=some l∧m_ref23_Config 1000 g c l=some false):=by
 obtain⟨l,h1,h2,h3⟩:=rVars
 have h24:=hV.n24
 have e1:m_graph_Connected 1000 (g.1,g.2)=some true:=((fit_eq g).1 ⟨hV,hc⟩).1
 have q1:=configuration_eq hV (hs:=rHs g) (by simp[rHs]) c
 have q2:=refConfig_eq hV (hs:=rHs g) (vars:=l) (by simp[rHs]) (by rw[h2];rfl) (fun x hx=>h3 _ h24 x hx) c
 have e2:m_reset_configuration 1000 g c=m_bfs_Configuration 1000 g c (rHs g):=by
  unfold m_reset_configuration m_reset_Fit reset_configuration_k1
  rw[e1,bindS rfl,bindS rfl,if_pos rfl]
  have:m_bfs_Configuration 1000 (g.1,g.2) c [(g.1.length:Int),-1,1,1,3,1]=m_bfs_Configuration 1000 g c (rHs g):=by rw[hV.len];rfl
  rw[this]
  cases m_bfs_Configuration 1000 g c (rHs g)<;>rfl
 rw[e2]
 exact⟨fun h=>⟨q1.1 h,l,h1,q2.1 h⟩,fun h=>⟨q1.2 h,l,h1,q2.2 h⟩⟩
def RAt (c:List (List Int)) (v:Nat):Prop:=at' (at' c (v:Int)) 2=0∧at' (at' c (v:Int)) 5=0∧at' (at' c (v:Int)) 3=at' (at' c 0) 3

 omit hc in
theorem rLoop {c:List (List Int)} (h:CfOk g (rHs g) c):(((∀v,v<g.2.length->RAt c v)->iter (reset_Legit_s1 c) 1000 0=some true)∧(¬(∀v,v<g.2.length->RAt c v)->iter (reset_Legit_s1 c) 1000 0=some false))∧
   (((∀v,v<g.2.length->RAt c v)->iter (ref38_Legit_s1 c) 1000 0=some true)∧(¬(∀v,v<g.2.length->RAt c v)->iter (ref38_Legit_s1 c) 1000 0=some false)):=by
  have h24:=hV.n24
  have hl:=h.1
  have hr:∀v,v<g.2.length->(at' c (v:Int)).length=6:=fun v hv=>(h.2 v hv).1
  have hr0:(at' c 0).length=6:=hr 0 (by have:=hV.n1;omega)
  refine⟨iter_early (step:=reset_Legit_s1 c) (K:=some true) (bad:=some false) g.2.length (RAt c) (fun k=>(k:Int)) (fun k ag hk hp=> ?_) (fun k ag hk hp=> ?_) (fun ag=> ?_) 1000 (by omega),iter_early (step:=ref38_Legit_s1 c) (K:=some true) (bad:=some false) g.2.length (RAt c) (fun k=>(k:Int)) (fun k ag hk hp=> ?_) (fun k ag hk hp=> ?_) (fun ag=> ?_) 1000 (by omega)⟩
  ·have:=hr k hk
   unfold reset_Legit_s1 reset_Legit_k3
   rw[if_pos (by omega),ckT (by omega),ckT (by omega),if_neg (by simpa using hp.1),ckT (by omega),if_neg (by simpa using hp.2.1),ckT (by omega),ckT (by omega),ckT (by omega),if_neg (by simpa using hp.2.2),wIncI (by omega)]
  ·have:=hr k hk
   unfold reset_Legit_s1 reset_Legit_k3
   rw[if_pos (by omega),ckT (by omega),ckT (by omega)]
   by_cases e1:at' (at' c (k:Int)) 2=0
   ·rw[if_neg (by simpa using e1),ckT (by omega)]
    by_cases e2:at' (at' c (k:Int)) 5=0
    ·rw[if_neg (by simpa using e2),ckT (by omega),ckT (by omega),ckT (by omega),if_pos]
     rw[decide_eq_true_eq]
     exact fun e3=>hp ⟨e1,e2,e3⟩
    ·rw[if_pos e2,if_pos rfl]
   ·rw[if_pos e1,if_pos rfl]
  ·unfold reset_Legit_s1
   rw[if_neg (by omega)];rfl
  ·have:=hr k hk
   unfold ref38_Legit_s1 ref38_Legit_k3
   rw[if_pos (by omega),ckT (by omega),ckT (by omega),if_neg (by simpa using hp.1),ckT (by omega),ckT (by omega),if_neg (by simpa using hp.2.1),ckT (by omega),ckT (by omega),ckT (by omega),ckT (by omega),if_neg (by simpa using hp.2.2),wIncI (by omega)]
  ·have:=hr k hk
   unfold ref38_Legit_s1 ref38_Legit_k3
   rw[if_pos (by omega),ckT (by omega),ckT (by omega)]
   by_cases e1:at' (at' c (k:Int)) 2=0
   ·rw[if_neg (by simpa using e1),ckT (by omega),ckT (by omega)]
    by_cases e2:at' (at' c (k:Int)) 5=0
    ·rw[if_neg (by simpa using e2),ckT (by omega),ckT (by omega),ckT (by omega),ckT (by omega),if_pos]
     rw[decide_eq_true_eq]
     exact fun e3=>hp ⟨e1,e2,e3⟩
    ·rw[if_pos e2,if_pos rfl]
   ·rw[if_pos e1,if_pos rfl]
  ·unfold ref38_Legit_s1
   rw[if_neg (by omega)];rfl
def RLeg (g:GR) (c:List (List Int)):Prop:=CfOk g (rHs g) c∧(∃d,Dist g 0 d∧∀v,v<g.2.length->TreeAt g d v (at' c (v:Int)))∧∀v,v<g.2.length->RAt c v
theorem rLegit (c:List (List Int)):∃b,m_reset_Legit 1000 g c=some b∧m_ref38_Legit 1000 g c=some b∧(b=true↔RLeg g c):=by
 have h24:=hV.n24
 have h1:=hV.n1
 obtain⟨d,hd,hD⟩:=search_ok hV (s:=0) (by omega)
 have huni:∀d',Dist g 0 d'->d'=d:=fun d' hD'=>by
  have q1:=refDistances_eq hV (s:=0) (by omega) hD
  have q2:=refDistances_eq hV (s:=0) (by omega) hD'
  rw[q1]at q2;exact(Option.some.inj q2).symm
 have eF:m_ref01_Connected 1000 (g.1,g.2)=some true:=((fit_eq g).1 ⟨hV,hc⟩).2
 obtain⟨k1,k2⟩:=rConf hV hc c
 by_cases hcf:CfOk g (rHs g) c
 ·obtain⟨e1,l,e2,e3⟩:=k1 hcf
  obtain⟨⟨a1,a2⟩,b1,b2⟩:=rLoop hV hcf
  have hlen:=hcf.1
  have hcut:=hcf.cut (m:=2) (by simp[rHs])
  have hcut':CfOk g [(g.2.length:Int),-1] (c.map fun l=>l.take 2):=hcut
  have htr:∀v,v<g.2.length->(TreeAt g d v (at' (c.map fun l=>l.take 2) (v:Int))↔TreeAt g d v (at' c (v:Int))):=fun v hv=>by
   rw[at_map_take (by omega)]
   unfold TreeAt
   have t0:at' ((at' c (v:Int)).take 2) 0=at' (at' c (v:Int)) 0:=at_take (i:=0) (by omega)
   have t1:at' ((at' c (v:Int)).take 2) 1=at' (at' c (v:Int)) 1:=at_take (i:=1) (by omega)
   rw[t0,t1]
  obtain⟨t1,t2⟩:=bfsLegit_eq hV hD rfl hc (c:=c.map fun l=>l.take 2) hcut'
  obtain⟨u1,u2⟩:=tree_eq hV hD (by omega) (c:=c) hlen (fun v hv=>by have:(at' c (v:Int)).length=6:=(hcf.2 v hv).1;omega)
  have eP:m_reset_Legit 1000 g c=Option.bind (m_bfs_Legit 1000 g (c.map fun l=>l.take 2)) fun r=>reset_Legit_k1 1000 c (!r):=by
   unfold m_reset_Legit
   rw[show m_reset_configuration 1000 (g.1,g.2) c=some true from e1,bindS rfl,if_neg (by simp),ckT (by omega)]
   have key:=iter_for (step:=reset_Legit_s2 1000 g c) (K:=reset_Legit_k5 1000 g c (cutR 2 c c.length)) c.length (fun k=>((k:Int),cutR 2 c k)) (fun k ag hk=> ?_) (fun ag=> ?_) 1000 (by omega)
   ·rw[show(((0:Nat):Int),cutR 2 c 0)=((0:Int),List.replicate (Int.toNat (c.length:Int)) ([]:List Int)) by simp[cutR]]at key
    rw[key,cutR_all];rfl
   ·have hk6:(at' c (k:Int)).length=6:=(hcf.2 k (by omega)).1
    unfold reset_Legit_s2
    dsimp only
    rw[if_pos (by omega),ckT (by omega),ckT (by omega),ckT (by rw[cutR_len (by omega)];omega),wIncI (by omega)]
    have:=cutR_step (m:=2) hk
    rw[show Int.toNat (k:Int)=k from rfl,show Int.toNat (2:Int)=2 from rfl,this]
   ·unfold reset_Legit_s2
    dsimp only
    rw[if_neg (by omega)]
  have eR:m_ref38_Legit 1000 g c=Option.bind (m_ref23_Tree 1000 g c 0 0 1) fun r=>ref38_Legit_k1 1000 c (!r):=by
   unfold m_ref38_Legit m_ref38_Fit
   rw[eF,bindS rfl,bindS rfl,if_neg (by simp),e2,bindS rfl,show m_ref23_Config 1000 (g.1,g.2) c l=some true from e3,bindS rfl,if_neg (by simp)]
  rw[eP,eR]
  by_cases hT:∀v,v<g.2.length->TreeAt g d v (at' c (v:Int))
  ·rw[t1 fun v hv=>(htr v hv).2 (hT v hv),bindS rfl,show m_ref23_Tree 1000 g c 0 0 1=some true from u1 hT,bindS rfl]
   unfold reset_Legit_k1 ref38_Legit_k1
   rw[if_neg (by simp),if_neg (by simp)]
   by_cases hR:∀v,v<g.2.length->RAt c v
   ·exact⟨true,a1 hR,b1 hR,⟨fun _=>⟨hcf,⟨d,hD,hT⟩,hR⟩,fun _=>rfl⟩⟩
   ·exact⟨false,a2 hR,b2 hR,⟨fun h=>(by cases h),fun h=>absurd h.2.2 hR⟩⟩
  ·rw[t2 fun h=>hT fun v hv=>(htr v hv).1 (h v hv),bindS rfl,show m_ref23_Tree 1000 g c 0 0 1=some false from u2 hT,bindS rfl]
   unfold reset_Legit_k1 ref38_Legit_k1
   rw[if_pos (by simp),if_pos (by simp)]
   exact⟨false,rfl,rfl,⟨fun h=>(by cases h),fun⟨_,⟨d',hD',h⟩,_⟩=>absurd (huni d' hD'▸h) hT⟩⟩
 ·obtain⟨e1,l,e2,e3⟩:=k2 hcf
  refine⟨false,?_,?_,⟨fun h=>(by cases h),fun h=>absurd h.1 hcf⟩⟩
  ·unfold m_reset_Legit reset_Legit_k1
   rw[show m_reset_configuration 1000 (g.1,g.2) c=some false from e1,bindS rfl,if_pos (by simp),if_pos rfl]
  ·unfold m_ref38_Legit m_ref38_Fit ref38_Legit_k1
   rw[eF,bindS rfl,bindS rfl,if_neg (by simp),e2,bindS rfl,show m_ref23_Config 1000 (g.1,g.2) c l=some false from e3,bindS rfl,if_pos (by simp),if_pos rfl]
theorem rClaim:∃r,m_reset_Claim 1000 g=some r∧m_ref38_Claim 1000 g=some r:=by
 obtain⟨r,h1,h2⟩:=ecc_same hV hc
 obtain⟨f1,f2⟩:=(fit_eq g).1 ⟨hV,hc⟩
 refine⟨(3,true,true,wI .i64 (wI .i64 (7*r)+4),-1),?_,?_⟩
 rotate_left
 ·unfold m_ref38_Claim m_ref38_Fit
  rw[show m_ref01_Connected 1000 (g.1,g.2)=some true from f2,bindS rfl,bindS rfl,if_neg (by simp),show m_ref01_Eccentricity 1000 (g.1,g.2) 0=some r from h2,bindS rfl]
 ·unfold m_reset_Claim m_reset_Fit
  rw[show m_graph_Connected 1000 (g.1,g.2)=some true from f1,bindS rfl,bindS rfl,if_neg (by simp),show m_graph_Eccentricity 1000 (g.1,g.2) 0=some r from h1,bindS rfl]
def bitR (c:List (List Int)) (v:Nat):Bool:=decide (at' (at' c (v:Int)) 5=1)
theorem rReq (c:List (List Int)):∃m,m_reset_Requests 1000 g c=some m∧m_ref38_Requests 1000 g c=some m:=by
 have h24:=hV.n24
 have eF:m_ref01_Connected 1000 (g.1,g.2)=some true:=((fit_eq g).1 ⟨hV,hc⟩).2
 obtain⟨k1,k2⟩:=rConf hV hc c
 by_cases hcf:CfOk g (rHs g) c
 ·obtain⟨e1,l,e2,e3⟩:=k1 hcf
  have hl:=hcf.1
  have hr:∀v,v<g.2.length->(at' c (v:Int)).length=6:=fun v hv=>(hcf.2 v hv).1
  have h5:∀v,v<g.2.length->at' (at' c (v:Int)) 5=0∨at' (at' c (v:Int)) 5=1:=fun v hv=>by
   have:=(hcf.2 v hv).2 5 (by simp[rHs])
   unfold inB at this
   rw[if_neg (by show¬(1:Int) = -1;omega)]at this
   have e:at' (rHs g) ((5:Nat):Int)=1:=rfl
   rw[e]at this
   have e':at' (at' c (v:Int)) ((5:Nat):Int)=at' (at' c (v:Int)) 5:=rfl
   rw[e']at this
   omega
  refine⟨(maskN (bitR c) c.length:Nat),?_,?_⟩
  ·unfold m_reset_Requests
   rw[show m_reset_configuration 1000 (g.1,g.2) c=some true from e1,bindS rfl,if_neg (by simp)]
   refine iter_for (step:=reset_Requests_s1 c) (K:=some ((maskN (bitR c) c.length:Nat):Int)) c.length (fun k=>(((maskN (bitR c) k:Nat):Int),(k:Int))) (fun k ag hk=> ?_) (fun ag=> ?_) 1000 (by omega)
   ·have h6:=hr k (by omega)
    have hm:=maskN32 (bitR c) (k:=k) (by omega)
    unfold reset_Requests_s1
    dsimp only
    rw[if_pos (by omega),ckT (by omega),ckT (by omega),ckT (by omega),wIncI (by omega)]
    rcases h5 k (by omega)with e|e
    ·rw[e]
     have hb:bitR c k=false:=by unfold bitR;rw[e];decide
     have hz:bShl .u32 (wI .u32 0) (k:Int)=((0:Nat):Int):=by
      have:∀k:Fin 32,bShl .u32 (wI .u32 0) ((k:Nat):Int)=((0:Nat):Int):=by decide +kernel
      exact this ⟨k,by omega⟩
     rw[hz,bOrN hm (by omega),Nat.or_zero]
     simp only[maskN,hb,Bool.false_eq_true,if_false]
    ·rw[e]
     have hb:bitR c k=true:=by unfold bitR;rw[e];decide
     have e':wI .u32 1=1:=by decide +kernel
     rw[e',bOrBit hm (by omega)]
     simp only[maskN,hb,if_true]
   ·unfold reset_Requests_s1
    dsimp only
    rw[if_neg (by omega)];rfl
  ·unfold m_ref38_Requests m_ref38_Fit ref38_Requests_k1
   rw[eF,bindS rfl,bindS rfl,if_neg (by simp),e2,bindS rfl,show m_ref23_Config 1000 (g.1,g.2) c l=some true from e3,bindS rfl,if_neg (by simp)]
   have key:m_ref31_Ones 1000 c 5=some ((maskN (bitR c) c.length:Nat):Int):=by
    unfold m_ref31_Ones
    refine iter_for (step:=ref31_Ones_s1 c 5) (K:=some ((maskN (bitR c) c.length:Nat):Int)) c.length (fun k=>(((maskN (bitR c) k:Nat):Int),(k:Int))) (fun k ag hk=> ?_) (fun ag=> ?_) 1000 (by omega)
    ·have h6:=hr k (by omega)
     have hm:=maskN32 (bitR c) (k:=k) (by omega)
     unfold ref31_Ones_s1 ref31_Ones_k2
     dsimp only
     rw[if_pos (by omega),ckT (by omega),ckT (by omega)]
     by_cases e:at' (at' c (k:Int)) 5=1
     ·have hb:bitR c k=true:=by unfold bitR;rw[e];decide
      rw[if_pos e,wU64 (by omega),ckT (by omega),bOrBit hm (by omega),wIncI (by omega)]
      simp only[maskN,hb,if_true]
     ·have hb:bitR c k=false:=by unfold bitR;exact decide_eq_false e
      rw[if_neg e,wIncI (by omega)]
      simp only[maskN,hb,Bool.false_eq_true,if_false]
    ·unfold ref31_Ones_s1
     dsimp only
     rw[if_neg (by omega)];rfl
   rw[key];rfl
 ·obtain⟨e1,l,e2,e3⟩:=k2 hcf
  refine⟨0,?_,?_⟩
  ·unfold m_reset_Requests
   rw[show m_reset_configuration 1000 (g.1,g.2) c=some false from e1,bindS rfl,if_pos (by simp)]
  ·unfold m_ref38_Requests m_ref38_Fit ref38_Requests_k1
   rw[eF,bindS rfl,bindS rfl,if_neg (by simp),e2,bindS rfl,show m_ref23_Config 1000 (g.1,g.2) c l=some false from e3,bindS rfl,if_pos (by simp)]
end
theorem resets_same (g:GR) (c:List (List Int)):∃a b d e,m_reset_Fit 1000 g=some a∧m_ref38_Fit 1000 g=some a∧m_reset_Legit 1000 g c=some b∧m_ref38_Legit 1000 g c=some b∧m_reset_Claim 1000 g=some d∧m_ref38_Claim 1000 g=some d∧m_reset_Requests 1000 g c=some e∧m_ref38_Requests 1000 g c=some e:=by
 by_cases h:VG g∧Conn g
 ·obtain⟨hV,hc⟩:=h
  obtain⟨f1,f2⟩:=(fit_eq g).1 ⟨hV,hc⟩
  obtain⟨b,b1,b2,_⟩:=rLegit hV hc c
  obtain⟨d,d1,d2⟩:=rClaim hV hc
  obtain⟨e,e1,e2⟩:=rReq hV hc c
  exact⟨true,b,d,e,by unfold m_reset_Fit;rw[show m_graph_Connected 1000 (g.1,g.2)=some true from f1];rfl,by unfold m_ref38_Fit;rw[show m_ref01_Connected 1000 (g.1,g.2)=some true from f2];rfl,b1,b2,d1,d2,e1,e2⟩
 ·obtain⟨f1,f2⟩:=(fit_eq g).2 h
  have g1:m_reset_Fit 1000 (g.1,g.2)=some false:=by unfold m_reset_Fit;rw[show m_graph_Connected 1000 (g.1,g.2)=some false from f1];rfl
  have g2:m_ref38_Fit 1000 (g.1,g.2)=some false:=by unfold m_ref38_Fit;rw[show m_ref01_Connected 1000 (g.1,g.2)=some false from f2];rfl
  have g3:m_reset_configuration 1000 (g.1,g.2) c=some false:=by unfold m_reset_configuration;rw[g1,bindS rfl,if_neg (by simp)];rfl
  refine⟨false,false,(0,false,false,0,0),0,g1,g2,?_,?_,?_,?_,?_,?_⟩
  ·unfold m_reset_Legit;rw[g3,bindS rfl,if_pos (by simp)];rfl
  ·unfold m_ref38_Legit;rw[g2,bindS rfl,if_pos (by simp)];rfl
  ·unfold m_reset_Claim;rw[g1,bindS rfl,if_pos (by simp)]
  ·unfold m_ref38_Claim;rw[g2,bindS rfl,if_pos (by simp)]
  ·unfold m_reset_Requests;rw[g3,bindS rfl,if_pos (by simp)]
  ·unfold m_ref38_Requests;rw[g2,bindS rfl,if_pos (by simp)];rfl
theorem reset_pure (g:GR) (c:List (List Int)):m_law38_ResetJudges 1000 g c=some true:=by
 have hk:m_law38_known 1000=some true:=rfl
 obtain⟨a,b,d,e,a1,a2,b1,b2,d1,d2,e1,e2⟩:=resets_same g c
 unfold m_law38_ResetJudges
 have hl:∃r,m_law38_large 1000 (g.1,g.2) c=some r:=by
  unfold m_law38_large law38_large_k1
  split
  ·exact⟨_,rfl⟩
  ·split
   ·exact⟨_,rfl⟩
   ·exact⟨_,rfl⟩
 obtain⟨r,hr⟩:=hl
 rw[hr,bindS rfl]
 cases r with
 |true=>rw[if_pos rfl,hk];rfl
 | false =>
  rw[if_neg (by simp),hk,bindS rfl,if_pos rfl]
  rw[show m_reset_Fit 1000 (g.1,g.2)=some a from a1,bindS rfl,show m_ref38_Fit 1000 (g.1,g.2)=some a from a2,bindS rfl,if_pos (by simp),show m_reset_Legit 1000 (g.1,g.2) c=some b from b1,bindS rfl,show m_ref38_Legit 1000 (g.1,g.2) c=some b from b2,bindS rfl,if_pos (by simp),
   show m_reset_Claim 1000 (g.1,g.2)=some d from d1,bindS rfl,show m_ref38_Claim 1000 (g.1,g.2)=some d from d2,bindS rfl,if_pos rfl,show m_reset_Requests 1000 (g.1,g.2) c=some e from e1,bindS rfl,show m_ref38_Requests 1000 (g.1,g.2) c=some e from e2,bindS rfl]
  unfold law38_ResetJudges_k1
  simp
end Go.Proofs.YtfbkplemadmbfaaGreatDoor
end
section
set_option maxRecDepth 100000
namespace Go.Sx
open Go.RowKit Go.ChangeShapes Go.WideShapes Go.ChangeAt Go.Proofs Go.Joins
theorem gb_of_laid {P:Program} {W:World} {n:String} {b m t t':Nat} {k:IntKind} {xs:List Int} (h:laidMet P [(n,.agg (xs.map fun x=> .lit (.int k x)))] W) (hg:P.globalNamed n=some b)
  (ht:(P.globals[b]?).map (·.type)=some t) (hu:P.underlying t=some (.array m t')) (hu':P.underlying t'=some (.int k)) (hc:P.cellsOf t'=1) (hcm:P.cellsOf t=m) (hm:0<m):(Gb b (cellsOf (Enc.int k) xs)).p W (fun _=>True):=by
 obtain⟨ps,⟨g,t2,cs,fuel,p,q,e1,e2,e3,e4,e5,e6⟩,hnd,hcell⟩:=h
 rw[hg]at e1;cases e1
 rw[ht]at e2;cases e2
 refine⟨trivial,?_⟩
 obtain⟨ys,ml,_,e7,hl,hyl,hf⟩:=DataW.trod_array hu e4
 simp only[Prod.mk.injEq,DataW.agg.injEq]at e7
 have hlen:xs.length=m:=by rw[<-hyl];simpa using congrArg List.length e7.1
 have hcl:cs.size=m:=by rw[<-hcm,<-hl];simp
 have hcs:cs.toList=cellsOf (Enc.int k) xs:=by
  refine List.ext_getElem? fun i=> ?_
  by_cases hi:i<m
  ·have h1:=hf i hi
   rw[hc,Nat.mul_one]at h1
   have hx:xs[i]? = some (xs[i]'(by omega)):=List.getElem?_eq_getElem _
   have h2:=cellsOf_get (Enc.int k) xs i _ hx 0 _ rfl
   rw[show i*(Enc.int k).sz+0=i from Nat.mul_one i]at h2
   rw[h2]
   have hy:ys[i]? = some (ys[i]'(by omega)):=List.getElem?_eq_getElem _
   rw[hy]at h1
   obtain⟨z,hz,hz2,_⟩:=DataW.trod_int hu' h1
   have hc0:cs.toList[i]? = some (.int k z):=by
    have:=congrArg (·[0]?) hz
    simpa [List.getElem?_take,List.getElem?_drop]using this
   rw[hc0]
   have h3:=congrArg (·[i]?) e7.1
   simp only[List.getElem?_map,hx,hy,Option.map_some,Option.some.injEq]at h3
   rw[hz2]at h3
   have h4:xs[i]=z:=by simpa using h3
   rw[h4]
  ·rw[List.getElem?_eq_none (by simp;omega),List.getElem?_eq_none (by rw[cellsOf_length,hlen];show m*1<=i;omega)]
 have hmem:MemPlace.cell b 0∈ps:=by
  rw[e6]
  refine List.mem_append_left _ (List.mem_append_left _ ?_)
  exact List.mem_map.2 ⟨0,by simp;omega,rfl⟩
 obtain⟨⟨c,T,hb⟩,_⟩:=hcell b 0 hmem
 refine⟨T,?_⟩
 have h5:c=cs:=by
  have h6:(W.var? P n)=some c:=by unfold World.var?;rw[hg];simp[hb]
  rw[h6]at e3;exact Option.some.inj e3
 rw[hb,h5,<-hcs]
theorem law_liftedL {H:Type} {enc:TypeId×Value->H} {os:Os} (ld:List (String×DataW Unit)) (hpl:(ld.all fun x=>x.2.handleName?.isNone)=true) (started:os.Started) {f:FuncId} {fn:Func} {s:ChangeSpec} {r:Bool} (hfn:Tryz.prog.funcs[f]? = some fn) (noInit:Tryz.prog.inits.idxOf? f=none)
  (hread:(fn.params.toList.all fun t=>Tryz.prog.readableRec t&&decide (t<Tryz.prog.types.size))=true) (hres:fn.resultTypes = #[4]) (hvars:s.vars=[])
  (hspec:∀ds:List (DataW H),ds.length=fn.params.toList.length->s.fn H ds={results:=[.lit (.bool true)],args:=ds})
  (witness:∃(w:World) (tape:Tape) (i:Input),w.os=os∧(w.forCall tape i).Shaped Tryz.prog∧i.vars=[]∧Input.okWide Tryz.prog (w.forCall tape i) .any w.heap.size f i∧
   ((s.pre enc Tryz.prog fn [] false (w.forCall tape i).memory i.args∧laidMetH Tryz.prog ld (w.forCall tape i).memory)∧sizedMet enc Tryz.prog fn (OpenSpec.ofChange s) false (w.forCall tape i).memory i.args)∧({}:Assume).holds Tryz.prog (lone (Frame.enter Tryz.prog f i.args .normal) [] (w.forCall tape i)))
  (main:∀(W:World) (base:Nat) (args:Array Value) (ds:List (DataW H)) (p:List MemPlace),laidMetH Tryz.prog ld W->(∀(j:Nat) t v,fn.params[j]? = some t->args[j]? = some v->Value.okWide Tryz.prog W .any base t v)->
   DataW.TrodAll enc Tryz.prog W 0 (fun _=>true) true fn.params.toList args.toList ds p->Calls Tryz.prog f args W fun e W'=>e = .returned (.bool true)∧Ext W W'):
  ReturnsInHanded {} Go.Proofs.YtfbkplemadmbfaaGreatDoor.Tryz.pinned.checked os f .any (fun w args=>(s.pre enc Tryz.prog fn [] false w args∧laidMetH Tryz.prog ld w)∧sizedMet enc Tryz.prog fn (OpenSpec.ofChange s) false w args) (s.post enc Tryz.prog fn false r false false):=by
 refine returnsInHanded_of_change_and (C:=Go.Proofs.YtfbkplemadmbfaaGreatDoor.Tryz.pinned.checked) (X:=fun w _=>laidMetH Tryz.prog ld w) (fun _ _ _ hh h=>by rw[MakeChecks.laidMetH_plain _ _ _ hpl]at h ⊢;exact h.of_heap hh) own0 started noInit hfn witness ?_
 intro W base args ds gs before hval hW _ _ hL _
 have hlt:=hW.lt
 have hW':=hW
 obtain⟨p,q,hA,hV,rfl,_,_⟩:=hW
 rw[hvars]at hV
 obtain⟨rfl,rfl⟩:=trodVars_none hV
 refine(main W base args ds p hL hval hA).mono ?_
 rintro e W' ⟨rfl,hb⟩
 refine⟨_,rfl,?_⟩
 have hlen:ds.length=fn.params.toList.length:=by
  have:∀(ts:List TypeId) (vs:List Value) (ds:List (DataW H)) (p:List MemPlace),DataW.TrodAll enc Tryz.prog W 0 (fun _=>true) true ts vs ds p->ds.length=ts.length:=by
   intro ts
   induction ts with
   |nil=>intro vs ds p h;cases vs<;>cases ds<;>first|rfl|exact h.elim
   | cons t ts ih =>
    intro vs ds p h
    cases vs with
    |nil=>exact h.elim
    |cons v vs=>
     cases ds with
     |nil=>exact h.elim
     |cons d ds=>obtain⟨_,_,_,h2,_⟩:=h;simp[ih vs ds _ h2]
  exact this _ _ _ _ hA
 have hs:s.fn H (ds++[])={results:=[.lit (.bool true)],args:=ds}:=by rw[List.append_nil];exact hspec ds hlen
 refine⟨ds,[],p++[],[],p,[],hW',?_,?_,?_,hb.frame _,fun h=>by cases h⟩
 ·rw[hs,hres]
  exact trodAll_mk1 (shut_bool Tryz.underlying4 true)
 ·rw[hs]
  exact trodAll_below laid0 hb _ _ _ _ hread hA (fun x hx=>hlt x (List.mem_append_left _ hx))
 ·rw[hs,hvars];exact rfl
theorem laidPlain {P:Program} {n:String} {k:IntKind} {xs:List Int} {W:World} (h:laidMetH P [(n,.agg (xs.map fun x=> .lit (.int k x)))] W):laidMet P [(n,.agg (xs.map fun x=> .lit (.int k x)))] W:=by
 rw[MakeChecks.laidMetH_plain _ _ _ (by rfl)]at h;exact h
end Go.Sx
end
